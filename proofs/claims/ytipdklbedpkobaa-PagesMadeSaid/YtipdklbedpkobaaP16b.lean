/-
  PagesMade: the ways, and the law.
-/
import Derived.Test.YtipdklbedpkobaaP16
namespace Go.Proofs.Ytipdklbedpkobaa
set_option maxRecDepth 8000
set_option linter.unusedSimpArgs false
set_option linter.unusedVariables false
open Go Xe Go.Lib Go.RowKit Go.ChangeShapes Go.WideShapes Go.ChangeAt
set_option maxHeartbeats 2000000 in
theorem PagesMade_L {W w : World} {q : Qt} {n : Int} (hq : q.ok) (hn : n = 0) (hw : Sat (envOf W) w [Old W]) :
    Calls Try.prog 3 #[q.v, .int .i64 n] w fun v w' => v = .returned (.bool true) ∧ Sat (envOf W) w' [Old W] := by
  refine calls_of_g (n := 137) Try.func3 rfl rfl rfl ?_
  change G _ _ _ _ _ [(0, _), (1, _)] _
  refine g_seq ?_
  refine g_region ?_
  refine rl_k rfl (k_box hw rfl rfl rfl (fun bk0_0 w hw => ?_))
  refine xV rfl rfl rfl (v_assign rfl) ?_
  refine rl_nil (g_le (xK (xK (Fr.le_refl _))) ?_)
  refine g_seq ?_
  refine g_region ?_
  refine rl_k rfl (k_callf Try.func10 rfl rfl rfl rfl ?_)
  refine Calls.mono (new_calls (hw.xQ)) ?_
  rintro _ w ⟨p, rfl, hw⟩
  refine ⟨_, rfl, ?_⟩
  refine rl_k rfl (k_callf Try.func9 rfl rfl rfl rfl ?_)
  refine Calls.mono (mnew_calls p 2 100 (by omega) (by omega) (by omega) (by omega) hw) ?_
  rintro _ w ⟨m, rfl, hw⟩
  refine ⟨_, rfl, ?_⟩
  refine xV rfl rfl rfl (v_move rfl) ?_
  refine xV rfl rfl rfl (v_extract rfl rfl) ?_
  refine xV rfl rfl rfl (v_extract rfl rfl) ?_
  refine xV rfl rfl rfl (v_assign rfl) ?_
  refine xV rfl rfl rfl (v_assign rfl) ?_
  refine rl_nil (g_le (xK (xK (xS rfl (xS rfl (xS rfl (xS rfl (xS rfl (Fr.le_refl _)))))))) ?_)
  refine g_seq ?_
  refine g_region ?_
  refine rl_k rfl (k_callf Try.func11 rfl rfl rfl rfl ?_)
  refine Calls.mono (canew_calls hw) ?_
  rintro _ w ⟨c, rfl, hw⟩
  refine ⟨_, rfl, ?_⟩
  refine xV rfl rfl rfl (v_move rfl) ?_
  refine xV rfl rfl rfl (v_extract rfl rfl) ?_
  refine xV rfl rfl rfl (v_extract rfl rfl) ?_
  refine xV rfl rfl rfl (v_assign rfl) ?_
  refine xV rfl rfl rfl (v_assign rfl) ?_
  refine rl_nil (g_le (xK (xK (xS rfl (xS rfl (xS rfl (xS rfl (Fr.le_refl _))))))) ?_)
  refine g_seq ?_
  refine g_region ?_
  refine rl_k rfl (k_callf Try.func12 rfl rfl rfl rfl ?_)
  refine Calls.mono (dnew_calls hw) ?_
  rintro _ w ⟨d, rfl, hw⟩
  refine ⟨_, rfl, ?_⟩
  refine xV rfl rfl rfl (v_move rfl) ?_
  refine xV rfl rfl rfl (v_extract rfl rfl) ?_
  refine xV rfl rfl rfl (v_extract rfl rfl) ?_
  refine xV rfl rfl rfl (v_assign rfl) ?_
  refine xV rfl rfl rfl (v_assign rfl) ?_
  refine rl_nil (g_le (xK (xK (xS rfl (xS rfl (xS rfl (xS rfl (Fr.le_refl _))))))) ?_)
  refine g_seq (g_seq ?_)
  refine g_region ?_
  refine xV rfl rfl rfl (v_move rfl) ?_
  refine xV rfl rfl rfl (v_neqF rfl rfl (by omega)) ?_
  refine xV rfl rfl rfl (v_move rfl) ?_
  refine rl_split (s := 29) rfl (fun g4_2 => ?_) (fun g4_2 => ?_)
  · try with_reducible exact ft_elim g4_2
    all_goals
      try replace g4_2 := of_decide_eq_true g4_2
      try (exfalso; omega)
      all_goals
        refine rl_off (met_off rfl rfl rfl rfl rfl) rfl rfl ?_
        refine rl_off (met_off rfl rfl rfl rfl rfl) rfl rfl ?_
        first | (refine xV rfl rfl rfl (v_pick_true rfl rfl) ?_) | (refine xV rfl rfl rfl (v_pick_false rfl rfl) ?_) | (refine xV rfl rfl rfl (v_pick rfl rfl rfl) ?_)
        refine xV rfl rfl rfl (v_move rfl) ?_
        refine rl_off (met_off rfl rfl rfl rfl rfl) rfl rfl ?_
        refine rl_off (met_off rfl rfl rfl rfl rfl) rfl rfl ?_
        first | (refine xV rfl rfl rfl (v_pick_true rfl rfl) ?_) | (refine xV rfl rfl rfl (v_pick_false rfl rfl) ?_) | (refine xV rfl rfl rfl (v_pick rfl rfl rfl) ?_)
        refine rl_nil (g_le (xK (xS rfl (xS rfl (xS rfl (xS rfl (xS rfl (xS rfl (xS rfl (xS rfl (xS rfl (xS rfl (Fr.le_refl _)))))))))))) ?_)
        refine g_cond_false rfl ?_
        refine g_skip (g_seq ?_)
        refine g_region ?_
        refine xV rfl rfl rfl (v_move rfl) ?_
        refine rl_k rfl (k_callf Try.func13 rfl rfl rfl rfl ?_)
        refine Calls.mono (snew_calls m p _ (hw.xP (A := MdAt m p ⟨100, List.replicate (2 : Int).toNat ByteArray.empty, [], 0⟩))) ?_
        rintro _ w ⟨l, lsv, rfl, hw⟩
        refine ⟨_, rfl, ?_⟩
        refine xV rfl rfl rfl (v_assign rfl) ?_
        refine rl_nil (g_le (xK (xS rfl (xS rfl (Fr.le_refl _)))) ?_)
        refine g_seq (g_seq ?_)
        refine g_region ?_
        refine xV rfl rfl rfl (v_move rfl) ?_
        refine rl_nil (g_le (xK (Fr.le_refl _)) ?_)
        refine g_block (g_seq ?_)
        refine g_region ?_
        first | (refine xV rfl rfl rfl (v_eqlT rfl rfl (by first | omega | rfl)) ?_) | (refine xV rfl rfl rfl (v_eqlF rfl rfl (by omega)) ?_) | (refine xV rfl rfl rfl (v_eql rfl rfl) ?_)
        refine xV rfl rfl rfl (v_assign rfl) ?_
        refine rl_nil (g_le (xK (xS rfl (Fr.le_refl _))) ?_)
        refine g_cond_true rfl ?_
        refine g_region ?_
        refine xV rfl rfl rfl (v_assign rfl) ?_
        refine rl_nil (g_le (xK (Fr.le_refl _)) ?_)
        refine g_inBlock (g_seq ?_)
        refine g_region ?_
        refine rl_v rfl rfl rfl (by first | exact sat_cells hw (by (repeat first | with_reducible exact xH | apply xT); first | done | fail) ⟨rfl, rfl, rfl, rfl, rfl, rfl, rfl, trivial⟩ | exact ro_ats hw (by (repeat first | with_reducible exact xH | apply xT); first | done | fail) (by assumption) | exact own_cells hw (by (repeat first | with_reducible exact xH | apply xT); first | done | fail) (by assumption) | exact old_cells hw (by (repeat first | with_reducible exact xH | apply xT); first | done | fail) (by assumption)) (v_loadAgg (vs := [_, _, _, _, _, _, _]) T.agg_23_7 rfl rfl) ?_
        refine xV rfl rfl rfl (v_move rfl) ?_
        refine xV rfl rfl rfl (v_move rfl) ?_
        refine xV rfl rfl rfl (v_move rfl) ?_
        refine rl_k rfl (k_callf Try.func14 rfl rfl rfl rfl ?_)
        refine Calls.mono (pnewL_calls q hq _ _ hw) ?_
        rintro _ w ⟨rfl, hw⟩
        refine ⟨_, rfl, ?_⟩
        refine xV rfl rfl rfl (v_move rfl) ?_
        refine xV rfl rfl rfl (v_extract rfl rfl) ?_
        refine xV rfl rfl rfl (v_extract rfl rfl) ?_
        refine xV rfl rfl rfl (v_assign rfl) ?_
        refine xV rfl rfl rfl (v_assign rfl) ?_
        refine rl_nil (g_le (xK (xK (xS rfl (xS rfl (xS rfl (xS rfl (xS rfl (xS rfl (xS rfl (xS rfl (Fr.le_refl _))))))))))) ?_)
        refine g_seq (g_seq ?_)
        refine g_region ?_
        refine rl_v rfl rfl rfl (by first | exact sat_cells hw (by (repeat first | with_reducible exact xH | apply xT); first | done | fail) ⟨rfl, rfl, rfl, rfl, rfl, rfl, rfl, trivial⟩ | exact ro_ats hw (by (repeat first | with_reducible exact xH | apply xT); first | done | fail) (by assumption) | exact own_cells hw (by (repeat first | with_reducible exact xH | apply xT); first | done | fail) (by assumption) | exact old_cells hw (by (repeat first | with_reducible exact xH | apply xT); first | done | fail) (by assumption)) (v_loadAgg (vs := [_, _, _, _, _, _, _]) T.agg_23_7 rfl rfl) ?_
        refine rl_k rfl (k_callf Try.func15 rfl rfl rfl rfl ?_)
        refine Calls.mono (rright_calls q (hw.xQ)) ?_
        rw [decide_eq_true hq]
        rintro _ w ⟨rfl, hw⟩
        refine ⟨_, rfl, ?_⟩
        refine xV rfl rfl rfl (v_not rfl) ?_
        refine rl_nil (g_le (xK (xS rfl (xS rfl (Fr.le_refl _)))) ?_)
        refine g_cond_false rfl ?_
        refine g_skip (g_seq (g_seq ?_))
        refine g_region ?_
        refine xV rfl rfl rfl (v_move rfl) ?_
        first | (refine xV rfl rfl rfl (v_geqT rfl rfl (by omega)) ?_) | (refine xV rfl rfl rfl (v_geqF rfl rfl (by omega)) ?_) | (refine xV rfl rfl rfl (v_geq rfl rfl) ?_)
        refine xV rfl rfl rfl (v_move rfl) ?_
        refine rl_split (s := 65) rfl (fun g17_2 => ?_) (fun g17_2 => ?_)
        · try with_reducible exact ft_elim g17_2
          all_goals
            try replace g17_2 := of_decide_eq_true g17_2
            try (exfalso; omega)
            all_goals
              refine rl_vg (met_on rfl rfl rfl rfl) rfl rfl (S := fun _ => True) trivial (v_move rfl) ?_
              first | (refine rl_vg (met_on rfl rfl rfl rfl) rfl rfl (S := fun _ => True) trivial (v_leqT rfl rfl (by omega)) ?_) | (refine rl_vg (met_on rfl rfl rfl rfl) rfl rfl (S := fun _ => True) trivial (v_leqF rfl rfl (by omega)) ?_) | (refine rl_vg (met_on rfl rfl rfl rfl) rfl rfl (S := fun _ => True) trivial (v_leq rfl rfl) ?_)
              first | (refine xV rfl rfl rfl (v_pick_true rfl rfl) ?_) | (refine xV rfl rfl rfl (v_pick_false rfl rfl) ?_) | (refine xV rfl rfl rfl (v_pick rfl rfl rfl) ?_)
              refine rl_nil (g_le (xK (xS rfl (xS rfl (xS rfl (xS rfl (xS rfl (xS rfl (Fr.le_refl _)))))))) ?_)
              refine g_cond_true rfl ?_
              refine g_seq ?_
              refine g_region ?_
              refine xV rfl rfl rfl (v_move rfl) ?_
              refine xV rfl rfl rfl (v_eqlNil T.ptr_38 rfl rfl) ?_
              refine xV rfl rfl rfl (v_move rfl) ?_
              refine rl_split (s := 71) rfl (fun g18_2 => ?_) (fun g18_2 => ?_)
              · try with_reducible exact ft_elim g18_2
                all_goals
                  try replace g18_2 := of_decide_eq_true g18_2
                  try (exfalso; omega)
                  all_goals
                    refine rl_vg (met_on rfl rfl rfl rfl) rfl rfl (S := fun _ => True) trivial (v_move rfl) ?_
                    first | (refine rl_vg (met_on rfl rfl rfl rfl) rfl rfl (S := fun _ => True) trivial (v_eqlT rfl rfl (by first | omega | rfl)) ?_) | (refine rl_vg (met_on rfl rfl rfl rfl) rfl rfl (S := fun _ => True) trivial (v_eqlF rfl rfl (by omega)) ?_) | (refine rl_vg (met_on rfl rfl rfl rfl) rfl rfl (S := fun _ => True) trivial (v_eql rfl rfl) ?_)
                    first | (refine xV rfl rfl rfl (v_pick_true rfl rfl) ?_) | (refine xV rfl rfl rfl (v_pick_false rfl rfl) ?_) | (refine xV rfl rfl rfl (v_pick rfl rfl rfl) ?_)
                    refine xV rfl rfl rfl (v_assign rfl) ?_
                    refine rl_nil (g_le (xK (xS rfl (xS rfl (xS rfl (xS rfl (xS rfl (xS rfl (xS rfl (Fr.le_refl _))))))))) ?_)
                    refine g_ret1 Try.func3 rfl rfl ?_
                    exact ⟨rfl, hw.xQ⟩
              · try with_reducible exact tf_elim g18_2
                all_goals
                  try replace g18_2 := of_decide_eq_false g18_2
                  simp at g18_2
        · try with_reducible exact tf_elim g17_2
          all_goals
            try replace g17_2 := of_decide_eq_false g17_2
            try (exfalso; omega)
            all_goals
              refine rl_off (met_off rfl rfl rfl rfl rfl) rfl rfl ?_
              refine rl_off (met_off rfl rfl rfl rfl rfl) rfl rfl ?_
              first | (refine xV rfl rfl rfl (v_pick_true rfl rfl) ?_) | (refine xV rfl rfl rfl (v_pick_false rfl rfl) ?_) | (refine xV rfl rfl rfl (v_pick rfl rfl rfl) ?_)
              refine rl_nil (g_le (xK (xS rfl (xS rfl (xS rfl (xS rfl (xS rfl (xS rfl (Fr.le_refl _)))))))) ?_)
              refine g_cond_true rfl ?_
              refine g_seq ?_
              refine g_region ?_
              refine xV rfl rfl rfl (v_move rfl) ?_
              refine xV rfl rfl rfl (v_eqlNil T.ptr_38 rfl rfl) ?_
              refine xV rfl rfl rfl (v_move rfl) ?_
              refine rl_split (s := 71) rfl (fun g18_2 => ?_) (fun g18_2 => ?_)
              · try with_reducible exact ft_elim g18_2
                all_goals
                  try replace g18_2 := of_decide_eq_true g18_2
                  try (exfalso; omega)
                  all_goals
                    refine rl_vg (met_on rfl rfl rfl rfl) rfl rfl (S := fun _ => True) trivial (v_move rfl) ?_
                    first | (refine rl_vg (met_on rfl rfl rfl rfl) rfl rfl (S := fun _ => True) trivial (v_eqlT rfl rfl (by first | omega | rfl)) ?_) | (refine rl_vg (met_on rfl rfl rfl rfl) rfl rfl (S := fun _ => True) trivial (v_eqlF rfl rfl (by omega)) ?_) | (refine rl_vg (met_on rfl rfl rfl rfl) rfl rfl (S := fun _ => True) trivial (v_eql rfl rfl) ?_)
                    first | (refine xV rfl rfl rfl (v_pick_true rfl rfl) ?_) | (refine xV rfl rfl rfl (v_pick_false rfl rfl) ?_) | (refine xV rfl rfl rfl (v_pick rfl rfl rfl) ?_)
                    refine xV rfl rfl rfl (v_assign rfl) ?_
                    refine rl_nil (g_le (xK (xS rfl (xS rfl (xS rfl (xS rfl (xS rfl (xS rfl (xS rfl (Fr.le_refl _))))))))) ?_)
                    refine g_ret1 Try.func3 rfl rfl ?_
                    exact ⟨rfl, hw.xQ⟩
              · try with_reducible exact tf_elim g18_2
                all_goals
                  try replace g18_2 := of_decide_eq_false g18_2
                  simp at g18_2
  · try with_reducible exact tf_elim g4_2
    all_goals
      try replace g4_2 := of_decide_eq_false g4_2
      try (exfalso; omega)
      all_goals
        refine rl_vg (met_on rfl rfl rfl rfl) rfl rfl (S := fun _ => True) trivial (v_move rfl) ?_
        refine rl_vg (met_on rfl rfl rfl rfl) rfl rfl (S := fun _ => True) trivial (v_neqF rfl rfl (by omega)) ?_
        refine xV rfl rfl rfl (v_pick_false rfl rfl) ?_
        refine xV rfl rfl rfl (v_move rfl) ?_
        refine rl_split (s := 33) rfl (fun g4_6 => ?_) (fun g4_6 => ?_)
        · try with_reducible exact ft_elim g4_6
          all_goals
            try replace g4_6 := of_decide_eq_true g4_6
            try (exfalso; omega)
            all_goals
              refine rl_off (met_off rfl rfl rfl rfl rfl) rfl rfl ?_
              refine rl_off (met_off rfl rfl rfl rfl rfl) rfl rfl ?_
              first | (refine xV rfl rfl rfl (v_pick_true rfl rfl) ?_) | (refine xV rfl rfl rfl (v_pick_false rfl rfl) ?_) | (refine xV rfl rfl rfl (v_pick rfl rfl rfl) ?_)
              refine rl_nil (g_le (xK (xS rfl (xS rfl (xS rfl (xS rfl (xS rfl (xS rfl (xS rfl (xS rfl (xS rfl (xS rfl (xS rfl (Fr.le_refl _))))))))))))) ?_)
              refine g_cond_false rfl ?_
              refine g_skip (g_seq ?_)
              refine g_region ?_
              refine xV rfl rfl rfl (v_move rfl) ?_
              refine rl_k rfl (k_callf Try.func13 rfl rfl rfl rfl ?_)
              refine Calls.mono (snew_calls m p _ (hw.xP (A := MdAt m p ⟨100, List.replicate (2 : Int).toNat ByteArray.empty, [], 0⟩))) ?_
              rintro _ w ⟨l, lsv, rfl, hw⟩
              refine ⟨_, rfl, ?_⟩
              refine xV rfl rfl rfl (v_assign rfl) ?_
              refine rl_nil (g_le (xK (xS rfl (xS rfl (Fr.le_refl _)))) ?_)
              refine g_seq (g_seq ?_)
              refine g_region ?_
              refine xV rfl rfl rfl (v_move rfl) ?_
              refine rl_nil (g_le (xK (Fr.le_refl _)) ?_)
              refine g_block (g_seq ?_)
              refine g_region ?_
              first | (refine xV rfl rfl rfl (v_eqlT rfl rfl (by first | omega | rfl)) ?_) | (refine xV rfl rfl rfl (v_eqlF rfl rfl (by omega)) ?_) | (refine xV rfl rfl rfl (v_eql rfl rfl) ?_)
              refine xV rfl rfl rfl (v_assign rfl) ?_
              refine rl_nil (g_le (xK (xS rfl (Fr.le_refl _))) ?_)
              refine g_cond_true rfl ?_
              refine g_region ?_
              refine xV rfl rfl rfl (v_assign rfl) ?_
              refine rl_nil (g_le (xK (Fr.le_refl _)) ?_)
              refine g_inBlock (g_seq ?_)
              refine g_region ?_
              refine rl_v rfl rfl rfl (by first | exact sat_cells hw (by (repeat first | with_reducible exact xH | apply xT); first | done | fail) ⟨rfl, rfl, rfl, rfl, rfl, rfl, rfl, trivial⟩ | exact ro_ats hw (by (repeat first | with_reducible exact xH | apply xT); first | done | fail) (by assumption) | exact own_cells hw (by (repeat first | with_reducible exact xH | apply xT); first | done | fail) (by assumption) | exact old_cells hw (by (repeat first | with_reducible exact xH | apply xT); first | done | fail) (by assumption)) (v_loadAgg (vs := [_, _, _, _, _, _, _]) T.agg_23_7 rfl rfl) ?_
              refine xV rfl rfl rfl (v_move rfl) ?_
              refine xV rfl rfl rfl (v_move rfl) ?_
              refine xV rfl rfl rfl (v_move rfl) ?_
              refine rl_k rfl (k_callf Try.func14 rfl rfl rfl rfl ?_)
              refine Calls.mono (pnewL_calls q hq _ _ hw) ?_
              rintro _ w ⟨rfl, hw⟩
              refine ⟨_, rfl, ?_⟩
              refine xV rfl rfl rfl (v_move rfl) ?_
              refine xV rfl rfl rfl (v_extract rfl rfl) ?_
              refine xV rfl rfl rfl (v_extract rfl rfl) ?_
              refine xV rfl rfl rfl (v_assign rfl) ?_
              refine xV rfl rfl rfl (v_assign rfl) ?_
              refine rl_nil (g_le (xK (xK (xS rfl (xS rfl (xS rfl (xS rfl (xS rfl (xS rfl (xS rfl (xS rfl (Fr.le_refl _))))))))))) ?_)
              refine g_seq (g_seq ?_)
              refine g_region ?_
              refine rl_v rfl rfl rfl (by first | exact sat_cells hw (by (repeat first | with_reducible exact xH | apply xT); first | done | fail) ⟨rfl, rfl, rfl, rfl, rfl, rfl, rfl, trivial⟩ | exact ro_ats hw (by (repeat first | with_reducible exact xH | apply xT); first | done | fail) (by assumption) | exact own_cells hw (by (repeat first | with_reducible exact xH | apply xT); first | done | fail) (by assumption) | exact old_cells hw (by (repeat first | with_reducible exact xH | apply xT); first | done | fail) (by assumption)) (v_loadAgg (vs := [_, _, _, _, _, _, _]) T.agg_23_7 rfl rfl) ?_
              refine rl_k rfl (k_callf Try.func15 rfl rfl rfl rfl ?_)
              refine Calls.mono (rright_calls q (hw.xQ)) ?_
              rw [decide_eq_true hq]
              rintro _ w ⟨rfl, hw⟩
              refine ⟨_, rfl, ?_⟩
              refine xV rfl rfl rfl (v_not rfl) ?_
              refine rl_nil (g_le (xK (xS rfl (xS rfl (Fr.le_refl _)))) ?_)
              refine g_cond_false rfl ?_
              refine g_skip (g_seq (g_seq ?_))
              refine g_region ?_
              refine xV rfl rfl rfl (v_move rfl) ?_
              first | (refine xV rfl rfl rfl (v_geqT rfl rfl (by omega)) ?_) | (refine xV rfl rfl rfl (v_geqF rfl rfl (by omega)) ?_) | (refine xV rfl rfl rfl (v_geq rfl rfl) ?_)
              refine xV rfl rfl rfl (v_move rfl) ?_
              refine rl_split (s := 65) rfl (fun g17_2 => ?_) (fun g17_2 => ?_)
              · try with_reducible exact ft_elim g17_2
                all_goals
                  try replace g17_2 := of_decide_eq_true g17_2
                  try (exfalso; omega)
                  all_goals
                    refine rl_vg (met_on rfl rfl rfl rfl) rfl rfl (S := fun _ => True) trivial (v_move rfl) ?_
                    first | (refine rl_vg (met_on rfl rfl rfl rfl) rfl rfl (S := fun _ => True) trivial (v_leqT rfl rfl (by omega)) ?_) | (refine rl_vg (met_on rfl rfl rfl rfl) rfl rfl (S := fun _ => True) trivial (v_leqF rfl rfl (by omega)) ?_) | (refine rl_vg (met_on rfl rfl rfl rfl) rfl rfl (S := fun _ => True) trivial (v_leq rfl rfl) ?_)
                    first | (refine xV rfl rfl rfl (v_pick_true rfl rfl) ?_) | (refine xV rfl rfl rfl (v_pick_false rfl rfl) ?_) | (refine xV rfl rfl rfl (v_pick rfl rfl rfl) ?_)
                    refine rl_nil (g_le (xK (xS rfl (xS rfl (xS rfl (xS rfl (xS rfl (xS rfl (Fr.le_refl _)))))))) ?_)
                    refine g_cond_true rfl ?_
                    refine g_seq ?_
                    refine g_region ?_
                    refine xV rfl rfl rfl (v_move rfl) ?_
                    refine xV rfl rfl rfl (v_eqlNil T.ptr_38 rfl rfl) ?_
                    refine xV rfl rfl rfl (v_move rfl) ?_
                    refine rl_split (s := 71) rfl (fun g18_2 => ?_) (fun g18_2 => ?_)
                    · try with_reducible exact ft_elim g18_2
                      all_goals
                        try replace g18_2 := of_decide_eq_true g18_2
                        try (exfalso; omega)
                        all_goals
                          refine rl_vg (met_on rfl rfl rfl rfl) rfl rfl (S := fun _ => True) trivial (v_move rfl) ?_
                          first | (refine rl_vg (met_on rfl rfl rfl rfl) rfl rfl (S := fun _ => True) trivial (v_eqlT rfl rfl (by first | omega | rfl)) ?_) | (refine rl_vg (met_on rfl rfl rfl rfl) rfl rfl (S := fun _ => True) trivial (v_eqlF rfl rfl (by omega)) ?_) | (refine rl_vg (met_on rfl rfl rfl rfl) rfl rfl (S := fun _ => True) trivial (v_eql rfl rfl) ?_)
                          first | (refine xV rfl rfl rfl (v_pick_true rfl rfl) ?_) | (refine xV rfl rfl rfl (v_pick_false rfl rfl) ?_) | (refine xV rfl rfl rfl (v_pick rfl rfl rfl) ?_)
                          refine xV rfl rfl rfl (v_assign rfl) ?_
                          refine rl_nil (g_le (xK (xS rfl (xS rfl (xS rfl (xS rfl (xS rfl (xS rfl (xS rfl (Fr.le_refl _))))))))) ?_)
                          refine g_ret1 Try.func3 rfl rfl ?_
                          exact ⟨rfl, hw.xQ⟩
                    · try with_reducible exact tf_elim g18_2
                      all_goals
                        try replace g18_2 := of_decide_eq_false g18_2
                        simp at g18_2
              · try with_reducible exact tf_elim g17_2
                all_goals
                  try replace g17_2 := of_decide_eq_false g17_2
                  try (exfalso; omega)
                  all_goals
                    refine rl_off (met_off rfl rfl rfl rfl rfl) rfl rfl ?_
                    refine rl_off (met_off rfl rfl rfl rfl rfl) rfl rfl ?_
                    first | (refine xV rfl rfl rfl (v_pick_true rfl rfl) ?_) | (refine xV rfl rfl rfl (v_pick_false rfl rfl) ?_) | (refine xV rfl rfl rfl (v_pick rfl rfl rfl) ?_)
                    refine rl_nil (g_le (xK (xS rfl (xS rfl (xS rfl (xS rfl (xS rfl (xS rfl (Fr.le_refl _)))))))) ?_)
                    refine g_cond_true rfl ?_
                    refine g_seq ?_
                    refine g_region ?_
                    refine xV rfl rfl rfl (v_move rfl) ?_
                    refine xV rfl rfl rfl (v_eqlNil T.ptr_38 rfl rfl) ?_
                    refine xV rfl rfl rfl (v_move rfl) ?_
                    refine rl_split (s := 71) rfl (fun g18_2 => ?_) (fun g18_2 => ?_)
                    · try with_reducible exact ft_elim g18_2
                      all_goals
                        try replace g18_2 := of_decide_eq_true g18_2
                        try (exfalso; omega)
                        all_goals
                          refine rl_vg (met_on rfl rfl rfl rfl) rfl rfl (S := fun _ => True) trivial (v_move rfl) ?_
                          first | (refine rl_vg (met_on rfl rfl rfl rfl) rfl rfl (S := fun _ => True) trivial (v_eqlT rfl rfl (by first | omega | rfl)) ?_) | (refine rl_vg (met_on rfl rfl rfl rfl) rfl rfl (S := fun _ => True) trivial (v_eqlF rfl rfl (by omega)) ?_) | (refine rl_vg (met_on rfl rfl rfl rfl) rfl rfl (S := fun _ => True) trivial (v_eql rfl rfl) ?_)
                          first | (refine xV rfl rfl rfl (v_pick_true rfl rfl) ?_) | (refine xV rfl rfl rfl (v_pick_false rfl rfl) ?_) | (refine xV rfl rfl rfl (v_pick rfl rfl rfl) ?_)
                          refine xV rfl rfl rfl (v_assign rfl) ?_
                          refine rl_nil (g_le (xK (xS rfl (xS rfl (xS rfl (xS rfl (xS rfl (xS rfl (xS rfl (Fr.le_refl _))))))))) ?_)
                          refine g_ret1 Try.func3 rfl rfl ?_
                          exact ⟨rfl, hw.xQ⟩
                    · try with_reducible exact tf_elim g18_2
                      all_goals
                        try replace g18_2 := of_decide_eq_false g18_2
                        simp at g18_2
        · try with_reducible exact tf_elim g4_6
          all_goals
            try replace g4_6 := of_decide_eq_false g4_6
            try (exfalso; omega)
            all_goals
              refine rl_vg (met_on rfl rfl rfl rfl) rfl rfl (S := fun _ => True) trivial (v_move rfl) ?_
              refine rl_vg (met_on rfl rfl rfl rfl) rfl rfl (S := fun _ => True) trivial (v_neqF rfl rfl (by omega)) ?_
              refine xV rfl rfl rfl (v_pick_false rfl rfl) ?_
              refine rl_nil (g_le (xK (xS rfl (xS rfl (xS rfl (xS rfl (xS rfl (xS rfl (xS rfl (xS rfl (xS rfl (xS rfl (xS rfl (Fr.le_refl _))))))))))))) ?_)
              refine g_cond_false rfl ?_
              refine g_skip (g_seq ?_)
              refine g_region ?_
              refine xV rfl rfl rfl (v_move rfl) ?_
              refine rl_k rfl (k_callf Try.func13 rfl rfl rfl rfl ?_)
              refine Calls.mono (snew_calls m p _ (hw.xP (A := MdAt m p ⟨100, List.replicate (2 : Int).toNat ByteArray.empty, [], 0⟩))) ?_
              rintro _ w ⟨l, lsv, rfl, hw⟩
              refine ⟨_, rfl, ?_⟩
              refine xV rfl rfl rfl (v_assign rfl) ?_
              refine rl_nil (g_le (xK (xS rfl (xS rfl (Fr.le_refl _)))) ?_)
              refine g_seq (g_seq ?_)
              refine g_region ?_
              refine xV rfl rfl rfl (v_move rfl) ?_
              refine rl_nil (g_le (xK (Fr.le_refl _)) ?_)
              refine g_block (g_seq ?_)
              refine g_region ?_
              refine xV rfl rfl rfl (v_eqlT rfl rfl (by omega)) ?_
              refine xV rfl rfl rfl (v_assign rfl) ?_
              refine rl_nil (g_le (xK (xS rfl (Fr.le_refl _))) ?_)
              refine g_cond_true rfl ?_
              refine g_region ?_
              refine xV rfl rfl rfl (v_assign rfl) ?_
              refine rl_nil (g_le (xK (Fr.le_refl _)) ?_)
              refine g_inBlock (g_seq ?_)
              refine g_region ?_
              refine rl_v rfl rfl rfl (by exact sat_cells hw (by (repeat first | with_reducible exact xH | apply xT); first | done | fail) ⟨rfl, rfl, rfl, rfl, rfl, rfl, rfl, trivial⟩) (v_loadAgg (vs := [_, _, _, _, _, _, _]) T.agg_23_7 rfl rfl) ?_
              refine xV rfl rfl rfl (v_move rfl) ?_
              refine xV rfl rfl rfl (v_move rfl) ?_
              refine xV rfl rfl rfl (v_move rfl) ?_
              refine rl_k rfl (k_callf Try.func14 rfl rfl rfl rfl ?_)
              refine Calls.mono (pnewL_calls q hq _ _ hw) ?_
              rintro _ w ⟨rfl, hw⟩
              refine ⟨_, rfl, ?_⟩
              refine xV rfl rfl rfl (v_move rfl) ?_
              refine xV rfl rfl rfl (v_extract rfl rfl) ?_
              refine xV rfl rfl rfl (v_extract rfl rfl) ?_
              refine xV rfl rfl rfl (v_assign rfl) ?_
              refine xV rfl rfl rfl (v_assign rfl) ?_
              refine rl_nil (g_le (xK (xK (xS rfl (xS rfl (xS rfl (xS rfl (xS rfl (xS rfl (xS rfl (xS rfl (Fr.le_refl _))))))))))) ?_)
              refine g_seq (g_seq ?_)
              refine g_region ?_
              refine rl_v rfl rfl rfl (by exact sat_cells hw (by (repeat first | with_reducible exact xH | apply xT); first | done | fail) ⟨rfl, rfl, rfl, rfl, rfl, rfl, rfl, trivial⟩) (v_loadAgg (vs := [_, _, _, _, _, _, _]) T.agg_23_7 rfl rfl) ?_
              refine rl_k rfl (k_callf Try.func15 rfl rfl rfl rfl ?_)
              refine Calls.mono (rright_calls q (hw.xQ)) ?_
              rw [decide_eq_true hq]
              rintro _ w ⟨rfl, hw⟩
              refine ⟨_, rfl, ?_⟩
              refine xV rfl rfl rfl (v_not rfl) ?_
              refine rl_nil (g_le (xK (xS rfl (xS rfl (Fr.le_refl _)))) ?_)
              refine g_cond_false rfl ?_
              refine g_skip (g_seq (g_seq ?_))
              refine g_region ?_
              refine xV rfl rfl rfl (v_move rfl) ?_
              refine xV rfl rfl rfl (v_geqT rfl rfl (by omega)) ?_
              refine xV rfl rfl rfl (v_move rfl) ?_
              refine rl_split (s := 65) rfl (fun g17_2 => ?_) (fun g17_2 => ?_)
              · try with_reducible exact ft_elim g17_2
                all_goals
                  try replace g17_2 := of_decide_eq_true g17_2
                  try (exfalso; omega)
                  all_goals
                    refine rl_vg (met_on rfl rfl rfl rfl) rfl rfl (S := fun _ => True) trivial (v_move rfl) ?_
                    refine rl_vg (met_on rfl rfl rfl rfl) rfl rfl (S := fun _ => True) trivial (v_leqT rfl rfl (by omega)) ?_
                    refine xV rfl rfl rfl (v_pick_true rfl rfl) ?_
                    refine rl_nil (g_le (xK (xS rfl (xS rfl (xS rfl (xS rfl (xS rfl (xS rfl (Fr.le_refl _)))))))) ?_)
                    refine g_cond_true rfl ?_
                    refine g_seq ?_
                    refine g_region ?_
                    refine xV rfl rfl rfl (v_move rfl) ?_
                    refine xV rfl rfl rfl (v_eqlNil T.ptr_38 rfl rfl) ?_
                    refine xV rfl rfl rfl (v_move rfl) ?_
                    refine rl_split (s := 71) rfl (fun g18_2 => ?_) (fun g18_2 => ?_)
                    · try with_reducible exact ft_elim g18_2
                      all_goals
                        try replace g18_2 := of_decide_eq_true g18_2
                        try (exfalso; omega)
                        all_goals
                          refine rl_vg (met_on rfl rfl rfl rfl) rfl rfl (S := fun _ => True) trivial (v_move rfl) ?_
                          refine rl_vg (met_on rfl rfl rfl rfl) rfl rfl (S := fun _ => True) trivial (v_eqlT rfl rfl (by omega)) ?_
                          refine xV rfl rfl rfl (v_pick_true rfl rfl) ?_
                          refine xV rfl rfl rfl (v_assign rfl) ?_
                          refine rl_nil (g_le (xK (xS rfl (xS rfl (xS rfl (xS rfl (xS rfl (xS rfl (xS rfl (Fr.le_refl _))))))))) ?_)
                          refine g_ret1 Try.func3 rfl rfl ?_
                          exact ⟨rfl, hw.xQ⟩
                    · try with_reducible exact tf_elim g18_2
                      all_goals
                        try replace g18_2 := of_decide_eq_false g18_2
                        simp at g18_2
              · try with_reducible exact tf_elim g17_2
                all_goals
                  try replace g17_2 := of_decide_eq_false g17_2
                  try (exfalso; omega)
                  all_goals
                    refine rl_off (met_off rfl rfl rfl rfl rfl) rfl rfl ?_
                    refine rl_off (met_off rfl rfl rfl rfl rfl) rfl rfl ?_
                    first | (refine xV rfl rfl rfl (v_pick_true rfl rfl) ?_) | (refine xV rfl rfl rfl (v_pick_false rfl rfl) ?_) | (refine xV rfl rfl rfl (v_pick rfl rfl rfl) ?_)
                    refine rl_nil (g_le (xK (xS rfl (xS rfl (xS rfl (xS rfl (xS rfl (xS rfl (Fr.le_refl _)))))))) ?_)
                    refine g_cond_true rfl ?_
                    refine g_seq ?_
                    refine g_region ?_
                    refine xV rfl rfl rfl (v_move rfl) ?_
                    refine xV rfl rfl rfl (v_eqlNil T.ptr_38 rfl rfl) ?_
                    refine xV rfl rfl rfl (v_move rfl) ?_
                    refine rl_split (s := 71) rfl (fun g18_2 => ?_) (fun g18_2 => ?_)
                    · try with_reducible exact ft_elim g18_2
                      all_goals
                        try replace g18_2 := of_decide_eq_true g18_2
                        try (exfalso; omega)
                        all_goals
                          refine rl_vg (met_on rfl rfl rfl rfl) rfl rfl (S := fun _ => True) trivial (v_move rfl) ?_
                          first | (refine rl_vg (met_on rfl rfl rfl rfl) rfl rfl (S := fun _ => True) trivial (v_eqlT rfl rfl (by first | omega | rfl)) ?_) | (refine rl_vg (met_on rfl rfl rfl rfl) rfl rfl (S := fun _ => True) trivial (v_eqlF rfl rfl (by omega)) ?_) | (refine rl_vg (met_on rfl rfl rfl rfl) rfl rfl (S := fun _ => True) trivial (v_eql rfl rfl) ?_)
                          first | (refine xV rfl rfl rfl (v_pick_true rfl rfl) ?_) | (refine xV rfl rfl rfl (v_pick_false rfl rfl) ?_) | (refine xV rfl rfl rfl (v_pick rfl rfl rfl) ?_)
                          refine xV rfl rfl rfl (v_assign rfl) ?_
                          refine rl_nil (g_le (xK (xS rfl (xS rfl (xS rfl (xS rfl (xS rfl (xS rfl (xS rfl (Fr.le_refl _))))))))) ?_)
                          refine g_ret1 Try.func3 rfl rfl ?_
                          exact ⟨rfl, hw.xQ⟩
                    · try with_reducible exact tf_elim g18_2
                      all_goals
                        try replace g18_2 := of_decide_eq_false g18_2
                        simp at g18_2
set_option maxHeartbeats 2000000 in
theorem PagesMade_C {W w : World} {q : Qt} {n : Int} (hq : q.ok) (hn : n = 1) (hw : Sat (envOf W) w [Old W]) :
    Calls Try.prog 3 #[q.v, .int .i64 n] w fun v w' => v = .returned (.bool true) ∧ Sat (envOf W) w' [Old W] := by
  refine calls_of_g (n := 137) Try.func3 rfl rfl rfl ?_
  change G _ _ _ _ _ [(0, _), (1, _)] _
  refine g_seq ?_
  refine g_region ?_
  refine rl_k rfl (k_box hw rfl rfl rfl (fun bk0_0 w hw => ?_))
  refine xV rfl rfl rfl (v_assign rfl) ?_
  refine rl_nil (g_le (xK (xK (Fr.le_refl _))) ?_)
  refine g_seq ?_
  refine g_region ?_
  refine rl_k rfl (k_callf Try.func10 rfl rfl rfl rfl ?_)
  refine Calls.mono (new_calls (hw.xQ)) ?_
  rintro _ w ⟨p, rfl, hw⟩
  refine ⟨_, rfl, ?_⟩
  refine rl_k rfl (k_callf Try.func9 rfl rfl rfl rfl ?_)
  refine Calls.mono (mnew_calls p 2 100 (by omega) (by omega) (by omega) (by omega) hw) ?_
  rintro _ w ⟨m, rfl, hw⟩
  refine ⟨_, rfl, ?_⟩
  refine xV rfl rfl rfl (v_move rfl) ?_
  refine xV rfl rfl rfl (v_extract rfl rfl) ?_
  refine xV rfl rfl rfl (v_extract rfl rfl) ?_
  refine xV rfl rfl rfl (v_assign rfl) ?_
  refine xV rfl rfl rfl (v_assign rfl) ?_
  refine rl_nil (g_le (xK (xK (xS rfl (xS rfl (xS rfl (xS rfl (xS rfl (Fr.le_refl _)))))))) ?_)
  refine g_seq ?_
  refine g_region ?_
  refine rl_k rfl (k_callf Try.func11 rfl rfl rfl rfl ?_)
  refine Calls.mono (canew_calls hw) ?_
  rintro _ w ⟨c, rfl, hw⟩
  refine ⟨_, rfl, ?_⟩
  refine xV rfl rfl rfl (v_move rfl) ?_
  refine xV rfl rfl rfl (v_extract rfl rfl) ?_
  refine xV rfl rfl rfl (v_extract rfl rfl) ?_
  refine xV rfl rfl rfl (v_assign rfl) ?_
  refine xV rfl rfl rfl (v_assign rfl) ?_
  refine rl_nil (g_le (xK (xK (xS rfl (xS rfl (xS rfl (xS rfl (Fr.le_refl _))))))) ?_)
  refine g_seq ?_
  refine g_region ?_
  refine rl_k rfl (k_callf Try.func12 rfl rfl rfl rfl ?_)
  refine Calls.mono (dnew_calls hw) ?_
  rintro _ w ⟨d, rfl, hw⟩
  refine ⟨_, rfl, ?_⟩
  refine xV rfl rfl rfl (v_move rfl) ?_
  refine xV rfl rfl rfl (v_extract rfl rfl) ?_
  refine xV rfl rfl rfl (v_extract rfl rfl) ?_
  refine xV rfl rfl rfl (v_assign rfl) ?_
  refine xV rfl rfl rfl (v_assign rfl) ?_
  refine rl_nil (g_le (xK (xK (xS rfl (xS rfl (xS rfl (xS rfl (Fr.le_refl _))))))) ?_)
  refine g_seq (g_seq ?_)
  refine g_region ?_
  refine xV rfl rfl rfl (v_move rfl) ?_
  refine xV rfl rfl rfl (v_neqF rfl rfl (by omega)) ?_
  refine xV rfl rfl rfl (v_move rfl) ?_
  refine rl_split (s := 29) rfl (fun g4_2 => ?_) (fun g4_2 => ?_)
  · try with_reducible exact ft_elim g4_2
    all_goals
      try replace g4_2 := of_decide_eq_true g4_2
      try (exfalso; omega)
      all_goals
        refine rl_off (met_off rfl rfl rfl rfl rfl) rfl rfl ?_
        refine rl_off (met_off rfl rfl rfl rfl rfl) rfl rfl ?_
        first | (refine xV rfl rfl rfl (v_pick_true rfl rfl) ?_) | (refine xV rfl rfl rfl (v_pick_false rfl rfl) ?_) | (refine xV rfl rfl rfl (v_pick rfl rfl rfl) ?_)
        refine xV rfl rfl rfl (v_move rfl) ?_
        refine rl_off (met_off rfl rfl rfl rfl rfl) rfl rfl ?_
        refine rl_off (met_off rfl rfl rfl rfl rfl) rfl rfl ?_
        first | (refine xV rfl rfl rfl (v_pick_true rfl rfl) ?_) | (refine xV rfl rfl rfl (v_pick_false rfl rfl) ?_) | (refine xV rfl rfl rfl (v_pick rfl rfl rfl) ?_)
        refine rl_nil (g_le (xK (xS rfl (xS rfl (xS rfl (xS rfl (xS rfl (xS rfl (xS rfl (xS rfl (xS rfl (xS rfl (Fr.le_refl _)))))))))))) ?_)
        refine g_cond_false rfl ?_
        refine g_skip (g_seq ?_)
        refine g_region ?_
        refine xV rfl rfl rfl (v_move rfl) ?_
        refine rl_k rfl (k_callf Try.func13 rfl rfl rfl rfl ?_)
        refine Calls.mono (snew_calls m p _ (hw.xP (A := MdAt m p ⟨100, List.replicate (2 : Int).toNat ByteArray.empty, [], 0⟩))) ?_
        rintro _ w ⟨l, lsv, rfl, hw⟩
        refine ⟨_, rfl, ?_⟩
        refine xV rfl rfl rfl (v_assign rfl) ?_
        refine rl_nil (g_le (xK (xS rfl (xS rfl (Fr.le_refl _)))) ?_)
        refine g_seq (g_seq ?_)
        refine g_region ?_
        refine xV rfl rfl rfl (v_move rfl) ?_
        refine rl_nil (g_le (xK (Fr.le_refl _)) ?_)
        refine g_block (g_seq ?_)
        refine g_region ?_
        first | (refine xV rfl rfl rfl (v_eqlT rfl rfl (by first | omega | rfl)) ?_) | (refine xV rfl rfl rfl (v_eqlF rfl rfl (by omega)) ?_) | (refine xV rfl rfl rfl (v_eql rfl rfl) ?_)
        refine xV rfl rfl rfl (v_assign rfl) ?_
        refine rl_nil (g_le (xK (xS rfl (Fr.le_refl _))) ?_)
        refine g_cond_false rfl ?_
        refine g_seq ?_
        refine g_region ?_
        first | (refine xV rfl rfl rfl (v_eqlT rfl rfl (by first | omega | rfl)) ?_) | (refine xV rfl rfl rfl (v_eqlF rfl rfl (by omega)) ?_) | (refine xV rfl rfl rfl (v_eql rfl rfl) ?_)
        refine xV rfl rfl rfl (v_assign rfl) ?_
        refine rl_nil (g_le (xK (xS rfl (Fr.le_refl _))) ?_)
        refine g_cond_true rfl ?_
        refine g_region ?_
        refine xV rfl rfl rfl (v_assign rfl) ?_
        refine rl_nil (g_le (xK (Fr.le_refl _)) ?_)
        refine g_inBlock (g_seq ?_)
        refine g_region ?_
        refine rl_v rfl rfl rfl (by first | exact sat_cells hw (by (repeat first | with_reducible exact xH | apply xT); first | done | fail) ⟨rfl, rfl, rfl, rfl, rfl, rfl, rfl, trivial⟩ | exact ro_ats hw (by (repeat first | with_reducible exact xH | apply xT); first | done | fail) (by assumption) | exact own_cells hw (by (repeat first | with_reducible exact xH | apply xT); first | done | fail) (by assumption) | exact old_cells hw (by (repeat first | with_reducible exact xH | apply xT); first | done | fail) (by assumption)) (v_loadAgg (vs := [_, _, _, _, _, _, _]) T.agg_23_7 rfl rfl) ?_
        refine xV rfl rfl rfl (v_move rfl) ?_
        refine xV rfl rfl rfl (v_move rfl) ?_
        refine xV rfl rfl rfl (v_move rfl) ?_
        refine rl_k rfl (k_callf Try.func14 rfl rfl rfl rfl ?_)
        refine Calls.mono (pnewC_calls q hq _ _ hw) ?_
        rintro _ w ⟨rfl, hw⟩
        refine ⟨_, rfl, ?_⟩
        refine xV rfl rfl rfl (v_move rfl) ?_
        refine xV rfl rfl rfl (v_extract rfl rfl) ?_
        refine xV rfl rfl rfl (v_extract rfl rfl) ?_
        refine xV rfl rfl rfl (v_assign rfl) ?_
        refine xV rfl rfl rfl (v_assign rfl) ?_
        refine rl_nil (g_le (xK (xK (xS rfl (xS rfl (xS rfl (xS rfl (xS rfl (xS rfl (xS rfl (xS rfl (Fr.le_refl _))))))))))) ?_)
        refine g_seq (g_seq ?_)
        refine g_region ?_
        refine rl_v rfl rfl rfl (by first | exact sat_cells hw (by (repeat first | with_reducible exact xH | apply xT); first | done | fail) ⟨rfl, rfl, rfl, rfl, rfl, rfl, rfl, trivial⟩ | exact ro_ats hw (by (repeat first | with_reducible exact xH | apply xT); first | done | fail) (by assumption) | exact own_cells hw (by (repeat first | with_reducible exact xH | apply xT); first | done | fail) (by assumption) | exact old_cells hw (by (repeat first | with_reducible exact xH | apply xT); first | done | fail) (by assumption)) (v_loadAgg (vs := [_, _, _, _, _, _, _]) T.agg_23_7 rfl rfl) ?_
        refine rl_k rfl (k_callf Try.func15 rfl rfl rfl rfl ?_)
        refine Calls.mono (rright_calls q (hw.xQ)) ?_
        rw [decide_eq_true hq]
        rintro _ w ⟨rfl, hw⟩
        refine ⟨_, rfl, ?_⟩
        refine xV rfl rfl rfl (v_not rfl) ?_
        refine rl_nil (g_le (xK (xS rfl (xS rfl (Fr.le_refl _)))) ?_)
        refine g_cond_false rfl ?_
        refine g_skip (g_seq (g_seq ?_))
        refine g_region ?_
        refine xV rfl rfl rfl (v_move rfl) ?_
        first | (refine xV rfl rfl rfl (v_geqT rfl rfl (by omega)) ?_) | (refine xV rfl rfl rfl (v_geqF rfl rfl (by omega)) ?_) | (refine xV rfl rfl rfl (v_geq rfl rfl) ?_)
        refine xV rfl rfl rfl (v_move rfl) ?_
        refine rl_split (s := 65) rfl (fun g17_2 => ?_) (fun g17_2 => ?_)
        · try with_reducible exact ft_elim g17_2
          all_goals
            try replace g17_2 := of_decide_eq_true g17_2
            try (exfalso; omega)
            all_goals
              refine rl_vg (met_on rfl rfl rfl rfl) rfl rfl (S := fun _ => True) trivial (v_move rfl) ?_
              first | (refine rl_vg (met_on rfl rfl rfl rfl) rfl rfl (S := fun _ => True) trivial (v_leqT rfl rfl (by omega)) ?_) | (refine rl_vg (met_on rfl rfl rfl rfl) rfl rfl (S := fun _ => True) trivial (v_leqF rfl rfl (by omega)) ?_) | (refine rl_vg (met_on rfl rfl rfl rfl) rfl rfl (S := fun _ => True) trivial (v_leq rfl rfl) ?_)
              first | (refine xV rfl rfl rfl (v_pick_true rfl rfl) ?_) | (refine xV rfl rfl rfl (v_pick_false rfl rfl) ?_) | (refine xV rfl rfl rfl (v_pick rfl rfl rfl) ?_)
              refine rl_nil (g_le (xK (xS rfl (xS rfl (xS rfl (xS rfl (xS rfl (xS rfl (Fr.le_refl _)))))))) ?_)
              refine g_cond_true rfl ?_
              refine g_seq ?_
              refine g_region ?_
              refine xV rfl rfl rfl (v_move rfl) ?_
              refine xV rfl rfl rfl (v_eqlNil T.ptr_38 rfl rfl) ?_
              refine xV rfl rfl rfl (v_move rfl) ?_
              refine rl_split (s := 71) rfl (fun g18_2 => ?_) (fun g18_2 => ?_)
              · try with_reducible exact ft_elim g18_2
                all_goals
                  try replace g18_2 := of_decide_eq_true g18_2
                  try (exfalso; omega)
                  all_goals
                    refine rl_vg (met_on rfl rfl rfl rfl) rfl rfl (S := fun _ => True) trivial (v_move rfl) ?_
                    first | (refine rl_vg (met_on rfl rfl rfl rfl) rfl rfl (S := fun _ => True) trivial (v_eqlT rfl rfl (by first | omega | rfl)) ?_) | (refine rl_vg (met_on rfl rfl rfl rfl) rfl rfl (S := fun _ => True) trivial (v_eqlF rfl rfl (by omega)) ?_) | (refine rl_vg (met_on rfl rfl rfl rfl) rfl rfl (S := fun _ => True) trivial (v_eql rfl rfl) ?_)
                    first | (refine xV rfl rfl rfl (v_pick_true rfl rfl) ?_) | (refine xV rfl rfl rfl (v_pick_false rfl rfl) ?_) | (refine xV rfl rfl rfl (v_pick rfl rfl rfl) ?_)
                    refine xV rfl rfl rfl (v_assign rfl) ?_
                    refine rl_nil (g_le (xK (xS rfl (xS rfl (xS rfl (xS rfl (xS rfl (xS rfl (xS rfl (Fr.le_refl _))))))))) ?_)
                    refine g_ret1 Try.func3 rfl rfl ?_
                    exact ⟨rfl, hw.xQ⟩
              · try with_reducible exact tf_elim g18_2
                all_goals
                  try replace g18_2 := of_decide_eq_false g18_2
                  simp at g18_2
        · try with_reducible exact tf_elim g17_2
          all_goals
            try replace g17_2 := of_decide_eq_false g17_2
            try (exfalso; omega)
            all_goals
              refine rl_off (met_off rfl rfl rfl rfl rfl) rfl rfl ?_
              refine rl_off (met_off rfl rfl rfl rfl rfl) rfl rfl ?_
              first | (refine xV rfl rfl rfl (v_pick_true rfl rfl) ?_) | (refine xV rfl rfl rfl (v_pick_false rfl rfl) ?_) | (refine xV rfl rfl rfl (v_pick rfl rfl rfl) ?_)
              refine rl_nil (g_le (xK (xS rfl (xS rfl (xS rfl (xS rfl (xS rfl (xS rfl (Fr.le_refl _)))))))) ?_)
              refine g_cond_true rfl ?_
              refine g_seq ?_
              refine g_region ?_
              refine xV rfl rfl rfl (v_move rfl) ?_
              refine xV rfl rfl rfl (v_eqlNil T.ptr_38 rfl rfl) ?_
              refine xV rfl rfl rfl (v_move rfl) ?_
              refine rl_split (s := 71) rfl (fun g18_2 => ?_) (fun g18_2 => ?_)
              · try with_reducible exact ft_elim g18_2
                all_goals
                  try replace g18_2 := of_decide_eq_true g18_2
                  try (exfalso; omega)
                  all_goals
                    refine rl_vg (met_on rfl rfl rfl rfl) rfl rfl (S := fun _ => True) trivial (v_move rfl) ?_
                    first | (refine rl_vg (met_on rfl rfl rfl rfl) rfl rfl (S := fun _ => True) trivial (v_eqlT rfl rfl (by first | omega | rfl)) ?_) | (refine rl_vg (met_on rfl rfl rfl rfl) rfl rfl (S := fun _ => True) trivial (v_eqlF rfl rfl (by omega)) ?_) | (refine rl_vg (met_on rfl rfl rfl rfl) rfl rfl (S := fun _ => True) trivial (v_eql rfl rfl) ?_)
                    first | (refine xV rfl rfl rfl (v_pick_true rfl rfl) ?_) | (refine xV rfl rfl rfl (v_pick_false rfl rfl) ?_) | (refine xV rfl rfl rfl (v_pick rfl rfl rfl) ?_)
                    refine xV rfl rfl rfl (v_assign rfl) ?_
                    refine rl_nil (g_le (xK (xS rfl (xS rfl (xS rfl (xS rfl (xS rfl (xS rfl (xS rfl (Fr.le_refl _))))))))) ?_)
                    refine g_ret1 Try.func3 rfl rfl ?_
                    exact ⟨rfl, hw.xQ⟩
              · try with_reducible exact tf_elim g18_2
                all_goals
                  try replace g18_2 := of_decide_eq_false g18_2
                  simp at g18_2
  · try with_reducible exact tf_elim g4_2
    all_goals
      try replace g4_2 := of_decide_eq_false g4_2
      try (exfalso; omega)
      all_goals
        refine rl_vg (met_on rfl rfl rfl rfl) rfl rfl (S := fun _ => True) trivial (v_move rfl) ?_
        refine rl_vg (met_on rfl rfl rfl rfl) rfl rfl (S := fun _ => True) trivial (v_neqF rfl rfl (by omega)) ?_
        refine xV rfl rfl rfl (v_pick_false rfl rfl) ?_
        refine xV rfl rfl rfl (v_move rfl) ?_
        refine rl_split (s := 33) rfl (fun g4_6 => ?_) (fun g4_6 => ?_)
        · try with_reducible exact ft_elim g4_6
          all_goals
            try replace g4_6 := of_decide_eq_true g4_6
            try (exfalso; omega)
            all_goals
              refine rl_off (met_off rfl rfl rfl rfl rfl) rfl rfl ?_
              refine rl_off (met_off rfl rfl rfl rfl rfl) rfl rfl ?_
              first | (refine xV rfl rfl rfl (v_pick_true rfl rfl) ?_) | (refine xV rfl rfl rfl (v_pick_false rfl rfl) ?_) | (refine xV rfl rfl rfl (v_pick rfl rfl rfl) ?_)
              refine rl_nil (g_le (xK (xS rfl (xS rfl (xS rfl (xS rfl (xS rfl (xS rfl (xS rfl (xS rfl (xS rfl (xS rfl (xS rfl (Fr.le_refl _))))))))))))) ?_)
              refine g_cond_false rfl ?_
              refine g_skip (g_seq ?_)
              refine g_region ?_
              refine xV rfl rfl rfl (v_move rfl) ?_
              refine rl_k rfl (k_callf Try.func13 rfl rfl rfl rfl ?_)
              refine Calls.mono (snew_calls m p _ (hw.xP (A := MdAt m p ⟨100, List.replicate (2 : Int).toNat ByteArray.empty, [], 0⟩))) ?_
              rintro _ w ⟨l, lsv, rfl, hw⟩
              refine ⟨_, rfl, ?_⟩
              refine xV rfl rfl rfl (v_assign rfl) ?_
              refine rl_nil (g_le (xK (xS rfl (xS rfl (Fr.le_refl _)))) ?_)
              refine g_seq (g_seq ?_)
              refine g_region ?_
              refine xV rfl rfl rfl (v_move rfl) ?_
              refine rl_nil (g_le (xK (Fr.le_refl _)) ?_)
              refine g_block (g_seq ?_)
              refine g_region ?_
              first | (refine xV rfl rfl rfl (v_eqlT rfl rfl (by first | omega | rfl)) ?_) | (refine xV rfl rfl rfl (v_eqlF rfl rfl (by omega)) ?_) | (refine xV rfl rfl rfl (v_eql rfl rfl) ?_)
              refine xV rfl rfl rfl (v_assign rfl) ?_
              refine rl_nil (g_le (xK (xS rfl (Fr.le_refl _))) ?_)
              refine g_cond_false rfl ?_
              refine g_seq ?_
              refine g_region ?_
              first | (refine xV rfl rfl rfl (v_eqlT rfl rfl (by first | omega | rfl)) ?_) | (refine xV rfl rfl rfl (v_eqlF rfl rfl (by omega)) ?_) | (refine xV rfl rfl rfl (v_eql rfl rfl) ?_)
              refine xV rfl rfl rfl (v_assign rfl) ?_
              refine rl_nil (g_le (xK (xS rfl (Fr.le_refl _))) ?_)
              refine g_cond_true rfl ?_
              refine g_region ?_
              refine xV rfl rfl rfl (v_assign rfl) ?_
              refine rl_nil (g_le (xK (Fr.le_refl _)) ?_)
              refine g_inBlock (g_seq ?_)
              refine g_region ?_
              refine rl_v rfl rfl rfl (by first | exact sat_cells hw (by (repeat first | with_reducible exact xH | apply xT); first | done | fail) ⟨rfl, rfl, rfl, rfl, rfl, rfl, rfl, trivial⟩ | exact ro_ats hw (by (repeat first | with_reducible exact xH | apply xT); first | done | fail) (by assumption) | exact own_cells hw (by (repeat first | with_reducible exact xH | apply xT); first | done | fail) (by assumption) | exact old_cells hw (by (repeat first | with_reducible exact xH | apply xT); first | done | fail) (by assumption)) (v_loadAgg (vs := [_, _, _, _, _, _, _]) T.agg_23_7 rfl rfl) ?_
              refine xV rfl rfl rfl (v_move rfl) ?_
              refine xV rfl rfl rfl (v_move rfl) ?_
              refine xV rfl rfl rfl (v_move rfl) ?_
              refine rl_k rfl (k_callf Try.func14 rfl rfl rfl rfl ?_)
              refine Calls.mono (pnewC_calls q hq _ _ hw) ?_
              rintro _ w ⟨rfl, hw⟩
              refine ⟨_, rfl, ?_⟩
              refine xV rfl rfl rfl (v_move rfl) ?_
              refine xV rfl rfl rfl (v_extract rfl rfl) ?_
              refine xV rfl rfl rfl (v_extract rfl rfl) ?_
              refine xV rfl rfl rfl (v_assign rfl) ?_
              refine xV rfl rfl rfl (v_assign rfl) ?_
              refine rl_nil (g_le (xK (xK (xS rfl (xS rfl (xS rfl (xS rfl (xS rfl (xS rfl (xS rfl (xS rfl (Fr.le_refl _))))))))))) ?_)
              refine g_seq (g_seq ?_)
              refine g_region ?_
              refine rl_v rfl rfl rfl (by first | exact sat_cells hw (by (repeat first | with_reducible exact xH | apply xT); first | done | fail) ⟨rfl, rfl, rfl, rfl, rfl, rfl, rfl, trivial⟩ | exact ro_ats hw (by (repeat first | with_reducible exact xH | apply xT); first | done | fail) (by assumption) | exact own_cells hw (by (repeat first | with_reducible exact xH | apply xT); first | done | fail) (by assumption) | exact old_cells hw (by (repeat first | with_reducible exact xH | apply xT); first | done | fail) (by assumption)) (v_loadAgg (vs := [_, _, _, _, _, _, _]) T.agg_23_7 rfl rfl) ?_
              refine rl_k rfl (k_callf Try.func15 rfl rfl rfl rfl ?_)
              refine Calls.mono (rright_calls q (hw.xQ)) ?_
              rw [decide_eq_true hq]
              rintro _ w ⟨rfl, hw⟩
              refine ⟨_, rfl, ?_⟩
              refine xV rfl rfl rfl (v_not rfl) ?_
              refine rl_nil (g_le (xK (xS rfl (xS rfl (Fr.le_refl _)))) ?_)
              refine g_cond_false rfl ?_
              refine g_skip (g_seq (g_seq ?_))
              refine g_region ?_
              refine xV rfl rfl rfl (v_move rfl) ?_
              first | (refine xV rfl rfl rfl (v_geqT rfl rfl (by omega)) ?_) | (refine xV rfl rfl rfl (v_geqF rfl rfl (by omega)) ?_) | (refine xV rfl rfl rfl (v_geq rfl rfl) ?_)
              refine xV rfl rfl rfl (v_move rfl) ?_
              refine rl_split (s := 65) rfl (fun g17_2 => ?_) (fun g17_2 => ?_)
              · try with_reducible exact ft_elim g17_2
                all_goals
                  try replace g17_2 := of_decide_eq_true g17_2
                  try (exfalso; omega)
                  all_goals
                    refine rl_vg (met_on rfl rfl rfl rfl) rfl rfl (S := fun _ => True) trivial (v_move rfl) ?_
                    first | (refine rl_vg (met_on rfl rfl rfl rfl) rfl rfl (S := fun _ => True) trivial (v_leqT rfl rfl (by omega)) ?_) | (refine rl_vg (met_on rfl rfl rfl rfl) rfl rfl (S := fun _ => True) trivial (v_leqF rfl rfl (by omega)) ?_) | (refine rl_vg (met_on rfl rfl rfl rfl) rfl rfl (S := fun _ => True) trivial (v_leq rfl rfl) ?_)
                    first | (refine xV rfl rfl rfl (v_pick_true rfl rfl) ?_) | (refine xV rfl rfl rfl (v_pick_false rfl rfl) ?_) | (refine xV rfl rfl rfl (v_pick rfl rfl rfl) ?_)
                    refine rl_nil (g_le (xK (xS rfl (xS rfl (xS rfl (xS rfl (xS rfl (xS rfl (Fr.le_refl _)))))))) ?_)
                    refine g_cond_true rfl ?_
                    refine g_seq ?_
                    refine g_region ?_
                    refine xV rfl rfl rfl (v_move rfl) ?_
                    refine xV rfl rfl rfl (v_eqlNil T.ptr_38 rfl rfl) ?_
                    refine xV rfl rfl rfl (v_move rfl) ?_
                    refine rl_split (s := 71) rfl (fun g18_2 => ?_) (fun g18_2 => ?_)
                    · try with_reducible exact ft_elim g18_2
                      all_goals
                        try replace g18_2 := of_decide_eq_true g18_2
                        try (exfalso; omega)
                        all_goals
                          refine rl_vg (met_on rfl rfl rfl rfl) rfl rfl (S := fun _ => True) trivial (v_move rfl) ?_
                          first | (refine rl_vg (met_on rfl rfl rfl rfl) rfl rfl (S := fun _ => True) trivial (v_eqlT rfl rfl (by first | omega | rfl)) ?_) | (refine rl_vg (met_on rfl rfl rfl rfl) rfl rfl (S := fun _ => True) trivial (v_eqlF rfl rfl (by omega)) ?_) | (refine rl_vg (met_on rfl rfl rfl rfl) rfl rfl (S := fun _ => True) trivial (v_eql rfl rfl) ?_)
                          first | (refine xV rfl rfl rfl (v_pick_true rfl rfl) ?_) | (refine xV rfl rfl rfl (v_pick_false rfl rfl) ?_) | (refine xV rfl rfl rfl (v_pick rfl rfl rfl) ?_)
                          refine xV rfl rfl rfl (v_assign rfl) ?_
                          refine rl_nil (g_le (xK (xS rfl (xS rfl (xS rfl (xS rfl (xS rfl (xS rfl (xS rfl (Fr.le_refl _))))))))) ?_)
                          refine g_ret1 Try.func3 rfl rfl ?_
                          exact ⟨rfl, hw.xQ⟩
                    · try with_reducible exact tf_elim g18_2
                      all_goals
                        try replace g18_2 := of_decide_eq_false g18_2
                        simp at g18_2
              · try with_reducible exact tf_elim g17_2
                all_goals
                  try replace g17_2 := of_decide_eq_false g17_2
                  try (exfalso; omega)
                  all_goals
                    refine rl_off (met_off rfl rfl rfl rfl rfl) rfl rfl ?_
                    refine rl_off (met_off rfl rfl rfl rfl rfl) rfl rfl ?_
                    first | (refine xV rfl rfl rfl (v_pick_true rfl rfl) ?_) | (refine xV rfl rfl rfl (v_pick_false rfl rfl) ?_) | (refine xV rfl rfl rfl (v_pick rfl rfl rfl) ?_)
                    refine rl_nil (g_le (xK (xS rfl (xS rfl (xS rfl (xS rfl (xS rfl (xS rfl (Fr.le_refl _)))))))) ?_)
                    refine g_cond_true rfl ?_
                    refine g_seq ?_
                    refine g_region ?_
                    refine xV rfl rfl rfl (v_move rfl) ?_
                    refine xV rfl rfl rfl (v_eqlNil T.ptr_38 rfl rfl) ?_
                    refine xV rfl rfl rfl (v_move rfl) ?_
                    refine rl_split (s := 71) rfl (fun g18_2 => ?_) (fun g18_2 => ?_)
                    · try with_reducible exact ft_elim g18_2
                      all_goals
                        try replace g18_2 := of_decide_eq_true g18_2
                        try (exfalso; omega)
                        all_goals
                          refine rl_vg (met_on rfl rfl rfl rfl) rfl rfl (S := fun _ => True) trivial (v_move rfl) ?_
                          first | (refine rl_vg (met_on rfl rfl rfl rfl) rfl rfl (S := fun _ => True) trivial (v_eqlT rfl rfl (by first | omega | rfl)) ?_) | (refine rl_vg (met_on rfl rfl rfl rfl) rfl rfl (S := fun _ => True) trivial (v_eqlF rfl rfl (by omega)) ?_) | (refine rl_vg (met_on rfl rfl rfl rfl) rfl rfl (S := fun _ => True) trivial (v_eql rfl rfl) ?_)
                          first | (refine xV rfl rfl rfl (v_pick_true rfl rfl) ?_) | (refine xV rfl rfl rfl (v_pick_false rfl rfl) ?_) | (refine xV rfl rfl rfl (v_pick rfl rfl rfl) ?_)
                          refine xV rfl rfl rfl (v_assign rfl) ?_
                          refine rl_nil (g_le (xK (xS rfl (xS rfl (xS rfl (xS rfl (xS rfl (xS rfl (xS rfl (Fr.le_refl _))))))))) ?_)
                          refine g_ret1 Try.func3 rfl rfl ?_
                          exact ⟨rfl, hw.xQ⟩
                    · try with_reducible exact tf_elim g18_2
                      all_goals
                        try replace g18_2 := of_decide_eq_false g18_2
                        simp at g18_2
        · try with_reducible exact tf_elim g4_6
          all_goals
            try replace g4_6 := of_decide_eq_false g4_6
            try (exfalso; omega)
            all_goals
              refine rl_vg (met_on rfl rfl rfl rfl) rfl rfl (S := fun _ => True) trivial (v_move rfl) ?_
              refine rl_vg (met_on rfl rfl rfl rfl) rfl rfl (S := fun _ => True) trivial (v_neqF rfl rfl (by omega)) ?_
              refine xV rfl rfl rfl (v_pick_false rfl rfl) ?_
              refine rl_nil (g_le (xK (xS rfl (xS rfl (xS rfl (xS rfl (xS rfl (xS rfl (xS rfl (xS rfl (xS rfl (xS rfl (xS rfl (Fr.le_refl _))))))))))))) ?_)
              refine g_cond_false rfl ?_
              refine g_skip (g_seq ?_)
              refine g_region ?_
              refine xV rfl rfl rfl (v_move rfl) ?_
              refine rl_k rfl (k_callf Try.func13 rfl rfl rfl rfl ?_)
              refine Calls.mono (snew_calls m p _ (hw.xP (A := MdAt m p ⟨100, List.replicate (2 : Int).toNat ByteArray.empty, [], 0⟩))) ?_
              rintro _ w ⟨l, lsv, rfl, hw⟩
              refine ⟨_, rfl, ?_⟩
              refine xV rfl rfl rfl (v_assign rfl) ?_
              refine rl_nil (g_le (xK (xS rfl (xS rfl (Fr.le_refl _)))) ?_)
              refine g_seq (g_seq ?_)
              refine g_region ?_
              refine xV rfl rfl rfl (v_move rfl) ?_
              refine rl_nil (g_le (xK (Fr.le_refl _)) ?_)
              refine g_block (g_seq ?_)
              refine g_region ?_
              refine xV rfl rfl rfl (v_eqlF rfl rfl (by omega)) ?_
              refine xV rfl rfl rfl (v_assign rfl) ?_
              refine rl_nil (g_le (xK (xS rfl (Fr.le_refl _))) ?_)
              refine g_cond_false rfl ?_
              refine g_seq ?_
              refine g_region ?_
              refine xV rfl rfl rfl (v_eqlT rfl rfl (by omega)) ?_
              refine xV rfl rfl rfl (v_assign rfl) ?_
              refine rl_nil (g_le (xK (xS rfl (Fr.le_refl _))) ?_)
              refine g_cond_true rfl ?_
              refine g_region ?_
              refine xV rfl rfl rfl (v_assign rfl) ?_
              refine rl_nil (g_le (xK (Fr.le_refl _)) ?_)
              refine g_inBlock (g_seq ?_)
              refine g_region ?_
              refine rl_v rfl rfl rfl (by exact sat_cells hw (by (repeat first | with_reducible exact xH | apply xT); first | done | fail) ⟨rfl, rfl, rfl, rfl, rfl, rfl, rfl, trivial⟩) (v_loadAgg (vs := [_, _, _, _, _, _, _]) T.agg_23_7 rfl rfl) ?_
              refine xV rfl rfl rfl (v_move rfl) ?_
              refine xV rfl rfl rfl (v_move rfl) ?_
              refine xV rfl rfl rfl (v_move rfl) ?_
              refine rl_k rfl (k_callf Try.func14 rfl rfl rfl rfl ?_)
              refine Calls.mono (pnewC_calls q hq _ _ hw) ?_
              rintro _ w ⟨rfl, hw⟩
              refine ⟨_, rfl, ?_⟩
              refine xV rfl rfl rfl (v_move rfl) ?_
              refine xV rfl rfl rfl (v_extract rfl rfl) ?_
              refine xV rfl rfl rfl (v_extract rfl rfl) ?_
              refine xV rfl rfl rfl (v_assign rfl) ?_
              refine xV rfl rfl rfl (v_assign rfl) ?_
              refine rl_nil (g_le (xK (xK (xS rfl (xS rfl (xS rfl (xS rfl (xS rfl (xS rfl (xS rfl (xS rfl (Fr.le_refl _))))))))))) ?_)
              refine g_seq (g_seq ?_)
              refine g_region ?_
              refine rl_v rfl rfl rfl (by exact sat_cells hw (by (repeat first | with_reducible exact xH | apply xT); first | done | fail) ⟨rfl, rfl, rfl, rfl, rfl, rfl, rfl, trivial⟩) (v_loadAgg (vs := [_, _, _, _, _, _, _]) T.agg_23_7 rfl rfl) ?_
              refine rl_k rfl (k_callf Try.func15 rfl rfl rfl rfl ?_)
              refine Calls.mono (rright_calls q (hw.xQ)) ?_
              rw [decide_eq_true hq]
              rintro _ w ⟨rfl, hw⟩
              refine ⟨_, rfl, ?_⟩
              refine xV rfl rfl rfl (v_not rfl) ?_
              refine rl_nil (g_le (xK (xS rfl (xS rfl (Fr.le_refl _)))) ?_)
              refine g_cond_false rfl ?_
              refine g_skip (g_seq (g_seq ?_))
              refine g_region ?_
              refine xV rfl rfl rfl (v_move rfl) ?_
              refine xV rfl rfl rfl (v_geqT rfl rfl (by omega)) ?_
              refine xV rfl rfl rfl (v_move rfl) ?_
              refine rl_split (s := 65) rfl (fun g17_2 => ?_) (fun g17_2 => ?_)
              · try with_reducible exact ft_elim g17_2
                all_goals
                  try replace g17_2 := of_decide_eq_true g17_2
                  try (exfalso; omega)
                  all_goals
                    refine rl_vg (met_on rfl rfl rfl rfl) rfl rfl (S := fun _ => True) trivial (v_move rfl) ?_
                    refine rl_vg (met_on rfl rfl rfl rfl) rfl rfl (S := fun _ => True) trivial (v_leqT rfl rfl (by omega)) ?_
                    refine xV rfl rfl rfl (v_pick_true rfl rfl) ?_
                    refine rl_nil (g_le (xK (xS rfl (xS rfl (xS rfl (xS rfl (xS rfl (xS rfl (Fr.le_refl _)))))))) ?_)
                    refine g_cond_true rfl ?_
                    refine g_seq ?_
                    refine g_region ?_
                    refine xV rfl rfl rfl (v_move rfl) ?_
                    refine xV rfl rfl rfl (v_eqlNil T.ptr_38 rfl rfl) ?_
                    refine xV rfl rfl rfl (v_move rfl) ?_
                    refine rl_split (s := 71) rfl (fun g18_2 => ?_) (fun g18_2 => ?_)
                    · try with_reducible exact ft_elim g18_2
                      all_goals
                        try replace g18_2 := of_decide_eq_true g18_2
                        try (exfalso; omega)
                        all_goals
                          refine rl_vg (met_on rfl rfl rfl rfl) rfl rfl (S := fun _ => True) trivial (v_move rfl) ?_
                          refine rl_vg (met_on rfl rfl rfl rfl) rfl rfl (S := fun _ => True) trivial (v_eqlT rfl rfl (by omega)) ?_
                          refine xV rfl rfl rfl (v_pick_true rfl rfl) ?_
                          refine xV rfl rfl rfl (v_assign rfl) ?_
                          refine rl_nil (g_le (xK (xS rfl (xS rfl (xS rfl (xS rfl (xS rfl (xS rfl (xS rfl (Fr.le_refl _))))))))) ?_)
                          refine g_ret1 Try.func3 rfl rfl ?_
                          exact ⟨rfl, hw.xQ⟩
                    · try with_reducible exact tf_elim g18_2
                      all_goals
                        try replace g18_2 := of_decide_eq_false g18_2
                        simp at g18_2
              · try with_reducible exact tf_elim g17_2
                all_goals
                  try replace g17_2 := of_decide_eq_false g17_2
                  try (exfalso; omega)
                  all_goals
                    refine rl_off (met_off rfl rfl rfl rfl rfl) rfl rfl ?_
                    refine rl_off (met_off rfl rfl rfl rfl rfl) rfl rfl ?_
                    first | (refine xV rfl rfl rfl (v_pick_true rfl rfl) ?_) | (refine xV rfl rfl rfl (v_pick_false rfl rfl) ?_) | (refine xV rfl rfl rfl (v_pick rfl rfl rfl) ?_)
                    refine rl_nil (g_le (xK (xS rfl (xS rfl (xS rfl (xS rfl (xS rfl (xS rfl (Fr.le_refl _)))))))) ?_)
                    refine g_cond_true rfl ?_
                    refine g_seq ?_
                    refine g_region ?_
                    refine xV rfl rfl rfl (v_move rfl) ?_
                    refine xV rfl rfl rfl (v_eqlNil T.ptr_38 rfl rfl) ?_
                    refine xV rfl rfl rfl (v_move rfl) ?_
                    refine rl_split (s := 71) rfl (fun g18_2 => ?_) (fun g18_2 => ?_)
                    · try with_reducible exact ft_elim g18_2
                      all_goals
                        try replace g18_2 := of_decide_eq_true g18_2
                        try (exfalso; omega)
                        all_goals
                          refine rl_vg (met_on rfl rfl rfl rfl) rfl rfl (S := fun _ => True) trivial (v_move rfl) ?_
                          first | (refine rl_vg (met_on rfl rfl rfl rfl) rfl rfl (S := fun _ => True) trivial (v_eqlT rfl rfl (by first | omega | rfl)) ?_) | (refine rl_vg (met_on rfl rfl rfl rfl) rfl rfl (S := fun _ => True) trivial (v_eqlF rfl rfl (by omega)) ?_) | (refine rl_vg (met_on rfl rfl rfl rfl) rfl rfl (S := fun _ => True) trivial (v_eql rfl rfl) ?_)
                          first | (refine xV rfl rfl rfl (v_pick_true rfl rfl) ?_) | (refine xV rfl rfl rfl (v_pick_false rfl rfl) ?_) | (refine xV rfl rfl rfl (v_pick rfl rfl rfl) ?_)
                          refine xV rfl rfl rfl (v_assign rfl) ?_
                          refine rl_nil (g_le (xK (xS rfl (xS rfl (xS rfl (xS rfl (xS rfl (xS rfl (xS rfl (Fr.le_refl _))))))))) ?_)
                          refine g_ret1 Try.func3 rfl rfl ?_
                          exact ⟨rfl, hw.xQ⟩
                    · try with_reducible exact tf_elim g18_2
                      all_goals
                        try replace g18_2 := of_decide_eq_false g18_2
                        simp at g18_2
set_option maxHeartbeats 2000000 in
theorem PagesMade_D {W w : World} {q : Qt} {n : Int} (hq : q.ok) (hn : n = 2) (hw : Sat (envOf W) w [Old W]) :
    Calls Try.prog 3 #[q.v, .int .i64 n] w fun v w' => v = .returned (.bool true) ∧ Sat (envOf W) w' [Old W] := by
  refine calls_of_g (n := 137) Try.func3 rfl rfl rfl ?_
  change G _ _ _ _ _ [(0, _), (1, _)] _
  refine g_seq ?_
  refine g_region ?_
  refine rl_k rfl (k_box hw rfl rfl rfl (fun bk0_0 w hw => ?_))
  refine xV rfl rfl rfl (v_assign rfl) ?_
  refine rl_nil (g_le (xK (xK (Fr.le_refl _))) ?_)
  refine g_seq ?_
  refine g_region ?_
  refine rl_k rfl (k_callf Try.func10 rfl rfl rfl rfl ?_)
  refine Calls.mono (new_calls (hw.xQ)) ?_
  rintro _ w ⟨p, rfl, hw⟩
  refine ⟨_, rfl, ?_⟩
  refine rl_k rfl (k_callf Try.func9 rfl rfl rfl rfl ?_)
  refine Calls.mono (mnew_calls p 2 100 (by omega) (by omega) (by omega) (by omega) hw) ?_
  rintro _ w ⟨m, rfl, hw⟩
  refine ⟨_, rfl, ?_⟩
  refine xV rfl rfl rfl (v_move rfl) ?_
  refine xV rfl rfl rfl (v_extract rfl rfl) ?_
  refine xV rfl rfl rfl (v_extract rfl rfl) ?_
  refine xV rfl rfl rfl (v_assign rfl) ?_
  refine xV rfl rfl rfl (v_assign rfl) ?_
  refine rl_nil (g_le (xK (xK (xS rfl (xS rfl (xS rfl (xS rfl (xS rfl (Fr.le_refl _)))))))) ?_)
  refine g_seq ?_
  refine g_region ?_
  refine rl_k rfl (k_callf Try.func11 rfl rfl rfl rfl ?_)
  refine Calls.mono (canew_calls hw) ?_
  rintro _ w ⟨c, rfl, hw⟩
  refine ⟨_, rfl, ?_⟩
  refine xV rfl rfl rfl (v_move rfl) ?_
  refine xV rfl rfl rfl (v_extract rfl rfl) ?_
  refine xV rfl rfl rfl (v_extract rfl rfl) ?_
  refine xV rfl rfl rfl (v_assign rfl) ?_
  refine xV rfl rfl rfl (v_assign rfl) ?_
  refine rl_nil (g_le (xK (xK (xS rfl (xS rfl (xS rfl (xS rfl (Fr.le_refl _))))))) ?_)
  refine g_seq ?_
  refine g_region ?_
  refine rl_k rfl (k_callf Try.func12 rfl rfl rfl rfl ?_)
  refine Calls.mono (dnew_calls hw) ?_
  rintro _ w ⟨d, rfl, hw⟩
  refine ⟨_, rfl, ?_⟩
  refine xV rfl rfl rfl (v_move rfl) ?_
  refine xV rfl rfl rfl (v_extract rfl rfl) ?_
  refine xV rfl rfl rfl (v_extract rfl rfl) ?_
  refine xV rfl rfl rfl (v_assign rfl) ?_
  refine xV rfl rfl rfl (v_assign rfl) ?_
  refine rl_nil (g_le (xK (xK (xS rfl (xS rfl (xS rfl (xS rfl (Fr.le_refl _))))))) ?_)
  refine g_seq (g_seq ?_)
  refine g_region ?_
  refine xV rfl rfl rfl (v_move rfl) ?_
  refine xV rfl rfl rfl (v_neqF rfl rfl (by omega)) ?_
  refine xV rfl rfl rfl (v_move rfl) ?_
  refine rl_split (s := 29) rfl (fun g4_2 => ?_) (fun g4_2 => ?_)
  · try with_reducible exact ft_elim g4_2
    all_goals
      try replace g4_2 := of_decide_eq_true g4_2
      try (exfalso; omega)
      all_goals
        refine rl_off (met_off rfl rfl rfl rfl rfl) rfl rfl ?_
        refine rl_off (met_off rfl rfl rfl rfl rfl) rfl rfl ?_
        first | (refine xV rfl rfl rfl (v_pick_true rfl rfl) ?_) | (refine xV rfl rfl rfl (v_pick_false rfl rfl) ?_) | (refine xV rfl rfl rfl (v_pick rfl rfl rfl) ?_)
        refine xV rfl rfl rfl (v_move rfl) ?_
        refine rl_off (met_off rfl rfl rfl rfl rfl) rfl rfl ?_
        refine rl_off (met_off rfl rfl rfl rfl rfl) rfl rfl ?_
        first | (refine xV rfl rfl rfl (v_pick_true rfl rfl) ?_) | (refine xV rfl rfl rfl (v_pick_false rfl rfl) ?_) | (refine xV rfl rfl rfl (v_pick rfl rfl rfl) ?_)
        refine rl_nil (g_le (xK (xS rfl (xS rfl (xS rfl (xS rfl (xS rfl (xS rfl (xS rfl (xS rfl (xS rfl (xS rfl (Fr.le_refl _)))))))))))) ?_)
        refine g_cond_false rfl ?_
        refine g_skip (g_seq ?_)
        refine g_region ?_
        refine xV rfl rfl rfl (v_move rfl) ?_
        refine rl_k rfl (k_callf Try.func13 rfl rfl rfl rfl ?_)
        refine Calls.mono (snew_calls m p _ (hw.xP (A := MdAt m p ⟨100, List.replicate (2 : Int).toNat ByteArray.empty, [], 0⟩))) ?_
        rintro _ w ⟨l, lsv, rfl, hw⟩
        refine ⟨_, rfl, ?_⟩
        refine xV rfl rfl rfl (v_assign rfl) ?_
        refine rl_nil (g_le (xK (xS rfl (xS rfl (Fr.le_refl _)))) ?_)
        refine g_seq (g_seq ?_)
        refine g_region ?_
        refine xV rfl rfl rfl (v_move rfl) ?_
        refine rl_nil (g_le (xK (Fr.le_refl _)) ?_)
        refine g_block (g_seq ?_)
        refine g_region ?_
        first | (refine xV rfl rfl rfl (v_eqlT rfl rfl (by first | omega | rfl)) ?_) | (refine xV rfl rfl rfl (v_eqlF rfl rfl (by omega)) ?_) | (refine xV rfl rfl rfl (v_eql rfl rfl) ?_)
        refine xV rfl rfl rfl (v_assign rfl) ?_
        refine rl_nil (g_le (xK (xS rfl (Fr.le_refl _))) ?_)
        refine g_cond_false rfl ?_
        refine g_seq ?_
        refine g_region ?_
        first | (refine xV rfl rfl rfl (v_eqlT rfl rfl (by first | omega | rfl)) ?_) | (refine xV rfl rfl rfl (v_eqlF rfl rfl (by omega)) ?_) | (refine xV rfl rfl rfl (v_eql rfl rfl) ?_)
        refine xV rfl rfl rfl (v_assign rfl) ?_
        refine rl_nil (g_le (xK (xS rfl (Fr.le_refl _))) ?_)
        refine g_cond_false rfl ?_
        refine g_seq ?_
        refine g_region ?_
        first | (refine xV rfl rfl rfl (v_eqlT rfl rfl (by first | omega | rfl)) ?_) | (refine xV rfl rfl rfl (v_eqlF rfl rfl (by omega)) ?_) | (refine xV rfl rfl rfl (v_eql rfl rfl) ?_)
        refine xV rfl rfl rfl (v_assign rfl) ?_
        refine rl_nil (g_le (xK (xS rfl (Fr.le_refl _))) ?_)
        refine g_cond_true rfl ?_
        refine g_region ?_
        refine xV rfl rfl rfl (v_assign rfl) ?_
        refine rl_nil (g_le (xK (Fr.le_refl _)) ?_)
        refine g_inBlock (g_seq ?_)
        refine g_region ?_
        refine rl_v rfl rfl rfl (by first | exact sat_cells hw (by (repeat first | with_reducible exact xH | apply xT); first | done | fail) ⟨rfl, rfl, rfl, rfl, rfl, rfl, rfl, trivial⟩ | exact ro_ats hw (by (repeat first | with_reducible exact xH | apply xT); first | done | fail) (by assumption) | exact own_cells hw (by (repeat first | with_reducible exact xH | apply xT); first | done | fail) (by assumption) | exact old_cells hw (by (repeat first | with_reducible exact xH | apply xT); first | done | fail) (by assumption)) (v_loadAgg (vs := [_, _, _, _, _, _, _]) T.agg_23_7 rfl rfl) ?_
        refine xV rfl rfl rfl (v_move rfl) ?_
        refine xV rfl rfl rfl (v_move rfl) ?_
        refine xV rfl rfl rfl (v_move rfl) ?_
        refine rl_k rfl (k_callf Try.func14 rfl rfl rfl rfl ?_)
        refine Calls.mono (pnewD_calls q hq _ _ hw) ?_
        rintro _ w ⟨rfl, hw⟩
        refine ⟨_, rfl, ?_⟩
        refine xV rfl rfl rfl (v_move rfl) ?_
        refine xV rfl rfl rfl (v_extract rfl rfl) ?_
        refine xV rfl rfl rfl (v_extract rfl rfl) ?_
        refine xV rfl rfl rfl (v_assign rfl) ?_
        refine xV rfl rfl rfl (v_assign rfl) ?_
        refine rl_nil (g_le (xK (xK (xS rfl (xS rfl (xS rfl (xS rfl (xS rfl (xS rfl (xS rfl (xS rfl (Fr.le_refl _))))))))))) ?_)
        refine g_seq (g_seq ?_)
        refine g_region ?_
        refine rl_v rfl rfl rfl (by first | exact sat_cells hw (by (repeat first | with_reducible exact xH | apply xT); first | done | fail) ⟨rfl, rfl, rfl, rfl, rfl, rfl, rfl, trivial⟩ | exact ro_ats hw (by (repeat first | with_reducible exact xH | apply xT); first | done | fail) (by assumption) | exact own_cells hw (by (repeat first | with_reducible exact xH | apply xT); first | done | fail) (by assumption) | exact old_cells hw (by (repeat first | with_reducible exact xH | apply xT); first | done | fail) (by assumption)) (v_loadAgg (vs := [_, _, _, _, _, _, _]) T.agg_23_7 rfl rfl) ?_
        refine rl_k rfl (k_callf Try.func15 rfl rfl rfl rfl ?_)
        refine Calls.mono (rright_calls q (hw.xQ)) ?_
        rw [decide_eq_true hq]
        rintro _ w ⟨rfl, hw⟩
        refine ⟨_, rfl, ?_⟩
        refine xV rfl rfl rfl (v_not rfl) ?_
        refine rl_nil (g_le (xK (xS rfl (xS rfl (Fr.le_refl _)))) ?_)
        refine g_cond_false rfl ?_
        refine g_skip (g_seq (g_seq ?_))
        refine g_region ?_
        refine xV rfl rfl rfl (v_move rfl) ?_
        first | (refine xV rfl rfl rfl (v_geqT rfl rfl (by omega)) ?_) | (refine xV rfl rfl rfl (v_geqF rfl rfl (by omega)) ?_) | (refine xV rfl rfl rfl (v_geq rfl rfl) ?_)
        refine xV rfl rfl rfl (v_move rfl) ?_
        refine rl_split (s := 65) rfl (fun g17_2 => ?_) (fun g17_2 => ?_)
        · try with_reducible exact ft_elim g17_2
          all_goals
            try replace g17_2 := of_decide_eq_true g17_2
            try (exfalso; omega)
            all_goals
              refine rl_vg (met_on rfl rfl rfl rfl) rfl rfl (S := fun _ => True) trivial (v_move rfl) ?_
              first | (refine rl_vg (met_on rfl rfl rfl rfl) rfl rfl (S := fun _ => True) trivial (v_leqT rfl rfl (by omega)) ?_) | (refine rl_vg (met_on rfl rfl rfl rfl) rfl rfl (S := fun _ => True) trivial (v_leqF rfl rfl (by omega)) ?_) | (refine rl_vg (met_on rfl rfl rfl rfl) rfl rfl (S := fun _ => True) trivial (v_leq rfl rfl) ?_)
              first | (refine xV rfl rfl rfl (v_pick_true rfl rfl) ?_) | (refine xV rfl rfl rfl (v_pick_false rfl rfl) ?_) | (refine xV rfl rfl rfl (v_pick rfl rfl rfl) ?_)
              refine rl_nil (g_le (xK (xS rfl (xS rfl (xS rfl (xS rfl (xS rfl (xS rfl (Fr.le_refl _)))))))) ?_)
              refine g_cond_true rfl ?_
              refine g_seq ?_
              refine g_region ?_
              refine xV rfl rfl rfl (v_move rfl) ?_
              refine xV rfl rfl rfl (v_eqlNil T.ptr_38 rfl rfl) ?_
              refine xV rfl rfl rfl (v_move rfl) ?_
              refine rl_split (s := 71) rfl (fun g18_2 => ?_) (fun g18_2 => ?_)
              · try with_reducible exact ft_elim g18_2
                all_goals
                  try replace g18_2 := of_decide_eq_true g18_2
                  try (exfalso; omega)
                  all_goals
                    refine rl_vg (met_on rfl rfl rfl rfl) rfl rfl (S := fun _ => True) trivial (v_move rfl) ?_
                    first | (refine rl_vg (met_on rfl rfl rfl rfl) rfl rfl (S := fun _ => True) trivial (v_eqlT rfl rfl (by first | omega | rfl)) ?_) | (refine rl_vg (met_on rfl rfl rfl rfl) rfl rfl (S := fun _ => True) trivial (v_eqlF rfl rfl (by omega)) ?_) | (refine rl_vg (met_on rfl rfl rfl rfl) rfl rfl (S := fun _ => True) trivial (v_eql rfl rfl) ?_)
                    first | (refine xV rfl rfl rfl (v_pick_true rfl rfl) ?_) | (refine xV rfl rfl rfl (v_pick_false rfl rfl) ?_) | (refine xV rfl rfl rfl (v_pick rfl rfl rfl) ?_)
                    refine xV rfl rfl rfl (v_assign rfl) ?_
                    refine rl_nil (g_le (xK (xS rfl (xS rfl (xS rfl (xS rfl (xS rfl (xS rfl (xS rfl (Fr.le_refl _))))))))) ?_)
                    refine g_ret1 Try.func3 rfl rfl ?_
                    exact ⟨rfl, hw.xQ⟩
              · try with_reducible exact tf_elim g18_2
                all_goals
                  try replace g18_2 := of_decide_eq_false g18_2
                  simp at g18_2
        · try with_reducible exact tf_elim g17_2
          all_goals
            try replace g17_2 := of_decide_eq_false g17_2
            try (exfalso; omega)
            all_goals
              refine rl_off (met_off rfl rfl rfl rfl rfl) rfl rfl ?_
              refine rl_off (met_off rfl rfl rfl rfl rfl) rfl rfl ?_
              first | (refine xV rfl rfl rfl (v_pick_true rfl rfl) ?_) | (refine xV rfl rfl rfl (v_pick_false rfl rfl) ?_) | (refine xV rfl rfl rfl (v_pick rfl rfl rfl) ?_)
              refine rl_nil (g_le (xK (xS rfl (xS rfl (xS rfl (xS rfl (xS rfl (xS rfl (Fr.le_refl _)))))))) ?_)
              refine g_cond_true rfl ?_
              refine g_seq ?_
              refine g_region ?_
              refine xV rfl rfl rfl (v_move rfl) ?_
              refine xV rfl rfl rfl (v_eqlNil T.ptr_38 rfl rfl) ?_
              refine xV rfl rfl rfl (v_move rfl) ?_
              refine rl_split (s := 71) rfl (fun g18_2 => ?_) (fun g18_2 => ?_)
              · try with_reducible exact ft_elim g18_2
                all_goals
                  try replace g18_2 := of_decide_eq_true g18_2
                  try (exfalso; omega)
                  all_goals
                    refine rl_vg (met_on rfl rfl rfl rfl) rfl rfl (S := fun _ => True) trivial (v_move rfl) ?_
                    first | (refine rl_vg (met_on rfl rfl rfl rfl) rfl rfl (S := fun _ => True) trivial (v_eqlT rfl rfl (by first | omega | rfl)) ?_) | (refine rl_vg (met_on rfl rfl rfl rfl) rfl rfl (S := fun _ => True) trivial (v_eqlF rfl rfl (by omega)) ?_) | (refine rl_vg (met_on rfl rfl rfl rfl) rfl rfl (S := fun _ => True) trivial (v_eql rfl rfl) ?_)
                    first | (refine xV rfl rfl rfl (v_pick_true rfl rfl) ?_) | (refine xV rfl rfl rfl (v_pick_false rfl rfl) ?_) | (refine xV rfl rfl rfl (v_pick rfl rfl rfl) ?_)
                    refine xV rfl rfl rfl (v_assign rfl) ?_
                    refine rl_nil (g_le (xK (xS rfl (xS rfl (xS rfl (xS rfl (xS rfl (xS rfl (xS rfl (Fr.le_refl _))))))))) ?_)
                    refine g_ret1 Try.func3 rfl rfl ?_
                    exact ⟨rfl, hw.xQ⟩
              · try with_reducible exact tf_elim g18_2
                all_goals
                  try replace g18_2 := of_decide_eq_false g18_2
                  simp at g18_2
  · try with_reducible exact tf_elim g4_2
    all_goals
      try replace g4_2 := of_decide_eq_false g4_2
      try (exfalso; omega)
      all_goals
        refine rl_vg (met_on rfl rfl rfl rfl) rfl rfl (S := fun _ => True) trivial (v_move rfl) ?_
        refine rl_vg (met_on rfl rfl rfl rfl) rfl rfl (S := fun _ => True) trivial (v_neqF rfl rfl (by omega)) ?_
        refine xV rfl rfl rfl (v_pick_false rfl rfl) ?_
        refine xV rfl rfl rfl (v_move rfl) ?_
        refine rl_split (s := 33) rfl (fun g4_6 => ?_) (fun g4_6 => ?_)
        · try with_reducible exact ft_elim g4_6
          all_goals
            try replace g4_6 := of_decide_eq_true g4_6
            try (exfalso; omega)
            all_goals
              refine rl_off (met_off rfl rfl rfl rfl rfl) rfl rfl ?_
              refine rl_off (met_off rfl rfl rfl rfl rfl) rfl rfl ?_
              first | (refine xV rfl rfl rfl (v_pick_true rfl rfl) ?_) | (refine xV rfl rfl rfl (v_pick_false rfl rfl) ?_) | (refine xV rfl rfl rfl (v_pick rfl rfl rfl) ?_)
              refine rl_nil (g_le (xK (xS rfl (xS rfl (xS rfl (xS rfl (xS rfl (xS rfl (xS rfl (xS rfl (xS rfl (xS rfl (xS rfl (Fr.le_refl _))))))))))))) ?_)
              refine g_cond_false rfl ?_
              refine g_skip (g_seq ?_)
              refine g_region ?_
              refine xV rfl rfl rfl (v_move rfl) ?_
              refine rl_k rfl (k_callf Try.func13 rfl rfl rfl rfl ?_)
              refine Calls.mono (snew_calls m p _ (hw.xP (A := MdAt m p ⟨100, List.replicate (2 : Int).toNat ByteArray.empty, [], 0⟩))) ?_
              rintro _ w ⟨l, lsv, rfl, hw⟩
              refine ⟨_, rfl, ?_⟩
              refine xV rfl rfl rfl (v_assign rfl) ?_
              refine rl_nil (g_le (xK (xS rfl (xS rfl (Fr.le_refl _)))) ?_)
              refine g_seq (g_seq ?_)
              refine g_region ?_
              refine xV rfl rfl rfl (v_move rfl) ?_
              refine rl_nil (g_le (xK (Fr.le_refl _)) ?_)
              refine g_block (g_seq ?_)
              refine g_region ?_
              first | (refine xV rfl rfl rfl (v_eqlT rfl rfl (by first | omega | rfl)) ?_) | (refine xV rfl rfl rfl (v_eqlF rfl rfl (by omega)) ?_) | (refine xV rfl rfl rfl (v_eql rfl rfl) ?_)
              refine xV rfl rfl rfl (v_assign rfl) ?_
              refine rl_nil (g_le (xK (xS rfl (Fr.le_refl _))) ?_)
              refine g_cond_false rfl ?_
              refine g_seq ?_
              refine g_region ?_
              first | (refine xV rfl rfl rfl (v_eqlT rfl rfl (by first | omega | rfl)) ?_) | (refine xV rfl rfl rfl (v_eqlF rfl rfl (by omega)) ?_) | (refine xV rfl rfl rfl (v_eql rfl rfl) ?_)
              refine xV rfl rfl rfl (v_assign rfl) ?_
              refine rl_nil (g_le (xK (xS rfl (Fr.le_refl _))) ?_)
              refine g_cond_false rfl ?_
              refine g_seq ?_
              refine g_region ?_
              first | (refine xV rfl rfl rfl (v_eqlT rfl rfl (by first | omega | rfl)) ?_) | (refine xV rfl rfl rfl (v_eqlF rfl rfl (by omega)) ?_) | (refine xV rfl rfl rfl (v_eql rfl rfl) ?_)
              refine xV rfl rfl rfl (v_assign rfl) ?_
              refine rl_nil (g_le (xK (xS rfl (Fr.le_refl _))) ?_)
              refine g_cond_true rfl ?_
              refine g_region ?_
              refine xV rfl rfl rfl (v_assign rfl) ?_
              refine rl_nil (g_le (xK (Fr.le_refl _)) ?_)
              refine g_inBlock (g_seq ?_)
              refine g_region ?_
              refine rl_v rfl rfl rfl (by first | exact sat_cells hw (by (repeat first | with_reducible exact xH | apply xT); first | done | fail) ⟨rfl, rfl, rfl, rfl, rfl, rfl, rfl, trivial⟩ | exact ro_ats hw (by (repeat first | with_reducible exact xH | apply xT); first | done | fail) (by assumption) | exact own_cells hw (by (repeat first | with_reducible exact xH | apply xT); first | done | fail) (by assumption) | exact old_cells hw (by (repeat first | with_reducible exact xH | apply xT); first | done | fail) (by assumption)) (v_loadAgg (vs := [_, _, _, _, _, _, _]) T.agg_23_7 rfl rfl) ?_
              refine xV rfl rfl rfl (v_move rfl) ?_
              refine xV rfl rfl rfl (v_move rfl) ?_
              refine xV rfl rfl rfl (v_move rfl) ?_
              refine rl_k rfl (k_callf Try.func14 rfl rfl rfl rfl ?_)
              refine Calls.mono (pnewD_calls q hq _ _ hw) ?_
              rintro _ w ⟨rfl, hw⟩
              refine ⟨_, rfl, ?_⟩
              refine xV rfl rfl rfl (v_move rfl) ?_
              refine xV rfl rfl rfl (v_extract rfl rfl) ?_
              refine xV rfl rfl rfl (v_extract rfl rfl) ?_
              refine xV rfl rfl rfl (v_assign rfl) ?_
              refine xV rfl rfl rfl (v_assign rfl) ?_
              refine rl_nil (g_le (xK (xK (xS rfl (xS rfl (xS rfl (xS rfl (xS rfl (xS rfl (xS rfl (xS rfl (Fr.le_refl _))))))))))) ?_)
              refine g_seq (g_seq ?_)
              refine g_region ?_
              refine rl_v rfl rfl rfl (by first | exact sat_cells hw (by (repeat first | with_reducible exact xH | apply xT); first | done | fail) ⟨rfl, rfl, rfl, rfl, rfl, rfl, rfl, trivial⟩ | exact ro_ats hw (by (repeat first | with_reducible exact xH | apply xT); first | done | fail) (by assumption) | exact own_cells hw (by (repeat first | with_reducible exact xH | apply xT); first | done | fail) (by assumption) | exact old_cells hw (by (repeat first | with_reducible exact xH | apply xT); first | done | fail) (by assumption)) (v_loadAgg (vs := [_, _, _, _, _, _, _]) T.agg_23_7 rfl rfl) ?_
              refine rl_k rfl (k_callf Try.func15 rfl rfl rfl rfl ?_)
              refine Calls.mono (rright_calls q (hw.xQ)) ?_
              rw [decide_eq_true hq]
              rintro _ w ⟨rfl, hw⟩
              refine ⟨_, rfl, ?_⟩
              refine xV rfl rfl rfl (v_not rfl) ?_
              refine rl_nil (g_le (xK (xS rfl (xS rfl (Fr.le_refl _)))) ?_)
              refine g_cond_false rfl ?_
              refine g_skip (g_seq (g_seq ?_))
              refine g_region ?_
              refine xV rfl rfl rfl (v_move rfl) ?_
              first | (refine xV rfl rfl rfl (v_geqT rfl rfl (by omega)) ?_) | (refine xV rfl rfl rfl (v_geqF rfl rfl (by omega)) ?_) | (refine xV rfl rfl rfl (v_geq rfl rfl) ?_)
              refine xV rfl rfl rfl (v_move rfl) ?_
              refine rl_split (s := 65) rfl (fun g17_2 => ?_) (fun g17_2 => ?_)
              · try with_reducible exact ft_elim g17_2
                all_goals
                  try replace g17_2 := of_decide_eq_true g17_2
                  try (exfalso; omega)
                  all_goals
                    refine rl_vg (met_on rfl rfl rfl rfl) rfl rfl (S := fun _ => True) trivial (v_move rfl) ?_
                    first | (refine rl_vg (met_on rfl rfl rfl rfl) rfl rfl (S := fun _ => True) trivial (v_leqT rfl rfl (by omega)) ?_) | (refine rl_vg (met_on rfl rfl rfl rfl) rfl rfl (S := fun _ => True) trivial (v_leqF rfl rfl (by omega)) ?_) | (refine rl_vg (met_on rfl rfl rfl rfl) rfl rfl (S := fun _ => True) trivial (v_leq rfl rfl) ?_)
                    first | (refine xV rfl rfl rfl (v_pick_true rfl rfl) ?_) | (refine xV rfl rfl rfl (v_pick_false rfl rfl) ?_) | (refine xV rfl rfl rfl (v_pick rfl rfl rfl) ?_)
                    refine rl_nil (g_le (xK (xS rfl (xS rfl (xS rfl (xS rfl (xS rfl (xS rfl (Fr.le_refl _)))))))) ?_)
                    refine g_cond_true rfl ?_
                    refine g_seq ?_
                    refine g_region ?_
                    refine xV rfl rfl rfl (v_move rfl) ?_
                    refine xV rfl rfl rfl (v_eqlNil T.ptr_38 rfl rfl) ?_
                    refine xV rfl rfl rfl (v_move rfl) ?_
                    refine rl_split (s := 71) rfl (fun g18_2 => ?_) (fun g18_2 => ?_)
                    · try with_reducible exact ft_elim g18_2
                      all_goals
                        try replace g18_2 := of_decide_eq_true g18_2
                        try (exfalso; omega)
                        all_goals
                          refine rl_vg (met_on rfl rfl rfl rfl) rfl rfl (S := fun _ => True) trivial (v_move rfl) ?_
                          first | (refine rl_vg (met_on rfl rfl rfl rfl) rfl rfl (S := fun _ => True) trivial (v_eqlT rfl rfl (by first | omega | rfl)) ?_) | (refine rl_vg (met_on rfl rfl rfl rfl) rfl rfl (S := fun _ => True) trivial (v_eqlF rfl rfl (by omega)) ?_) | (refine rl_vg (met_on rfl rfl rfl rfl) rfl rfl (S := fun _ => True) trivial (v_eql rfl rfl) ?_)
                          first | (refine xV rfl rfl rfl (v_pick_true rfl rfl) ?_) | (refine xV rfl rfl rfl (v_pick_false rfl rfl) ?_) | (refine xV rfl rfl rfl (v_pick rfl rfl rfl) ?_)
                          refine xV rfl rfl rfl (v_assign rfl) ?_
                          refine rl_nil (g_le (xK (xS rfl (xS rfl (xS rfl (xS rfl (xS rfl (xS rfl (xS rfl (Fr.le_refl _))))))))) ?_)
                          refine g_ret1 Try.func3 rfl rfl ?_
                          exact ⟨rfl, hw.xQ⟩
                    · try with_reducible exact tf_elim g18_2
                      all_goals
                        try replace g18_2 := of_decide_eq_false g18_2
                        simp at g18_2
              · try with_reducible exact tf_elim g17_2
                all_goals
                  try replace g17_2 := of_decide_eq_false g17_2
                  try (exfalso; omega)
                  all_goals
                    refine rl_off (met_off rfl rfl rfl rfl rfl) rfl rfl ?_
                    refine rl_off (met_off rfl rfl rfl rfl rfl) rfl rfl ?_
                    first | (refine xV rfl rfl rfl (v_pick_true rfl rfl) ?_) | (refine xV rfl rfl rfl (v_pick_false rfl rfl) ?_) | (refine xV rfl rfl rfl (v_pick rfl rfl rfl) ?_)
                    refine rl_nil (g_le (xK (xS rfl (xS rfl (xS rfl (xS rfl (xS rfl (xS rfl (Fr.le_refl _)))))))) ?_)
                    refine g_cond_true rfl ?_
                    refine g_seq ?_
                    refine g_region ?_
                    refine xV rfl rfl rfl (v_move rfl) ?_
                    refine xV rfl rfl rfl (v_eqlNil T.ptr_38 rfl rfl) ?_
                    refine xV rfl rfl rfl (v_move rfl) ?_
                    refine rl_split (s := 71) rfl (fun g18_2 => ?_) (fun g18_2 => ?_)
                    · try with_reducible exact ft_elim g18_2
                      all_goals
                        try replace g18_2 := of_decide_eq_true g18_2
                        try (exfalso; omega)
                        all_goals
                          refine rl_vg (met_on rfl rfl rfl rfl) rfl rfl (S := fun _ => True) trivial (v_move rfl) ?_
                          first | (refine rl_vg (met_on rfl rfl rfl rfl) rfl rfl (S := fun _ => True) trivial (v_eqlT rfl rfl (by first | omega | rfl)) ?_) | (refine rl_vg (met_on rfl rfl rfl rfl) rfl rfl (S := fun _ => True) trivial (v_eqlF rfl rfl (by omega)) ?_) | (refine rl_vg (met_on rfl rfl rfl rfl) rfl rfl (S := fun _ => True) trivial (v_eql rfl rfl) ?_)
                          first | (refine xV rfl rfl rfl (v_pick_true rfl rfl) ?_) | (refine xV rfl rfl rfl (v_pick_false rfl rfl) ?_) | (refine xV rfl rfl rfl (v_pick rfl rfl rfl) ?_)
                          refine xV rfl rfl rfl (v_assign rfl) ?_
                          refine rl_nil (g_le (xK (xS rfl (xS rfl (xS rfl (xS rfl (xS rfl (xS rfl (xS rfl (Fr.le_refl _))))))))) ?_)
                          refine g_ret1 Try.func3 rfl rfl ?_
                          exact ⟨rfl, hw.xQ⟩
                    · try with_reducible exact tf_elim g18_2
                      all_goals
                        try replace g18_2 := of_decide_eq_false g18_2
                        simp at g18_2
        · try with_reducible exact tf_elim g4_6
          all_goals
            try replace g4_6 := of_decide_eq_false g4_6
            try (exfalso; omega)
            all_goals
              refine rl_vg (met_on rfl rfl rfl rfl) rfl rfl (S := fun _ => True) trivial (v_move rfl) ?_
              refine rl_vg (met_on rfl rfl rfl rfl) rfl rfl (S := fun _ => True) trivial (v_neqF rfl rfl (by omega)) ?_
              refine xV rfl rfl rfl (v_pick_false rfl rfl) ?_
              refine rl_nil (g_le (xK (xS rfl (xS rfl (xS rfl (xS rfl (xS rfl (xS rfl (xS rfl (xS rfl (xS rfl (xS rfl (xS rfl (Fr.le_refl _))))))))))))) ?_)
              refine g_cond_false rfl ?_
              refine g_skip (g_seq ?_)
              refine g_region ?_
              refine xV rfl rfl rfl (v_move rfl) ?_
              refine rl_k rfl (k_callf Try.func13 rfl rfl rfl rfl ?_)
              refine Calls.mono (snew_calls m p _ (hw.xP (A := MdAt m p ⟨100, List.replicate (2 : Int).toNat ByteArray.empty, [], 0⟩))) ?_
              rintro _ w ⟨l, lsv, rfl, hw⟩
              refine ⟨_, rfl, ?_⟩
              refine xV rfl rfl rfl (v_assign rfl) ?_
              refine rl_nil (g_le (xK (xS rfl (xS rfl (Fr.le_refl _)))) ?_)
              refine g_seq (g_seq ?_)
              refine g_region ?_
              refine xV rfl rfl rfl (v_move rfl) ?_
              refine rl_nil (g_le (xK (Fr.le_refl _)) ?_)
              refine g_block (g_seq ?_)
              refine g_region ?_
              refine xV rfl rfl rfl (v_eqlF rfl rfl (by omega)) ?_
              refine xV rfl rfl rfl (v_assign rfl) ?_
              refine rl_nil (g_le (xK (xS rfl (Fr.le_refl _))) ?_)
              refine g_cond_false rfl ?_
              refine g_seq ?_
              refine g_region ?_
              refine xV rfl rfl rfl (v_eqlF rfl rfl (by omega)) ?_
              refine xV rfl rfl rfl (v_assign rfl) ?_
              refine rl_nil (g_le (xK (xS rfl (Fr.le_refl _))) ?_)
              refine g_cond_false rfl ?_
              refine g_seq ?_
              refine g_region ?_
              refine xV rfl rfl rfl (v_eqlT rfl rfl (by omega)) ?_
              refine xV rfl rfl rfl (v_assign rfl) ?_
              refine rl_nil (g_le (xK (xS rfl (Fr.le_refl _))) ?_)
              refine g_cond_true rfl ?_
              refine g_region ?_
              refine xV rfl rfl rfl (v_assign rfl) ?_
              refine rl_nil (g_le (xK (Fr.le_refl _)) ?_)
              refine g_inBlock (g_seq ?_)
              refine g_region ?_
              refine rl_v rfl rfl rfl (by exact sat_cells hw (by (repeat first | with_reducible exact xH | apply xT); first | done | fail) ⟨rfl, rfl, rfl, rfl, rfl, rfl, rfl, trivial⟩) (v_loadAgg (vs := [_, _, _, _, _, _, _]) T.agg_23_7 rfl rfl) ?_
              refine xV rfl rfl rfl (v_move rfl) ?_
              refine xV rfl rfl rfl (v_move rfl) ?_
              refine xV rfl rfl rfl (v_move rfl) ?_
              refine rl_k rfl (k_callf Try.func14 rfl rfl rfl rfl ?_)
              refine Calls.mono (pnewD_calls q hq _ _ hw) ?_
              rintro _ w ⟨rfl, hw⟩
              refine ⟨_, rfl, ?_⟩
              refine xV rfl rfl rfl (v_move rfl) ?_
              refine xV rfl rfl rfl (v_extract rfl rfl) ?_
              refine xV rfl rfl rfl (v_extract rfl rfl) ?_
              refine xV rfl rfl rfl (v_assign rfl) ?_
              refine xV rfl rfl rfl (v_assign rfl) ?_
              refine rl_nil (g_le (xK (xK (xS rfl (xS rfl (xS rfl (xS rfl (xS rfl (xS rfl (xS rfl (xS rfl (Fr.le_refl _))))))))))) ?_)
              refine g_seq (g_seq ?_)
              refine g_region ?_
              refine rl_v rfl rfl rfl (by exact sat_cells hw (by (repeat first | with_reducible exact xH | apply xT); first | done | fail) ⟨rfl, rfl, rfl, rfl, rfl, rfl, rfl, trivial⟩) (v_loadAgg (vs := [_, _, _, _, _, _, _]) T.agg_23_7 rfl rfl) ?_
              refine rl_k rfl (k_callf Try.func15 rfl rfl rfl rfl ?_)
              refine Calls.mono (rright_calls q (hw.xQ)) ?_
              rw [decide_eq_true hq]
              rintro _ w ⟨rfl, hw⟩
              refine ⟨_, rfl, ?_⟩
              refine xV rfl rfl rfl (v_not rfl) ?_
              refine rl_nil (g_le (xK (xS rfl (xS rfl (Fr.le_refl _)))) ?_)
              refine g_cond_false rfl ?_
              refine g_skip (g_seq (g_seq ?_))
              refine g_region ?_
              refine xV rfl rfl rfl (v_move rfl) ?_
              refine xV rfl rfl rfl (v_geqT rfl rfl (by omega)) ?_
              refine xV rfl rfl rfl (v_move rfl) ?_
              refine rl_split (s := 65) rfl (fun g17_2 => ?_) (fun g17_2 => ?_)
              · try with_reducible exact ft_elim g17_2
                all_goals
                  try replace g17_2 := of_decide_eq_true g17_2
                  try (exfalso; omega)
                  all_goals
                    refine rl_vg (met_on rfl rfl rfl rfl) rfl rfl (S := fun _ => True) trivial (v_move rfl) ?_
                    refine rl_vg (met_on rfl rfl rfl rfl) rfl rfl (S := fun _ => True) trivial (v_leqT rfl rfl (by omega)) ?_
                    refine xV rfl rfl rfl (v_pick_true rfl rfl) ?_
                    refine rl_nil (g_le (xK (xS rfl (xS rfl (xS rfl (xS rfl (xS rfl (xS rfl (Fr.le_refl _)))))))) ?_)
                    refine g_cond_true rfl ?_
                    refine g_seq ?_
                    refine g_region ?_
                    refine xV rfl rfl rfl (v_move rfl) ?_
                    refine xV rfl rfl rfl (v_eqlNil T.ptr_38 rfl rfl) ?_
                    refine xV rfl rfl rfl (v_move rfl) ?_
                    refine rl_split (s := 71) rfl (fun g18_2 => ?_) (fun g18_2 => ?_)
                    · try with_reducible exact ft_elim g18_2
                      all_goals
                        try replace g18_2 := of_decide_eq_true g18_2
                        try (exfalso; omega)
                        all_goals
                          refine rl_vg (met_on rfl rfl rfl rfl) rfl rfl (S := fun _ => True) trivial (v_move rfl) ?_
                          refine rl_vg (met_on rfl rfl rfl rfl) rfl rfl (S := fun _ => True) trivial (v_eqlT rfl rfl (by omega)) ?_
                          refine xV rfl rfl rfl (v_pick_true rfl rfl) ?_
                          refine xV rfl rfl rfl (v_assign rfl) ?_
                          refine rl_nil (g_le (xK (xS rfl (xS rfl (xS rfl (xS rfl (xS rfl (xS rfl (xS rfl (Fr.le_refl _))))))))) ?_)
                          refine g_ret1 Try.func3 rfl rfl ?_
                          exact ⟨rfl, hw.xQ⟩
                    · try with_reducible exact tf_elim g18_2
                      all_goals
                        try replace g18_2 := of_decide_eq_false g18_2
                        simp at g18_2
              · try with_reducible exact tf_elim g17_2
                all_goals
                  try replace g17_2 := of_decide_eq_false g17_2
                  try (exfalso; omega)
                  all_goals
                    refine rl_off (met_off rfl rfl rfl rfl rfl) rfl rfl ?_
                    refine rl_off (met_off rfl rfl rfl rfl rfl) rfl rfl ?_
                    first | (refine xV rfl rfl rfl (v_pick_true rfl rfl) ?_) | (refine xV rfl rfl rfl (v_pick_false rfl rfl) ?_) | (refine xV rfl rfl rfl (v_pick rfl rfl rfl) ?_)
                    refine rl_nil (g_le (xK (xS rfl (xS rfl (xS rfl (xS rfl (xS rfl (xS rfl (Fr.le_refl _)))))))) ?_)
                    refine g_cond_true rfl ?_
                    refine g_seq ?_
                    refine g_region ?_
                    refine xV rfl rfl rfl (v_move rfl) ?_
                    refine xV rfl rfl rfl (v_eqlNil T.ptr_38 rfl rfl) ?_
                    refine xV rfl rfl rfl (v_move rfl) ?_
                    refine rl_split (s := 71) rfl (fun g18_2 => ?_) (fun g18_2 => ?_)
                    · try with_reducible exact ft_elim g18_2
                      all_goals
                        try replace g18_2 := of_decide_eq_true g18_2
                        try (exfalso; omega)
                        all_goals
                          refine rl_vg (met_on rfl rfl rfl rfl) rfl rfl (S := fun _ => True) trivial (v_move rfl) ?_
                          first | (refine rl_vg (met_on rfl rfl rfl rfl) rfl rfl (S := fun _ => True) trivial (v_eqlT rfl rfl (by first | omega | rfl)) ?_) | (refine rl_vg (met_on rfl rfl rfl rfl) rfl rfl (S := fun _ => True) trivial (v_eqlF rfl rfl (by omega)) ?_) | (refine rl_vg (met_on rfl rfl rfl rfl) rfl rfl (S := fun _ => True) trivial (v_eql rfl rfl) ?_)
                          first | (refine xV rfl rfl rfl (v_pick_true rfl rfl) ?_) | (refine xV rfl rfl rfl (v_pick_false rfl rfl) ?_) | (refine xV rfl rfl rfl (v_pick rfl rfl rfl) ?_)
                          refine xV rfl rfl rfl (v_assign rfl) ?_
                          refine rl_nil (g_le (xK (xS rfl (xS rfl (xS rfl (xS rfl (xS rfl (xS rfl (xS rfl (Fr.le_refl _))))))))) ?_)
                          refine g_ret1 Try.func3 rfl rfl ?_
                          exact ⟨rfl, hw.xQ⟩
                    · try with_reducible exact tf_elim g18_2
                      all_goals
                        try replace g18_2 := of_decide_eq_false g18_2
                        simp at g18_2
set_option maxHeartbeats 2000000 in
theorem PagesMade_G {W w : World} {q : Qt} {n : Int} (hq : q.ok) (hn : n < 0 ∨ 2 < n) (hw : Sat (envOf W) w [Old W]) :
    Calls Try.prog 3 #[q.v, .int .i64 n] w fun v w' => v = .returned (.bool true) ∧ Sat (envOf W) w' [Old W] := by
  refine calls_of_g (n := 137) Try.func3 rfl rfl rfl ?_
  change G _ _ _ _ _ [(0, _), (1, _)] _
  refine g_seq ?_
  refine g_region ?_
  refine rl_k rfl (k_box hw rfl rfl rfl (fun bk0_0 w hw => ?_))
  refine xV rfl rfl rfl (v_assign rfl) ?_
  refine rl_nil (g_le (xK (xK (Fr.le_refl _))) ?_)
  refine g_seq ?_
  refine g_region ?_
  refine rl_k rfl (k_callf Try.func10 rfl rfl rfl rfl ?_)
  refine Calls.mono (new_calls (hw.xQ)) ?_
  rintro _ w ⟨p, rfl, hw⟩
  refine ⟨_, rfl, ?_⟩
  refine rl_k rfl (k_callf Try.func9 rfl rfl rfl rfl ?_)
  refine Calls.mono (mnew_calls p 2 100 (by omega) (by omega) (by omega) (by omega) hw) ?_
  rintro _ w ⟨m, rfl, hw⟩
  refine ⟨_, rfl, ?_⟩
  refine xV rfl rfl rfl (v_move rfl) ?_
  refine xV rfl rfl rfl (v_extract rfl rfl) ?_
  refine xV rfl rfl rfl (v_extract rfl rfl) ?_
  refine xV rfl rfl rfl (v_assign rfl) ?_
  refine xV rfl rfl rfl (v_assign rfl) ?_
  refine rl_nil (g_le (xK (xK (xS rfl (xS rfl (xS rfl (xS rfl (xS rfl (Fr.le_refl _)))))))) ?_)
  refine g_seq ?_
  refine g_region ?_
  refine rl_k rfl (k_callf Try.func11 rfl rfl rfl rfl ?_)
  refine Calls.mono (canew_calls hw) ?_
  rintro _ w ⟨c, rfl, hw⟩
  refine ⟨_, rfl, ?_⟩
  refine xV rfl rfl rfl (v_move rfl) ?_
  refine xV rfl rfl rfl (v_extract rfl rfl) ?_
  refine xV rfl rfl rfl (v_extract rfl rfl) ?_
  refine xV rfl rfl rfl (v_assign rfl) ?_
  refine xV rfl rfl rfl (v_assign rfl) ?_
  refine rl_nil (g_le (xK (xK (xS rfl (xS rfl (xS rfl (xS rfl (Fr.le_refl _))))))) ?_)
  refine g_seq ?_
  refine g_region ?_
  refine rl_k rfl (k_callf Try.func12 rfl rfl rfl rfl ?_)
  refine Calls.mono (dnew_calls hw) ?_
  rintro _ w ⟨d, rfl, hw⟩
  refine ⟨_, rfl, ?_⟩
  refine xV rfl rfl rfl (v_move rfl) ?_
  refine xV rfl rfl rfl (v_extract rfl rfl) ?_
  refine xV rfl rfl rfl (v_extract rfl rfl) ?_
  refine xV rfl rfl rfl (v_assign rfl) ?_
  refine xV rfl rfl rfl (v_assign rfl) ?_
  refine rl_nil (g_le (xK (xK (xS rfl (xS rfl (xS rfl (xS rfl (Fr.le_refl _))))))) ?_)
  refine g_seq (g_seq ?_)
  refine g_region ?_
  refine xV rfl rfl rfl (v_move rfl) ?_
  refine xV rfl rfl rfl (v_neqF rfl rfl (by omega)) ?_
  refine xV rfl rfl rfl (v_move rfl) ?_
  refine rl_split (s := 29) rfl (fun g4_2 => ?_) (fun g4_2 => ?_)
  · try with_reducible exact ft_elim g4_2
    all_goals
      try replace g4_2 := of_decide_eq_true g4_2
      try (exfalso; omega)
      all_goals
        refine rl_off (met_off rfl rfl rfl rfl rfl) rfl rfl ?_
        refine rl_off (met_off rfl rfl rfl rfl rfl) rfl rfl ?_
        first | (refine xV rfl rfl rfl (v_pick_true rfl rfl) ?_) | (refine xV rfl rfl rfl (v_pick_false rfl rfl) ?_) | (refine xV rfl rfl rfl (v_pick rfl rfl rfl) ?_)
        refine xV rfl rfl rfl (v_move rfl) ?_
        refine rl_off (met_off rfl rfl rfl rfl rfl) rfl rfl ?_
        refine rl_off (met_off rfl rfl rfl rfl rfl) rfl rfl ?_
        first | (refine xV rfl rfl rfl (v_pick_true rfl rfl) ?_) | (refine xV rfl rfl rfl (v_pick_false rfl rfl) ?_) | (refine xV rfl rfl rfl (v_pick rfl rfl rfl) ?_)
        refine rl_nil (g_le (xK (xS rfl (xS rfl (xS rfl (xS rfl (xS rfl (xS rfl (xS rfl (xS rfl (xS rfl (xS rfl (Fr.le_refl _)))))))))))) ?_)
        refine g_cond_false rfl ?_
        refine g_skip (g_seq ?_)
        refine g_region ?_
        refine xV rfl rfl rfl (v_move rfl) ?_
        refine rl_k rfl (k_callf Try.func13 rfl rfl rfl rfl ?_)
        refine Calls.mono (snew_calls m p _ (hw.xP (A := MdAt m p ⟨100, List.replicate (2 : Int).toNat ByteArray.empty, [], 0⟩))) ?_
        rintro _ w ⟨l, lsv, rfl, hw⟩
        refine ⟨_, rfl, ?_⟩
        refine xV rfl rfl rfl (v_assign rfl) ?_
        refine rl_nil (g_le (xK (xS rfl (xS rfl (Fr.le_refl _)))) ?_)
        refine g_seq (g_seq ?_)
        refine g_region ?_
        refine xV rfl rfl rfl (v_move rfl) ?_
        refine rl_nil (g_le (xK (Fr.le_refl _)) ?_)
        refine g_block (g_seq ?_)
        refine g_region ?_
        first | (refine xV rfl rfl rfl (v_eqlT rfl rfl (by first | omega | rfl)) ?_) | (refine xV rfl rfl rfl (v_eqlF rfl rfl (by omega)) ?_) | (refine xV rfl rfl rfl (v_eql rfl rfl) ?_)
        refine xV rfl rfl rfl (v_assign rfl) ?_
        refine rl_nil (g_le (xK (xS rfl (Fr.le_refl _))) ?_)
        refine g_cond_false rfl ?_
        refine g_seq ?_
        refine g_region ?_
        first | (refine xV rfl rfl rfl (v_eqlT rfl rfl (by first | omega | rfl)) ?_) | (refine xV rfl rfl rfl (v_eqlF rfl rfl (by omega)) ?_) | (refine xV rfl rfl rfl (v_eql rfl rfl) ?_)
        refine xV rfl rfl rfl (v_assign rfl) ?_
        refine rl_nil (g_le (xK (xS rfl (Fr.le_refl _))) ?_)
        refine g_cond_false rfl ?_
        refine g_seq ?_
        refine g_region ?_
        first | (refine xV rfl rfl rfl (v_eqlT rfl rfl (by first | omega | rfl)) ?_) | (refine xV rfl rfl rfl (v_eqlF rfl rfl (by omega)) ?_) | (refine xV rfl rfl rfl (v_eql rfl rfl) ?_)
        refine xV rfl rfl rfl (v_assign rfl) ?_
        refine rl_nil (g_le (xK (xS rfl (Fr.le_refl _))) ?_)
        refine g_cond_false rfl ?_
        refine g_skip (g_inBlock (g_seq ?_))
        refine g_region ?_
        refine rl_v rfl rfl rfl (by first | exact sat_cells hw (by (repeat first | with_reducible exact xH | apply xT); first | done | fail) ⟨rfl, rfl, rfl, rfl, rfl, rfl, rfl, trivial⟩ | exact ro_ats hw (by (repeat first | with_reducible exact xH | apply xT); first | done | fail) (by assumption) | exact own_cells hw (by (repeat first | with_reducible exact xH | apply xT); first | done | fail) (by assumption) | exact old_cells hw (by (repeat first | with_reducible exact xH | apply xT); first | done | fail) (by assumption)) (v_loadAgg (vs := [_, _, _, _, _, _, _]) T.agg_23_7 rfl rfl) ?_
        refine xV rfl rfl rfl (v_move rfl) ?_
        refine xV rfl rfl rfl (v_move rfl) ?_
        refine xV rfl rfl rfl (v_move rfl) ?_
        refine rl_k rfl (k_callf Try.func14 rfl rfl rfl rfl ?_)
        refine Calls.mono (pnew_calls q hq _ _ _ hw) ?_
        rintro _ w ⟨pp, rfl, hw⟩
        refine ⟨_, rfl, ?_⟩
        refine xV rfl rfl rfl (v_move rfl) ?_
        refine xV rfl rfl rfl (v_extract rfl rfl) ?_
        refine xV rfl rfl rfl (v_extract rfl rfl) ?_
        refine xV rfl rfl rfl (v_assign rfl) ?_
        refine xV rfl rfl rfl (v_assign rfl) ?_
        refine rl_nil (g_le (xK (xK (xS rfl (xS rfl (xS rfl (xS rfl (xS rfl (xS rfl (xS rfl (xS rfl (Fr.le_refl _))))))))))) ?_)
        refine g_seq (g_seq ?_)
        refine g_region ?_
        refine rl_v rfl rfl rfl (by first | exact sat_cells hw (by (repeat first | with_reducible exact xH | apply xT); first | done | fail) ⟨rfl, rfl, rfl, rfl, rfl, rfl, rfl, trivial⟩ | exact ro_ats hw (by (repeat first | with_reducible exact xH | apply xT); first | done | fail) (by assumption) | exact own_cells hw (by (repeat first | with_reducible exact xH | apply xT); first | done | fail) (by assumption) | exact old_cells hw (by (repeat first | with_reducible exact xH | apply xT); first | done | fail) (by assumption)) (v_loadAgg (vs := [_, _, _, _, _, _, _]) T.agg_23_7 rfl rfl) ?_
        refine rl_k rfl (k_callf Try.func15 rfl rfl rfl rfl ?_)
        refine Calls.mono (rright_calls q (hw.xQ)) ?_
        rw [decide_eq_true hq]
        rintro _ w ⟨rfl, hw⟩
        refine ⟨_, rfl, ?_⟩
        refine xV rfl rfl rfl (v_not rfl) ?_
        refine rl_nil (g_le (xK (xS rfl (xS rfl (Fr.le_refl _)))) ?_)
        refine g_cond_false rfl ?_
        refine g_skip (g_seq (g_seq ?_))
        refine g_region ?_
        refine xV rfl rfl rfl (v_move rfl) ?_
        first | (refine xV rfl rfl rfl (v_geqT rfl rfl (by omega)) ?_) | (refine xV rfl rfl rfl (v_geqF rfl rfl (by omega)) ?_) | (refine xV rfl rfl rfl (v_geq rfl rfl) ?_)
        refine xV rfl rfl rfl (v_move rfl) ?_
        refine rl_split (s := 65) rfl (fun g17_2 => ?_) (fun g17_2 => ?_)
        · try with_reducible exact ft_elim g17_2
          all_goals
            try replace g17_2 := of_decide_eq_true g17_2
            try (exfalso; omega)
            all_goals
              refine rl_vg (met_on rfl rfl rfl rfl) rfl rfl (S := fun _ => True) trivial (v_move rfl) ?_
              first | (refine rl_vg (met_on rfl rfl rfl rfl) rfl rfl (S := fun _ => True) trivial (v_leqT rfl rfl (by omega)) ?_) | (refine rl_vg (met_on rfl rfl rfl rfl) rfl rfl (S := fun _ => True) trivial (v_leqF rfl rfl (by omega)) ?_) | (refine rl_vg (met_on rfl rfl rfl rfl) rfl rfl (S := fun _ => True) trivial (v_leq rfl rfl) ?_)
              first | (refine xV rfl rfl rfl (v_pick_true rfl rfl) ?_) | (refine xV rfl rfl rfl (v_pick_false rfl rfl) ?_) | (refine xV rfl rfl rfl (v_pick rfl rfl rfl) ?_)
              refine rl_nil (g_le (xK (xS rfl (xS rfl (xS rfl (xS rfl (xS rfl (xS rfl (Fr.le_refl _)))))))) ?_)
              refine g_cond_false rfl ?_
              refine g_skip (g_seq ?_)
              refine g_region ?_
              refine xV rfl rfl rfl (v_move rfl) ?_
              refine xV rfl rfl rfl (v_neqNil T.ptr_38 rfl rfl) ?_
              refine xV rfl rfl rfl (v_move rfl) ?_
              refine rl_split (s := 77) rfl (fun g19_2 => ?_) (fun g19_2 => ?_)
              · try with_reducible exact ft_elim g19_2
                all_goals
                  try replace g19_2 := of_decide_eq_true g19_2
                  try (exfalso; omega)
                  all_goals
                    refine rl_vg (met_on rfl rfl rfl rfl) rfl rfl (S := fun _ => True) trivial (v_move rfl) ?_
                    first | (refine rl_vg (met_on rfl rfl rfl rfl) rfl rfl (S := fun _ => True) trivial (v_eqlT rfl rfl (by first | omega | rfl)) ?_) | (refine rl_vg (met_on rfl rfl rfl rfl) rfl rfl (S := fun _ => True) trivial (v_eqlF rfl rfl (by omega)) ?_) | (refine rl_vg (met_on rfl rfl rfl rfl) rfl rfl (S := fun _ => True) trivial (v_eql rfl rfl) ?_)
                    first | (refine xV rfl rfl rfl (v_pick_true rfl rfl) ?_) | (refine xV rfl rfl rfl (v_pick_false rfl rfl) ?_) | (refine xV rfl rfl rfl (v_pick rfl rfl rfl) ?_)
                    refine xV rfl rfl rfl (v_move rfl) ?_
                    refine rl_split (s := 81) rfl (fun g19_6 => ?_) (fun g19_6 => ?_)
                    · try with_reducible exact ft_elim g19_6
                      all_goals
                        try replace g19_6 := of_decide_eq_true g19_6
                        try (exfalso; omega)
                        all_goals
                          refine rl_vg (met_on rfl rfl rfl rfl) rfl rfl (S := fun _ => True) trivial (v_move rfl) ?_
                          refine rl_vg (met_on rfl rfl rfl rfl) rfl rfl (S := fun _ => True) trivial (v_nilCheck rfl) ?_
                          first | (refine rl_vg (met_on rfl rfl rfl rfl) rfl rfl (S := fun _ => True) trivial (v_fieldAddr0 T.fld_43_0_0 rfl) ?_) | (refine rl_vg (met_on rfl rfl rfl rfl) rfl rfl (S := fun _ => True) trivial (v_fieldAddr T.fld_43_0_0 rfl) ?_)
                          refine rl_vg (met_on rfl rfl rfl rfl) rfl rfl (by first | exact sat_cell hw (by (repeat first | with_reducible exact xH | apply xT); first | done | fail) rfl | exact own_cell hw (by (repeat first | with_reducible exact xH | apply xT); first | done | fail) (by first | rfl | assumption) | exact ro_at0 hw (by (repeat first | with_reducible exact xH | apply xT); first | done | fail) (by assumption) rfl | exact ro_at hw (by (repeat first | with_reducible exact xH | apply xT); first | done | fail) (by assumption) rfl | exact own_at0 hw (by (repeat first | with_reducible exact xH | apply xT); first | done | fail) (by assumption) rfl | exact own_at hw (by (repeat first | with_reducible exact xH | apply xT); first | done | fail) (by assumption) rfl | exact old_cell hw (by (repeat first | with_reducible exact xH | apply xT); first | done | fail) (by assumption) | assumption) (v_load T.scal_36 rfl) ?_
                          refine rl_vg (met_on rfl rfl rfl rfl) rfl rfl (S := fun _ => True) trivial (v_move rfl) ?_
                          refine rl_vg (met_on rfl rfl rfl rfl) rfl rfl (S := fun _ => True) trivial (v_eqlSame T.ptr_36 i36 rfl rfl) ?_
                          first | (refine xV rfl rfl rfl (v_pick_true rfl rfl) ?_) | (refine xV rfl rfl rfl (v_pick_false rfl rfl) ?_) | (refine xV rfl rfl rfl (v_pick rfl rfl rfl) ?_)
                          refine xV rfl rfl rfl (v_move rfl) ?_
                          refine rl_split (s := 89) rfl (fun g19_14 => ?_) (fun g19_14 => ?_)
                          · try with_reducible exact ft_elim g19_14
                            all_goals
                              try replace g19_14 := of_decide_eq_true g19_14
                              try (exfalso; omega)
                              all_goals
                                refine rl_vg (met_on rfl rfl rfl rfl) rfl rfl (S := fun _ => True) trivial (v_move rfl) ?_
                                refine rl_vg (met_on rfl rfl rfl rfl) rfl rfl (S := fun _ => True) trivial (v_nilCheck rfl) ?_
                                first | (refine rl_vg (met_on rfl rfl rfl rfl) rfl rfl (S := fun _ => True) trivial (v_fieldAddr0 T.fld_43_1_1 rfl) ?_) | (refine rl_vg (met_on rfl rfl rfl rfl) rfl rfl (S := fun _ => True) trivial (v_fieldAddr T.fld_43_1_1 rfl) ?_)
                                refine rl_vg (met_on rfl rfl rfl rfl) rfl rfl (by first | exact sat_cell hw (by (repeat first | with_reducible exact xH | apply xT); first | done | fail) rfl | exact own_cell hw (by (repeat first | with_reducible exact xH | apply xT); first | done | fail) (by first | rfl | assumption) | exact ro_at0 hw (by (repeat first | with_reducible exact xH | apply xT); first | done | fail) (by assumption) rfl | exact ro_at hw (by (repeat first | with_reducible exact xH | apply xT); first | done | fail) (by assumption) rfl | exact own_at0 hw (by (repeat first | with_reducible exact xH | apply xT); first | done | fail) (by assumption) rfl | exact own_at hw (by (repeat first | with_reducible exact xH | apply xT); first | done | fail) (by assumption) rfl | exact old_cell hw (by (repeat first | with_reducible exact xH | apply xT); first | done | fail) (by assumption) | assumption) (v_load T.scal_30 rfl) ?_
                                refine rl_vg (met_on rfl rfl rfl rfl) rfl rfl (S := fun _ => True) trivial (v_move rfl) ?_
                                refine rl_vg (met_on rfl rfl rfl rfl) rfl rfl (S := fun _ => True) trivial (v_eqlSame T.ptr_30 i30 rfl rfl) ?_
                                first | (refine xV rfl rfl rfl (v_pick_true rfl rfl) ?_) | (refine xV rfl rfl rfl (v_pick_false rfl rfl) ?_) | (refine xV rfl rfl rfl (v_pick rfl rfl rfl) ?_)
                                refine xV rfl rfl rfl (v_move rfl) ?_
                                refine rl_split (s := 97) rfl (fun g19_22 => ?_) (fun g19_22 => ?_)
                                · try with_reducible exact ft_elim g19_22
                                  all_goals
                                    try replace g19_22 := of_decide_eq_true g19_22
                                    try (exfalso; omega)
                                    all_goals
                                      refine rl_vg (met_on rfl rfl rfl rfl) rfl rfl (S := fun _ => True) trivial (v_move rfl) ?_
                                      refine rl_vg (met_on rfl rfl rfl rfl) rfl rfl (S := fun _ => True) trivial (v_nilCheck rfl) ?_
                                      first | (refine rl_vg (met_on rfl rfl rfl rfl) rfl rfl (S := fun _ => True) trivial (v_fieldAddr0 T.fld_43_2_2 rfl) ?_) | (refine rl_vg (met_on rfl rfl rfl rfl) rfl rfl (S := fun _ => True) trivial (v_fieldAddr T.fld_43_2_2 rfl) ?_)
                                      refine rl_vg (met_on rfl rfl rfl rfl) rfl rfl (by first | exact sat_cell hw (by (repeat first | with_reducible exact xH | apply xT); first | done | fail) rfl | exact own_cell hw (by (repeat first | with_reducible exact xH | apply xT); first | done | fail) (by first | rfl | assumption) | exact ro_at0 hw (by (repeat first | with_reducible exact xH | apply xT); first | done | fail) (by assumption) rfl | exact ro_at hw (by (repeat first | with_reducible exact xH | apply xT); first | done | fail) (by assumption) rfl | exact own_at0 hw (by (repeat first | with_reducible exact xH | apply xT); first | done | fail) (by assumption) rfl | exact own_at hw (by (repeat first | with_reducible exact xH | apply xT); first | done | fail) (by assumption) rfl | exact old_cell hw (by (repeat first | with_reducible exact xH | apply xT); first | done | fail) (by assumption) | assumption) (v_load T.scal_33 rfl) ?_
                                      refine rl_vg (met_on rfl rfl rfl rfl) rfl rfl (S := fun _ => True) trivial (v_move rfl) ?_
                                      refine rl_vg (met_on rfl rfl rfl rfl) rfl rfl (S := fun _ => True) trivial (v_eqlSame T.ptr_33 i33 rfl rfl) ?_
                                      first | (refine xV rfl rfl rfl (v_pick_true rfl rfl) ?_) | (refine xV rfl rfl rfl (v_pick_false rfl rfl) ?_) | (refine xV rfl rfl rfl (v_pick rfl rfl rfl) ?_)
                                      refine xV rfl rfl rfl (v_move rfl) ?_
                                      refine rl_split (s := 105) rfl (fun g19_30 => ?_) (fun g19_30 => ?_)
                                      · try with_reducible exact ft_elim g19_30
                                        all_goals
                                          try replace g19_30 := of_decide_eq_true g19_30
                                          try (exfalso; omega)
                                          all_goals
                                            refine rl_vg (met_on rfl rfl rfl rfl) rfl rfl (S := fun _ => True) trivial (v_move rfl) ?_
                                            refine rl_vg (met_on rfl rfl rfl rfl) rfl rfl (S := fun _ => True) trivial (v_nilCheck rfl) ?_
                                            first | (refine rl_vg (met_on rfl rfl rfl rfl) rfl rfl (S := fun _ => True) trivial (v_fieldAddr0 T.fld_43_0_0 rfl) ?_) | (refine rl_vg (met_on rfl rfl rfl rfl) rfl rfl (S := fun _ => True) trivial (v_fieldAddr T.fld_43_0_0 rfl) ?_)
                                            refine rl_vg (met_on rfl rfl rfl rfl) rfl rfl (by first | exact sat_cell hw (by (repeat first | with_reducible exact xH | apply xT); first | done | fail) rfl | exact own_cell hw (by (repeat first | with_reducible exact xH | apply xT); first | done | fail) (by first | rfl | assumption) | exact ro_at0 hw (by (repeat first | with_reducible exact xH | apply xT); first | done | fail) (by assumption) rfl | exact ro_at hw (by (repeat first | with_reducible exact xH | apply xT); first | done | fail) (by assumption) rfl | exact own_at0 hw (by (repeat first | with_reducible exact xH | apply xT); first | done | fail) (by assumption) rfl | exact own_at hw (by (repeat first | with_reducible exact xH | apply xT); first | done | fail) (by assumption) rfl | exact old_cell hw (by (repeat first | with_reducible exact xH | apply xT); first | done | fail) (by assumption) | assumption) (v_load T.scal_36 rfl) ?_
                                            refine rl_vg (met_on rfl rfl rfl rfl) rfl rfl (S := fun _ => True) trivial (v_nilCheck rfl) ?_
                                            first | (refine rl_vg (met_on rfl rfl rfl rfl) rfl rfl (S := fun _ => True) trivial (v_fieldAddr0 T.fld_47_0_0 rfl) ?_) | (refine rl_vg (met_on rfl rfl rfl rfl) rfl rfl (S := fun _ => True) trivial (v_fieldAddr T.fld_47_0_0 rfl) ?_)
                                            refine rl_vg (met_on rfl rfl rfl rfl) rfl rfl (by first | exact sat_cell hw (by (repeat first | with_reducible exact xH | apply xT); first | done | fail) rfl | exact own_cell hw (by (repeat first | with_reducible exact xH | apply xT); first | done | fail) (by first | rfl | assumption) | exact ro_at0 hw (by (repeat first | with_reducible exact xH | apply xT); first | done | fail) (by assumption) rfl | exact ro_at hw (by (repeat first | with_reducible exact xH | apply xT); first | done | fail) (by assumption) rfl | exact own_at0 hw (by (repeat first | with_reducible exact xH | apply xT); first | done | fail) (by assumption) rfl | exact own_at hw (by (repeat first | with_reducible exact xH | apply xT); first | done | fail) (by assumption) rfl | exact old_cell hw (by (repeat first | with_reducible exact xH | apply xT); first | done | fail) (by assumption) | assumption) (v_load T.scal_24 rfl) ?_
                                            refine rl_kg (met_on rfl rfl rfl rfl) (k_callf Try.func16 rfl rfl rfl rfl ?_)
                                            refine Calls.mono (msegments_calls m p ⟨100, List.replicate (2 : Int).toNat ByteArray.empty, [], 0⟩ (hw.xP)) ?_
                                            rintro _ w ⟨rfl, hw⟩
                                            refine ⟨_, rfl, ?_⟩
                                            first | (refine rl_vg (met_on rfl rfl rfl rfl) rfl rfl (S := fun _ => True) trivial (v_eqlT rfl rfl (by first | omega | rfl)) ?_) | (refine rl_vg (met_on rfl rfl rfl rfl) rfl rfl (S := fun _ => True) trivial (v_eqlF rfl rfl (by omega)) ?_) | (refine rl_vg (met_on rfl rfl rfl rfl) rfl rfl (S := fun _ => True) trivial (v_eql rfl rfl) ?_)
                                            first | (refine xV rfl rfl rfl (v_pick_true rfl rfl) ?_) | (refine xV rfl rfl rfl (v_pick_false rfl rfl) ?_) | (refine xV rfl rfl rfl (v_pick rfl rfl rfl) ?_)
                                            refine xV rfl rfl rfl (v_move rfl) ?_
                                            refine rl_split (s := 116) rfl (fun g19_41 => ?_) (fun g19_41 => ?_)
                                            · try with_reducible exact ft_elim g19_41
                                              all_goals
                                                try replace g19_41 := of_decide_eq_true g19_41
                                                try (exfalso; omega)
                                                all_goals
                                                  refine rl_vg (met_on rfl rfl rfl rfl) rfl rfl (S := fun _ => True) trivial (v_move rfl) ?_
                                                  refine rl_vg (met_on rfl rfl rfl rfl) rfl rfl (S := fun _ => True) trivial (v_nilCheck rfl) ?_
                                                  first | (refine rl_vg (met_on rfl rfl rfl rfl) rfl rfl (S := fun _ => True) trivial (v_fieldAddr0 T.fld_43_2_2 rfl) ?_) | (refine rl_vg (met_on rfl rfl rfl rfl) rfl rfl (S := fun _ => True) trivial (v_fieldAddr T.fld_43_2_2 rfl) ?_)
                                                  refine rl_vg (met_on rfl rfl rfl rfl) rfl rfl (by first | exact sat_cell hw (by (repeat first | with_reducible exact xH | apply xT); first | done | fail) rfl | exact own_cell hw (by (repeat first | with_reducible exact xH | apply xT); first | done | fail) (by first | rfl | assumption) | exact ro_at0 hw (by (repeat first | with_reducible exact xH | apply xT); first | done | fail) (by assumption) rfl | exact ro_at hw (by (repeat first | with_reducible exact xH | apply xT); first | done | fail) (by assumption) rfl | exact own_at0 hw (by (repeat first | with_reducible exact xH | apply xT); first | done | fail) (by assumption) rfl | exact own_at hw (by (repeat first | with_reducible exact xH | apply xT); first | done | fail) (by assumption) rfl | exact old_cell hw (by (repeat first | with_reducible exact xH | apply xT); first | done | fail) (by assumption) | assumption) (v_load T.scal_33 rfl) ?_
                                                  refine rl_kg (met_on rfl rfl rfl rfl) (k_callf Try.func17 rfl rfl rfl rfl ?_)
                                                  refine Calls.mono (taken_calls d _ _ (hw.xP)) ?_
                                                  rintro _ w ⟨rfl, hw⟩
                                                  refine ⟨_, rfl, ?_⟩
                                                  first | (refine rl_vg (met_on rfl rfl rfl rfl) rfl rfl (S := fun _ => True) trivial (v_eqlT rfl rfl (by first | omega | rfl)) ?_) | (refine rl_vg (met_on rfl rfl rfl rfl) rfl rfl (S := fun _ => True) trivial (v_eqlF rfl rfl (by omega)) ?_) | (refine rl_vg (met_on rfl rfl rfl rfl) rfl rfl (S := fun _ => True) trivial (v_eql rfl rfl) ?_)
                                                  first | (refine xV rfl rfl rfl (v_pick_true rfl rfl) ?_) | (refine xV rfl rfl rfl (v_pick_false rfl rfl) ?_) | (refine xV rfl rfl rfl (v_pick rfl rfl rfl) ?_)
                                                  refine xV rfl rfl rfl (v_move rfl) ?_
                                                  refine rl_split (s := 124) rfl (fun g19_49 => ?_) (fun g19_49 => ?_)
                                                  · try with_reducible exact ft_elim g19_49
                                                    all_goals
                                                      try replace g19_49 := of_decide_eq_true g19_49
                                                      try (exfalso; omega)
                                                      all_goals
                                                        refine rl_vg (met_on rfl rfl rfl rfl) rfl rfl (S := fun _ => True) trivial (v_move rfl) ?_
                                                        refine rl_vg (met_on rfl rfl rfl rfl) rfl rfl (S := fun _ => True) trivial (v_nilCheck rfl) ?_
                                                        first | (refine rl_vg (met_on rfl rfl rfl rfl) rfl rfl (S := fun _ => True) trivial (v_fieldAddr0 T.fld_43_0_0 rfl) ?_) | (refine rl_vg (met_on rfl rfl rfl rfl) rfl rfl (S := fun _ => True) trivial (v_fieldAddr T.fld_43_0_0 rfl) ?_)
                                                        refine rl_vg (met_on rfl rfl rfl rfl) rfl rfl (by first | exact sat_cell hw (by (repeat first | with_reducible exact xH | apply xT); first | done | fail) rfl | exact own_cell hw (by (repeat first | with_reducible exact xH | apply xT); first | done | fail) (by first | rfl | assumption) | exact ro_at0 hw (by (repeat first | with_reducible exact xH | apply xT); first | done | fail) (by assumption) rfl | exact ro_at hw (by (repeat first | with_reducible exact xH | apply xT); first | done | fail) (by assumption) rfl | exact own_at0 hw (by (repeat first | with_reducible exact xH | apply xT); first | done | fail) (by assumption) rfl | exact own_at hw (by (repeat first | with_reducible exact xH | apply xT); first | done | fail) (by assumption) rfl | exact old_cell hw (by (repeat first | with_reducible exact xH | apply xT); first | done | fail) (by assumption) | assumption) (v_load T.scal_36 rfl) ?_
                                                        refine rl_vg (met_on rfl rfl rfl rfl) rfl rfl (S := fun _ => True) trivial (v_nilCheck rfl) ?_
                                                        first | (refine rl_vg (met_on rfl rfl rfl rfl) rfl rfl (S := fun _ => True) trivial (v_fieldAddr0 T.fld_47_0_0 rfl) ?_) | (refine rl_vg (met_on rfl rfl rfl rfl) rfl rfl (S := fun _ => True) trivial (v_fieldAddr T.fld_47_0_0 rfl) ?_)
                                                        refine rl_vg (met_on rfl rfl rfl rfl) rfl rfl (by first | exact sat_cell hw (by (repeat first | with_reducible exact xH | apply xT); first | done | fail) rfl | exact own_cell hw (by (repeat first | with_reducible exact xH | apply xT); first | done | fail) (by first | rfl | assumption) | exact ro_at0 hw (by (repeat first | with_reducible exact xH | apply xT); first | done | fail) (by assumption) rfl | exact ro_at hw (by (repeat first | with_reducible exact xH | apply xT); first | done | fail) (by assumption) rfl | exact own_at0 hw (by (repeat first | with_reducible exact xH | apply xT); first | done | fail) (by assumption) rfl | exact own_at hw (by (repeat first | with_reducible exact xH | apply xT); first | done | fail) (by assumption) rfl | exact old_cell hw (by (repeat first | with_reducible exact xH | apply xT); first | done | fail) (by assumption) | assumption) (v_load T.scal_24 rfl) ?_
                                                        refine rl_vg (met_on rfl rfl rfl rfl) rfl rfl (S := fun _ => True) trivial (v_nilCheck rfl) ?_
                                                        first | (refine rl_vg (met_on rfl rfl rfl rfl) rfl rfl (S := fun _ => True) trivial (v_fieldAddr0 T.fld_52_0_0 rfl) ?_) | (refine rl_vg (met_on rfl rfl rfl rfl) rfl rfl (S := fun _ => True) trivial (v_fieldAddr T.fld_52_0_0 rfl) ?_)
                                                        obtain ⟨_, g9, cap9, pa9, pc9, vs9, _, _, _, hw⟩ := md_open (hw.xP (A := MdAt m p ⟨100, List.replicate (2 : Int).toNat ByteArray.empty, [], 0⟩))
                                                        refine rl_vg (met_on rfl rfl rfl rfl) rfl rfl (by first | exact sat_cell hw (by (repeat first | with_reducible exact xH | apply xT); first | done | fail) rfl | exact own_cell hw (by (repeat first | with_reducible exact xH | apply xT); first | done | fail) (by first | rfl | assumption) | exact ro_at0 hw (by (repeat first | with_reducible exact xH | apply xT); first | done | fail) (by assumption) rfl | exact ro_at hw (by (repeat first | with_reducible exact xH | apply xT); first | done | fail) (by assumption) rfl | exact own_at0 hw (by (repeat first | with_reducible exact xH | apply xT); first | done | fail) (by assumption) rfl | exact own_at hw (by (repeat first | with_reducible exact xH | apply xT); first | done | fail) (by assumption) rfl | exact old_cell hw (by (repeat first | with_reducible exact xH | apply xT); first | done | fail) (by assumption) | assumption) (v_load T.scal_28 rfl) ?_
                                                        refine rl_kg (met_on rfl rfl rfl rfl) (k_callf Try.func18 rfl rfl rfl rfl ?_)
                                                        refine Calls.mono (on_calls p ⟨false, 0, 0⟩ (hw.xP)) ?_
                                                        rintro _ w ⟨rfl, hw⟩
                                                        refine ⟨_, rfl, ?_⟩
                                                        first | (refine xV rfl rfl rfl (v_pick_true rfl rfl) ?_) | (refine xV rfl rfl rfl (v_pick_false rfl rfl) ?_) | (refine xV rfl rfl rfl (v_pick rfl rfl rfl) ?_)
                                                        refine xV rfl rfl rfl (v_assign rfl) ?_
                                                        refine rl_nil (g_le (xK (xS rfl (xS rfl (xS rfl (xS rfl (xS rfl (xS rfl (xS rfl (xS rfl (xS rfl (xS rfl (xS rfl (xS rfl (xS rfl (xS rfl (xS rfl (xS rfl (xS rfl (xS rfl (xS rfl (xS rfl (xS rfl (xS rfl (xS rfl (xS rfl (xS rfl (xS rfl (xS rfl (xS rfl (xS rfl (xS rfl (xS rfl (xS rfl (xS rfl (xS rfl (xS rfl (xS rfl (xS rfl (xS rfl (xS rfl (xS rfl (xS rfl (xS rfl (xS rfl (xS rfl (xS rfl (xS rfl (xS rfl (xS rfl (xS rfl (xS rfl (xS rfl (xS rfl (xS rfl (xS rfl (xS rfl (xS rfl (xS rfl (xS rfl (xS rfl (xS rfl (xS rfl (xS rfl (xS rfl (xS rfl (xS rfl (xS rfl (xS rfl (xS rfl (xS rfl (Fr.le_refl _))))))))))))))))))))))))))))))))))))))))))))))))))))))))))))))))))))))) ?_)
                                                        refine g_ret1 Try.func3 rfl rfl ?_
                                                        refine ⟨?_, hw.xQ⟩
                                                        first | rfl | simp
                                                  · try with_reducible exact tf_elim g19_49
                                                    all_goals
                                                      try replace g19_49 := of_decide_eq_false g19_49
                                                      simp at g19_49
                                            · try with_reducible exact tf_elim g19_41
                                              all_goals
                                                try replace g19_41 := of_decide_eq_false g19_41
                                                simp at g19_41
                                      · try with_reducible exact tf_elim g19_30
                                        all_goals
                                          try replace g19_30 := of_decide_eq_false g19_30
                                          simp at g19_30
                                · try with_reducible exact tf_elim g19_22
                                  all_goals
                                    try replace g19_22 := of_decide_eq_false g19_22
                                    simp at g19_22
                          · try with_reducible exact tf_elim g19_14
                            all_goals
                              try replace g19_14 := of_decide_eq_false g19_14
                              simp at g19_14
                    · try with_reducible exact tf_elim g19_6
                      all_goals
                        try replace g19_6 := of_decide_eq_false g19_6
                        simp at g19_6
              · try with_reducible exact tf_elim g19_2
                all_goals
                  try replace g19_2 := of_decide_eq_false g19_2
                  simp at g19_2
        · try with_reducible exact tf_elim g17_2
          all_goals
            try replace g17_2 := of_decide_eq_false g17_2
            try (exfalso; omega)
            all_goals
              refine rl_off (met_off rfl rfl rfl rfl rfl) rfl rfl ?_
              refine rl_off (met_off rfl rfl rfl rfl rfl) rfl rfl ?_
              first | (refine xV rfl rfl rfl (v_pick_true rfl rfl) ?_) | (refine xV rfl rfl rfl (v_pick_false rfl rfl) ?_) | (refine xV rfl rfl rfl (v_pick rfl rfl rfl) ?_)
              refine rl_nil (g_le (xK (xS rfl (xS rfl (xS rfl (xS rfl (xS rfl (xS rfl (Fr.le_refl _)))))))) ?_)
              refine g_cond_false rfl ?_
              refine g_skip (g_seq ?_)
              refine g_region ?_
              refine xV rfl rfl rfl (v_move rfl) ?_
              refine xV rfl rfl rfl (v_neqNil T.ptr_38 rfl rfl) ?_
              refine xV rfl rfl rfl (v_move rfl) ?_
              refine rl_split (s := 77) rfl (fun g19_2 => ?_) (fun g19_2 => ?_)
              · try with_reducible exact ft_elim g19_2
                all_goals
                  try replace g19_2 := of_decide_eq_true g19_2
                  try (exfalso; omega)
                  all_goals
                    refine rl_vg (met_on rfl rfl rfl rfl) rfl rfl (S := fun _ => True) trivial (v_move rfl) ?_
                    first | (refine rl_vg (met_on rfl rfl rfl rfl) rfl rfl (S := fun _ => True) trivial (v_eqlT rfl rfl (by first | omega | rfl)) ?_) | (refine rl_vg (met_on rfl rfl rfl rfl) rfl rfl (S := fun _ => True) trivial (v_eqlF rfl rfl (by omega)) ?_) | (refine rl_vg (met_on rfl rfl rfl rfl) rfl rfl (S := fun _ => True) trivial (v_eql rfl rfl) ?_)
                    first | (refine xV rfl rfl rfl (v_pick_true rfl rfl) ?_) | (refine xV rfl rfl rfl (v_pick_false rfl rfl) ?_) | (refine xV rfl rfl rfl (v_pick rfl rfl rfl) ?_)
                    refine xV rfl rfl rfl (v_move rfl) ?_
                    refine rl_split (s := 81) rfl (fun g19_6 => ?_) (fun g19_6 => ?_)
                    · try with_reducible exact ft_elim g19_6
                      all_goals
                        try replace g19_6 := of_decide_eq_true g19_6
                        try (exfalso; omega)
                        all_goals
                          refine rl_vg (met_on rfl rfl rfl rfl) rfl rfl (S := fun _ => True) trivial (v_move rfl) ?_
                          refine rl_vg (met_on rfl rfl rfl rfl) rfl rfl (S := fun _ => True) trivial (v_nilCheck rfl) ?_
                          first | (refine rl_vg (met_on rfl rfl rfl rfl) rfl rfl (S := fun _ => True) trivial (v_fieldAddr0 T.fld_43_0_0 rfl) ?_) | (refine rl_vg (met_on rfl rfl rfl rfl) rfl rfl (S := fun _ => True) trivial (v_fieldAddr T.fld_43_0_0 rfl) ?_)
                          refine rl_vg (met_on rfl rfl rfl rfl) rfl rfl (by first | exact sat_cell hw (by (repeat first | with_reducible exact xH | apply xT); first | done | fail) rfl | exact own_cell hw (by (repeat first | with_reducible exact xH | apply xT); first | done | fail) (by first | rfl | assumption) | exact ro_at0 hw (by (repeat first | with_reducible exact xH | apply xT); first | done | fail) (by assumption) rfl | exact ro_at hw (by (repeat first | with_reducible exact xH | apply xT); first | done | fail) (by assumption) rfl | exact own_at0 hw (by (repeat first | with_reducible exact xH | apply xT); first | done | fail) (by assumption) rfl | exact own_at hw (by (repeat first | with_reducible exact xH | apply xT); first | done | fail) (by assumption) rfl | exact old_cell hw (by (repeat first | with_reducible exact xH | apply xT); first | done | fail) (by assumption) | assumption) (v_load T.scal_36 rfl) ?_
                          refine rl_vg (met_on rfl rfl rfl rfl) rfl rfl (S := fun _ => True) trivial (v_move rfl) ?_
                          refine rl_vg (met_on rfl rfl rfl rfl) rfl rfl (S := fun _ => True) trivial (v_eqlSame T.ptr_36 i36 rfl rfl) ?_
                          first | (refine xV rfl rfl rfl (v_pick_true rfl rfl) ?_) | (refine xV rfl rfl rfl (v_pick_false rfl rfl) ?_) | (refine xV rfl rfl rfl (v_pick rfl rfl rfl) ?_)
                          refine xV rfl rfl rfl (v_move rfl) ?_
                          refine rl_split (s := 89) rfl (fun g19_14 => ?_) (fun g19_14 => ?_)
                          · try with_reducible exact ft_elim g19_14
                            all_goals
                              try replace g19_14 := of_decide_eq_true g19_14
                              try (exfalso; omega)
                              all_goals
                                refine rl_vg (met_on rfl rfl rfl rfl) rfl rfl (S := fun _ => True) trivial (v_move rfl) ?_
                                refine rl_vg (met_on rfl rfl rfl rfl) rfl rfl (S := fun _ => True) trivial (v_nilCheck rfl) ?_
                                first | (refine rl_vg (met_on rfl rfl rfl rfl) rfl rfl (S := fun _ => True) trivial (v_fieldAddr0 T.fld_43_1_1 rfl) ?_) | (refine rl_vg (met_on rfl rfl rfl rfl) rfl rfl (S := fun _ => True) trivial (v_fieldAddr T.fld_43_1_1 rfl) ?_)
                                refine rl_vg (met_on rfl rfl rfl rfl) rfl rfl (by first | exact sat_cell hw (by (repeat first | with_reducible exact xH | apply xT); first | done | fail) rfl | exact own_cell hw (by (repeat first | with_reducible exact xH | apply xT); first | done | fail) (by first | rfl | assumption) | exact ro_at0 hw (by (repeat first | with_reducible exact xH | apply xT); first | done | fail) (by assumption) rfl | exact ro_at hw (by (repeat first | with_reducible exact xH | apply xT); first | done | fail) (by assumption) rfl | exact own_at0 hw (by (repeat first | with_reducible exact xH | apply xT); first | done | fail) (by assumption) rfl | exact own_at hw (by (repeat first | with_reducible exact xH | apply xT); first | done | fail) (by assumption) rfl | exact old_cell hw (by (repeat first | with_reducible exact xH | apply xT); first | done | fail) (by assumption) | assumption) (v_load T.scal_30 rfl) ?_
                                refine rl_vg (met_on rfl rfl rfl rfl) rfl rfl (S := fun _ => True) trivial (v_move rfl) ?_
                                refine rl_vg (met_on rfl rfl rfl rfl) rfl rfl (S := fun _ => True) trivial (v_eqlSame T.ptr_30 i30 rfl rfl) ?_
                                first | (refine xV rfl rfl rfl (v_pick_true rfl rfl) ?_) | (refine xV rfl rfl rfl (v_pick_false rfl rfl) ?_) | (refine xV rfl rfl rfl (v_pick rfl rfl rfl) ?_)
                                refine xV rfl rfl rfl (v_move rfl) ?_
                                refine rl_split (s := 97) rfl (fun g19_22 => ?_) (fun g19_22 => ?_)
                                · try with_reducible exact ft_elim g19_22
                                  all_goals
                                    try replace g19_22 := of_decide_eq_true g19_22
                                    try (exfalso; omega)
                                    all_goals
                                      refine rl_vg (met_on rfl rfl rfl rfl) rfl rfl (S := fun _ => True) trivial (v_move rfl) ?_
                                      refine rl_vg (met_on rfl rfl rfl rfl) rfl rfl (S := fun _ => True) trivial (v_nilCheck rfl) ?_
                                      first | (refine rl_vg (met_on rfl rfl rfl rfl) rfl rfl (S := fun _ => True) trivial (v_fieldAddr0 T.fld_43_2_2 rfl) ?_) | (refine rl_vg (met_on rfl rfl rfl rfl) rfl rfl (S := fun _ => True) trivial (v_fieldAddr T.fld_43_2_2 rfl) ?_)
                                      refine rl_vg (met_on rfl rfl rfl rfl) rfl rfl (by first | exact sat_cell hw (by (repeat first | with_reducible exact xH | apply xT); first | done | fail) rfl | exact own_cell hw (by (repeat first | with_reducible exact xH | apply xT); first | done | fail) (by first | rfl | assumption) | exact ro_at0 hw (by (repeat first | with_reducible exact xH | apply xT); first | done | fail) (by assumption) rfl | exact ro_at hw (by (repeat first | with_reducible exact xH | apply xT); first | done | fail) (by assumption) rfl | exact own_at0 hw (by (repeat first | with_reducible exact xH | apply xT); first | done | fail) (by assumption) rfl | exact own_at hw (by (repeat first | with_reducible exact xH | apply xT); first | done | fail) (by assumption) rfl | exact old_cell hw (by (repeat first | with_reducible exact xH | apply xT); first | done | fail) (by assumption) | assumption) (v_load T.scal_33 rfl) ?_
                                      refine rl_vg (met_on rfl rfl rfl rfl) rfl rfl (S := fun _ => True) trivial (v_move rfl) ?_
                                      refine rl_vg (met_on rfl rfl rfl rfl) rfl rfl (S := fun _ => True) trivial (v_eqlSame T.ptr_33 i33 rfl rfl) ?_
                                      first | (refine xV rfl rfl rfl (v_pick_true rfl rfl) ?_) | (refine xV rfl rfl rfl (v_pick_false rfl rfl) ?_) | (refine xV rfl rfl rfl (v_pick rfl rfl rfl) ?_)
                                      refine xV rfl rfl rfl (v_move rfl) ?_
                                      refine rl_split (s := 105) rfl (fun g19_30 => ?_) (fun g19_30 => ?_)
                                      · try with_reducible exact ft_elim g19_30
                                        all_goals
                                          try replace g19_30 := of_decide_eq_true g19_30
                                          try (exfalso; omega)
                                          all_goals
                                            refine rl_vg (met_on rfl rfl rfl rfl) rfl rfl (S := fun _ => True) trivial (v_move rfl) ?_
                                            refine rl_vg (met_on rfl rfl rfl rfl) rfl rfl (S := fun _ => True) trivial (v_nilCheck rfl) ?_
                                            first | (refine rl_vg (met_on rfl rfl rfl rfl) rfl rfl (S := fun _ => True) trivial (v_fieldAddr0 T.fld_43_0_0 rfl) ?_) | (refine rl_vg (met_on rfl rfl rfl rfl) rfl rfl (S := fun _ => True) trivial (v_fieldAddr T.fld_43_0_0 rfl) ?_)
                                            refine rl_vg (met_on rfl rfl rfl rfl) rfl rfl (by first | exact sat_cell hw (by (repeat first | with_reducible exact xH | apply xT); first | done | fail) rfl | exact own_cell hw (by (repeat first | with_reducible exact xH | apply xT); first | done | fail) (by first | rfl | assumption) | exact ro_at0 hw (by (repeat first | with_reducible exact xH | apply xT); first | done | fail) (by assumption) rfl | exact ro_at hw (by (repeat first | with_reducible exact xH | apply xT); first | done | fail) (by assumption) rfl | exact own_at0 hw (by (repeat first | with_reducible exact xH | apply xT); first | done | fail) (by assumption) rfl | exact own_at hw (by (repeat first | with_reducible exact xH | apply xT); first | done | fail) (by assumption) rfl | exact old_cell hw (by (repeat first | with_reducible exact xH | apply xT); first | done | fail) (by assumption) | assumption) (v_load T.scal_36 rfl) ?_
                                            refine rl_vg (met_on rfl rfl rfl rfl) rfl rfl (S := fun _ => True) trivial (v_nilCheck rfl) ?_
                                            first | (refine rl_vg (met_on rfl rfl rfl rfl) rfl rfl (S := fun _ => True) trivial (v_fieldAddr0 T.fld_47_0_0 rfl) ?_) | (refine rl_vg (met_on rfl rfl rfl rfl) rfl rfl (S := fun _ => True) trivial (v_fieldAddr T.fld_47_0_0 rfl) ?_)
                                            refine rl_vg (met_on rfl rfl rfl rfl) rfl rfl (by first | exact sat_cell hw (by (repeat first | with_reducible exact xH | apply xT); first | done | fail) rfl | exact own_cell hw (by (repeat first | with_reducible exact xH | apply xT); first | done | fail) (by first | rfl | assumption) | exact ro_at0 hw (by (repeat first | with_reducible exact xH | apply xT); first | done | fail) (by assumption) rfl | exact ro_at hw (by (repeat first | with_reducible exact xH | apply xT); first | done | fail) (by assumption) rfl | exact own_at0 hw (by (repeat first | with_reducible exact xH | apply xT); first | done | fail) (by assumption) rfl | exact own_at hw (by (repeat first | with_reducible exact xH | apply xT); first | done | fail) (by assumption) rfl | exact old_cell hw (by (repeat first | with_reducible exact xH | apply xT); first | done | fail) (by assumption) | assumption) (v_load T.scal_24 rfl) ?_
                                            refine rl_kg (met_on rfl rfl rfl rfl) (k_callf Try.func16 rfl rfl rfl rfl ?_)
                                            refine Calls.mono (msegments_calls m p ⟨100, List.replicate (2 : Int).toNat ByteArray.empty, [], 0⟩ (hw.xP)) ?_
                                            rintro _ w ⟨rfl, hw⟩
                                            refine ⟨_, rfl, ?_⟩
                                            first | (refine rl_vg (met_on rfl rfl rfl rfl) rfl rfl (S := fun _ => True) trivial (v_eqlT rfl rfl (by first | omega | rfl)) ?_) | (refine rl_vg (met_on rfl rfl rfl rfl) rfl rfl (S := fun _ => True) trivial (v_eqlF rfl rfl (by omega)) ?_) | (refine rl_vg (met_on rfl rfl rfl rfl) rfl rfl (S := fun _ => True) trivial (v_eql rfl rfl) ?_)
                                            first | (refine xV rfl rfl rfl (v_pick_true rfl rfl) ?_) | (refine xV rfl rfl rfl (v_pick_false rfl rfl) ?_) | (refine xV rfl rfl rfl (v_pick rfl rfl rfl) ?_)
                                            refine xV rfl rfl rfl (v_move rfl) ?_
                                            refine rl_split (s := 116) rfl (fun g19_41 => ?_) (fun g19_41 => ?_)
                                            · try with_reducible exact ft_elim g19_41
                                              all_goals
                                                try replace g19_41 := of_decide_eq_true g19_41
                                                try (exfalso; omega)
                                                all_goals
                                                  refine rl_vg (met_on rfl rfl rfl rfl) rfl rfl (S := fun _ => True) trivial (v_move rfl) ?_
                                                  refine rl_vg (met_on rfl rfl rfl rfl) rfl rfl (S := fun _ => True) trivial (v_nilCheck rfl) ?_
                                                  first | (refine rl_vg (met_on rfl rfl rfl rfl) rfl rfl (S := fun _ => True) trivial (v_fieldAddr0 T.fld_43_2_2 rfl) ?_) | (refine rl_vg (met_on rfl rfl rfl rfl) rfl rfl (S := fun _ => True) trivial (v_fieldAddr T.fld_43_2_2 rfl) ?_)
                                                  refine rl_vg (met_on rfl rfl rfl rfl) rfl rfl (by first | exact sat_cell hw (by (repeat first | with_reducible exact xH | apply xT); first | done | fail) rfl | exact own_cell hw (by (repeat first | with_reducible exact xH | apply xT); first | done | fail) (by first | rfl | assumption) | exact ro_at0 hw (by (repeat first | with_reducible exact xH | apply xT); first | done | fail) (by assumption) rfl | exact ro_at hw (by (repeat first | with_reducible exact xH | apply xT); first | done | fail) (by assumption) rfl | exact own_at0 hw (by (repeat first | with_reducible exact xH | apply xT); first | done | fail) (by assumption) rfl | exact own_at hw (by (repeat first | with_reducible exact xH | apply xT); first | done | fail) (by assumption) rfl | exact old_cell hw (by (repeat first | with_reducible exact xH | apply xT); first | done | fail) (by assumption) | assumption) (v_load T.scal_33 rfl) ?_
                                                  refine rl_kg (met_on rfl rfl rfl rfl) (k_callf Try.func17 rfl rfl rfl rfl ?_)
                                                  refine Calls.mono (taken_calls d _ _ (hw.xP)) ?_
                                                  rintro _ w ⟨rfl, hw⟩
                                                  refine ⟨_, rfl, ?_⟩
                                                  first | (refine rl_vg (met_on rfl rfl rfl rfl) rfl rfl (S := fun _ => True) trivial (v_eqlT rfl rfl (by first | omega | rfl)) ?_) | (refine rl_vg (met_on rfl rfl rfl rfl) rfl rfl (S := fun _ => True) trivial (v_eqlF rfl rfl (by omega)) ?_) | (refine rl_vg (met_on rfl rfl rfl rfl) rfl rfl (S := fun _ => True) trivial (v_eql rfl rfl) ?_)
                                                  first | (refine xV rfl rfl rfl (v_pick_true rfl rfl) ?_) | (refine xV rfl rfl rfl (v_pick_false rfl rfl) ?_) | (refine xV rfl rfl rfl (v_pick rfl rfl rfl) ?_)
                                                  refine xV rfl rfl rfl (v_move rfl) ?_
                                                  refine rl_split (s := 124) rfl (fun g19_49 => ?_) (fun g19_49 => ?_)
                                                  · try with_reducible exact ft_elim g19_49
                                                    all_goals
                                                      try replace g19_49 := of_decide_eq_true g19_49
                                                      try (exfalso; omega)
                                                      all_goals
                                                        refine rl_vg (met_on rfl rfl rfl rfl) rfl rfl (S := fun _ => True) trivial (v_move rfl) ?_
                                                        refine rl_vg (met_on rfl rfl rfl rfl) rfl rfl (S := fun _ => True) trivial (v_nilCheck rfl) ?_
                                                        first | (refine rl_vg (met_on rfl rfl rfl rfl) rfl rfl (S := fun _ => True) trivial (v_fieldAddr0 T.fld_43_0_0 rfl) ?_) | (refine rl_vg (met_on rfl rfl rfl rfl) rfl rfl (S := fun _ => True) trivial (v_fieldAddr T.fld_43_0_0 rfl) ?_)
                                                        refine rl_vg (met_on rfl rfl rfl rfl) rfl rfl (by first | exact sat_cell hw (by (repeat first | with_reducible exact xH | apply xT); first | done | fail) rfl | exact own_cell hw (by (repeat first | with_reducible exact xH | apply xT); first | done | fail) (by first | rfl | assumption) | exact ro_at0 hw (by (repeat first | with_reducible exact xH | apply xT); first | done | fail) (by assumption) rfl | exact ro_at hw (by (repeat first | with_reducible exact xH | apply xT); first | done | fail) (by assumption) rfl | exact own_at0 hw (by (repeat first | with_reducible exact xH | apply xT); first | done | fail) (by assumption) rfl | exact own_at hw (by (repeat first | with_reducible exact xH | apply xT); first | done | fail) (by assumption) rfl | exact old_cell hw (by (repeat first | with_reducible exact xH | apply xT); first | done | fail) (by assumption) | assumption) (v_load T.scal_36 rfl) ?_
                                                        refine rl_vg (met_on rfl rfl rfl rfl) rfl rfl (S := fun _ => True) trivial (v_nilCheck rfl) ?_
                                                        first | (refine rl_vg (met_on rfl rfl rfl rfl) rfl rfl (S := fun _ => True) trivial (v_fieldAddr0 T.fld_47_0_0 rfl) ?_) | (refine rl_vg (met_on rfl rfl rfl rfl) rfl rfl (S := fun _ => True) trivial (v_fieldAddr T.fld_47_0_0 rfl) ?_)
                                                        refine rl_vg (met_on rfl rfl rfl rfl) rfl rfl (by first | exact sat_cell hw (by (repeat first | with_reducible exact xH | apply xT); first | done | fail) rfl | exact own_cell hw (by (repeat first | with_reducible exact xH | apply xT); first | done | fail) (by first | rfl | assumption) | exact ro_at0 hw (by (repeat first | with_reducible exact xH | apply xT); first | done | fail) (by assumption) rfl | exact ro_at hw (by (repeat first | with_reducible exact xH | apply xT); first | done | fail) (by assumption) rfl | exact own_at0 hw (by (repeat first | with_reducible exact xH | apply xT); first | done | fail) (by assumption) rfl | exact own_at hw (by (repeat first | with_reducible exact xH | apply xT); first | done | fail) (by assumption) rfl | exact old_cell hw (by (repeat first | with_reducible exact xH | apply xT); first | done | fail) (by assumption) | assumption) (v_load T.scal_24 rfl) ?_
                                                        refine rl_vg (met_on rfl rfl rfl rfl) rfl rfl (S := fun _ => True) trivial (v_nilCheck rfl) ?_
                                                        first | (refine rl_vg (met_on rfl rfl rfl rfl) rfl rfl (S := fun _ => True) trivial (v_fieldAddr0 T.fld_52_0_0 rfl) ?_) | (refine rl_vg (met_on rfl rfl rfl rfl) rfl rfl (S := fun _ => True) trivial (v_fieldAddr T.fld_52_0_0 rfl) ?_)
                                                        obtain ⟨_, g9, cap9, pa9, pc9, vs9, _, _, _, hw⟩ := md_open (hw.xP (A := MdAt m p ⟨100, List.replicate (2 : Int).toNat ByteArray.empty, [], 0⟩))
                                                        refine rl_vg (met_on rfl rfl rfl rfl) rfl rfl (by first | exact sat_cell hw (by (repeat first | with_reducible exact xH | apply xT); first | done | fail) rfl | exact own_cell hw (by (repeat first | with_reducible exact xH | apply xT); first | done | fail) (by first | rfl | assumption) | exact ro_at0 hw (by (repeat first | with_reducible exact xH | apply xT); first | done | fail) (by assumption) rfl | exact ro_at hw (by (repeat first | with_reducible exact xH | apply xT); first | done | fail) (by assumption) rfl | exact own_at0 hw (by (repeat first | with_reducible exact xH | apply xT); first | done | fail) (by assumption) rfl | exact own_at hw (by (repeat first | with_reducible exact xH | apply xT); first | done | fail) (by assumption) rfl | exact old_cell hw (by (repeat first | with_reducible exact xH | apply xT); first | done | fail) (by assumption) | assumption) (v_load T.scal_28 rfl) ?_
                                                        refine rl_kg (met_on rfl rfl rfl rfl) (k_callf Try.func18 rfl rfl rfl rfl ?_)
                                                        refine Calls.mono (on_calls p ⟨false, 0, 0⟩ (hw.xP)) ?_
                                                        rintro _ w ⟨rfl, hw⟩
                                                        refine ⟨_, rfl, ?_⟩
                                                        first | (refine xV rfl rfl rfl (v_pick_true rfl rfl) ?_) | (refine xV rfl rfl rfl (v_pick_false rfl rfl) ?_) | (refine xV rfl rfl rfl (v_pick rfl rfl rfl) ?_)
                                                        refine xV rfl rfl rfl (v_assign rfl) ?_
                                                        refine rl_nil (g_le (xK (xS rfl (xS rfl (xS rfl (xS rfl (xS rfl (xS rfl (xS rfl (xS rfl (xS rfl (xS rfl (xS rfl (xS rfl (xS rfl (xS rfl (xS rfl (xS rfl (xS rfl (xS rfl (xS rfl (xS rfl (xS rfl (xS rfl (xS rfl (xS rfl (xS rfl (xS rfl (xS rfl (xS rfl (xS rfl (xS rfl (xS rfl (xS rfl (xS rfl (xS rfl (xS rfl (xS rfl (xS rfl (xS rfl (xS rfl (xS rfl (xS rfl (xS rfl (xS rfl (xS rfl (xS rfl (xS rfl (xS rfl (xS rfl (xS rfl (xS rfl (xS rfl (xS rfl (xS rfl (xS rfl (xS rfl (xS rfl (xS rfl (xS rfl (xS rfl (xS rfl (xS rfl (xS rfl (xS rfl (xS rfl (xS rfl (xS rfl (xS rfl (xS rfl (xS rfl (Fr.le_refl _))))))))))))))))))))))))))))))))))))))))))))))))))))))))))))))))))))))) ?_)
                                                        refine g_ret1 Try.func3 rfl rfl ?_
                                                        refine ⟨?_, hw.xQ⟩
                                                        first | rfl | simp
                                                  · try with_reducible exact tf_elim g19_49
                                                    all_goals
                                                      try replace g19_49 := of_decide_eq_false g19_49
                                                      simp at g19_49
                                            · try with_reducible exact tf_elim g19_41
                                              all_goals
                                                try replace g19_41 := of_decide_eq_false g19_41
                                                simp at g19_41
                                      · try with_reducible exact tf_elim g19_30
                                        all_goals
                                          try replace g19_30 := of_decide_eq_false g19_30
                                          simp at g19_30
                                · try with_reducible exact tf_elim g19_22
                                  all_goals
                                    try replace g19_22 := of_decide_eq_false g19_22
                                    simp at g19_22
                          · try with_reducible exact tf_elim g19_14
                            all_goals
                              try replace g19_14 := of_decide_eq_false g19_14
                              simp at g19_14
                    · try with_reducible exact tf_elim g19_6
                      all_goals
                        try replace g19_6 := of_decide_eq_false g19_6
                        simp at g19_6
              · try with_reducible exact tf_elim g19_2
                all_goals
                  try replace g19_2 := of_decide_eq_false g19_2
                  simp at g19_2
  · try with_reducible exact tf_elim g4_2
    all_goals
      try replace g4_2 := of_decide_eq_false g4_2
      try (exfalso; omega)
      all_goals
        refine rl_vg (met_on rfl rfl rfl rfl) rfl rfl (S := fun _ => True) trivial (v_move rfl) ?_
        refine rl_vg (met_on rfl rfl rfl rfl) rfl rfl (S := fun _ => True) trivial (v_neqF rfl rfl (by omega)) ?_
        refine xV rfl rfl rfl (v_pick_false rfl rfl) ?_
        refine xV rfl rfl rfl (v_move rfl) ?_
        refine rl_split (s := 33) rfl (fun g4_6 => ?_) (fun g4_6 => ?_)
        · try with_reducible exact ft_elim g4_6
          all_goals
            try replace g4_6 := of_decide_eq_true g4_6
            try (exfalso; omega)
            all_goals
              refine rl_off (met_off rfl rfl rfl rfl rfl) rfl rfl ?_
              refine rl_off (met_off rfl rfl rfl rfl rfl) rfl rfl ?_
              first | (refine xV rfl rfl rfl (v_pick_true rfl rfl) ?_) | (refine xV rfl rfl rfl (v_pick_false rfl rfl) ?_) | (refine xV rfl rfl rfl (v_pick rfl rfl rfl) ?_)
              refine rl_nil (g_le (xK (xS rfl (xS rfl (xS rfl (xS rfl (xS rfl (xS rfl (xS rfl (xS rfl (xS rfl (xS rfl (xS rfl (Fr.le_refl _))))))))))))) ?_)
              refine g_cond_false rfl ?_
              refine g_skip (g_seq ?_)
              refine g_region ?_
              refine xV rfl rfl rfl (v_move rfl) ?_
              refine rl_k rfl (k_callf Try.func13 rfl rfl rfl rfl ?_)
              refine Calls.mono (snew_calls m p _ (hw.xP (A := MdAt m p ⟨100, List.replicate (2 : Int).toNat ByteArray.empty, [], 0⟩))) ?_
              rintro _ w ⟨l, lsv, rfl, hw⟩
              refine ⟨_, rfl, ?_⟩
              refine xV rfl rfl rfl (v_assign rfl) ?_
              refine rl_nil (g_le (xK (xS rfl (xS rfl (Fr.le_refl _)))) ?_)
              refine g_seq (g_seq ?_)
              refine g_region ?_
              refine xV rfl rfl rfl (v_move rfl) ?_
              refine rl_nil (g_le (xK (Fr.le_refl _)) ?_)
              refine g_block (g_seq ?_)
              refine g_region ?_
              first | (refine xV rfl rfl rfl (v_eqlT rfl rfl (by first | omega | rfl)) ?_) | (refine xV rfl rfl rfl (v_eqlF rfl rfl (by omega)) ?_) | (refine xV rfl rfl rfl (v_eql rfl rfl) ?_)
              refine xV rfl rfl rfl (v_assign rfl) ?_
              refine rl_nil (g_le (xK (xS rfl (Fr.le_refl _))) ?_)
              refine g_cond_false rfl ?_
              refine g_seq ?_
              refine g_region ?_
              first | (refine xV rfl rfl rfl (v_eqlT rfl rfl (by first | omega | rfl)) ?_) | (refine xV rfl rfl rfl (v_eqlF rfl rfl (by omega)) ?_) | (refine xV rfl rfl rfl (v_eql rfl rfl) ?_)
              refine xV rfl rfl rfl (v_assign rfl) ?_
              refine rl_nil (g_le (xK (xS rfl (Fr.le_refl _))) ?_)
              refine g_cond_false rfl ?_
              refine g_seq ?_
              refine g_region ?_
              first | (refine xV rfl rfl rfl (v_eqlT rfl rfl (by first | omega | rfl)) ?_) | (refine xV rfl rfl rfl (v_eqlF rfl rfl (by omega)) ?_) | (refine xV rfl rfl rfl (v_eql rfl rfl) ?_)
              refine xV rfl rfl rfl (v_assign rfl) ?_
              refine rl_nil (g_le (xK (xS rfl (Fr.le_refl _))) ?_)
              refine g_cond_false rfl ?_
              refine g_skip (g_inBlock (g_seq ?_))
              refine g_region ?_
              refine rl_v rfl rfl rfl (by first | exact sat_cells hw (by (repeat first | with_reducible exact xH | apply xT); first | done | fail) ⟨rfl, rfl, rfl, rfl, rfl, rfl, rfl, trivial⟩ | exact ro_ats hw (by (repeat first | with_reducible exact xH | apply xT); first | done | fail) (by assumption) | exact own_cells hw (by (repeat first | with_reducible exact xH | apply xT); first | done | fail) (by assumption) | exact old_cells hw (by (repeat first | with_reducible exact xH | apply xT); first | done | fail) (by assumption)) (v_loadAgg (vs := [_, _, _, _, _, _, _]) T.agg_23_7 rfl rfl) ?_
              refine xV rfl rfl rfl (v_move rfl) ?_
              refine xV rfl rfl rfl (v_move rfl) ?_
              refine xV rfl rfl rfl (v_move rfl) ?_
              refine rl_k rfl (k_callf Try.func14 rfl rfl rfl rfl ?_)
              refine Calls.mono (pnew_calls q hq _ _ _ hw) ?_
              rintro _ w ⟨pp, rfl, hw⟩
              refine ⟨_, rfl, ?_⟩
              refine xV rfl rfl rfl (v_move rfl) ?_
              refine xV rfl rfl rfl (v_extract rfl rfl) ?_
              refine xV rfl rfl rfl (v_extract rfl rfl) ?_
              refine xV rfl rfl rfl (v_assign rfl) ?_
              refine xV rfl rfl rfl (v_assign rfl) ?_
              refine rl_nil (g_le (xK (xK (xS rfl (xS rfl (xS rfl (xS rfl (xS rfl (xS rfl (xS rfl (xS rfl (Fr.le_refl _))))))))))) ?_)
              refine g_seq (g_seq ?_)
              refine g_region ?_
              refine rl_v rfl rfl rfl (by first | exact sat_cells hw (by (repeat first | with_reducible exact xH | apply xT); first | done | fail) ⟨rfl, rfl, rfl, rfl, rfl, rfl, rfl, trivial⟩ | exact ro_ats hw (by (repeat first | with_reducible exact xH | apply xT); first | done | fail) (by assumption) | exact own_cells hw (by (repeat first | with_reducible exact xH | apply xT); first | done | fail) (by assumption) | exact old_cells hw (by (repeat first | with_reducible exact xH | apply xT); first | done | fail) (by assumption)) (v_loadAgg (vs := [_, _, _, _, _, _, _]) T.agg_23_7 rfl rfl) ?_
              refine rl_k rfl (k_callf Try.func15 rfl rfl rfl rfl ?_)
              refine Calls.mono (rright_calls q (hw.xQ)) ?_
              rw [decide_eq_true hq]
              rintro _ w ⟨rfl, hw⟩
              refine ⟨_, rfl, ?_⟩
              refine xV rfl rfl rfl (v_not rfl) ?_
              refine rl_nil (g_le (xK (xS rfl (xS rfl (Fr.le_refl _)))) ?_)
              refine g_cond_false rfl ?_
              refine g_skip (g_seq (g_seq ?_))
              refine g_region ?_
              refine xV rfl rfl rfl (v_move rfl) ?_
              first | (refine xV rfl rfl rfl (v_geqT rfl rfl (by omega)) ?_) | (refine xV rfl rfl rfl (v_geqF rfl rfl (by omega)) ?_) | (refine xV rfl rfl rfl (v_geq rfl rfl) ?_)
              refine xV rfl rfl rfl (v_move rfl) ?_
              refine rl_split (s := 65) rfl (fun g17_2 => ?_) (fun g17_2 => ?_)
              · try with_reducible exact ft_elim g17_2
                all_goals
                  try replace g17_2 := of_decide_eq_true g17_2
                  try (exfalso; omega)
                  all_goals
                    refine rl_vg (met_on rfl rfl rfl rfl) rfl rfl (S := fun _ => True) trivial (v_move rfl) ?_
                    first | (refine rl_vg (met_on rfl rfl rfl rfl) rfl rfl (S := fun _ => True) trivial (v_leqT rfl rfl (by omega)) ?_) | (refine rl_vg (met_on rfl rfl rfl rfl) rfl rfl (S := fun _ => True) trivial (v_leqF rfl rfl (by omega)) ?_) | (refine rl_vg (met_on rfl rfl rfl rfl) rfl rfl (S := fun _ => True) trivial (v_leq rfl rfl) ?_)
                    first | (refine xV rfl rfl rfl (v_pick_true rfl rfl) ?_) | (refine xV rfl rfl rfl (v_pick_false rfl rfl) ?_) | (refine xV rfl rfl rfl (v_pick rfl rfl rfl) ?_)
                    refine rl_nil (g_le (xK (xS rfl (xS rfl (xS rfl (xS rfl (xS rfl (xS rfl (Fr.le_refl _)))))))) ?_)
                    refine g_cond_false rfl ?_
                    refine g_skip (g_seq ?_)
                    refine g_region ?_
                    refine xV rfl rfl rfl (v_move rfl) ?_
                    refine xV rfl rfl rfl (v_neqNil T.ptr_38 rfl rfl) ?_
                    refine xV rfl rfl rfl (v_move rfl) ?_
                    refine rl_split (s := 77) rfl (fun g19_2 => ?_) (fun g19_2 => ?_)
                    · try with_reducible exact ft_elim g19_2
                      all_goals
                        try replace g19_2 := of_decide_eq_true g19_2
                        try (exfalso; omega)
                        all_goals
                          refine rl_vg (met_on rfl rfl rfl rfl) rfl rfl (S := fun _ => True) trivial (v_move rfl) ?_
                          first | (refine rl_vg (met_on rfl rfl rfl rfl) rfl rfl (S := fun _ => True) trivial (v_eqlT rfl rfl (by first | omega | rfl)) ?_) | (refine rl_vg (met_on rfl rfl rfl rfl) rfl rfl (S := fun _ => True) trivial (v_eqlF rfl rfl (by omega)) ?_) | (refine rl_vg (met_on rfl rfl rfl rfl) rfl rfl (S := fun _ => True) trivial (v_eql rfl rfl) ?_)
                          first | (refine xV rfl rfl rfl (v_pick_true rfl rfl) ?_) | (refine xV rfl rfl rfl (v_pick_false rfl rfl) ?_) | (refine xV rfl rfl rfl (v_pick rfl rfl rfl) ?_)
                          refine xV rfl rfl rfl (v_move rfl) ?_
                          refine rl_split (s := 81) rfl (fun g19_6 => ?_) (fun g19_6 => ?_)
                          · try with_reducible exact ft_elim g19_6
                            all_goals
                              try replace g19_6 := of_decide_eq_true g19_6
                              try (exfalso; omega)
                              all_goals
                                refine rl_vg (met_on rfl rfl rfl rfl) rfl rfl (S := fun _ => True) trivial (v_move rfl) ?_
                                refine rl_vg (met_on rfl rfl rfl rfl) rfl rfl (S := fun _ => True) trivial (v_nilCheck rfl) ?_
                                first | (refine rl_vg (met_on rfl rfl rfl rfl) rfl rfl (S := fun _ => True) trivial (v_fieldAddr0 T.fld_43_0_0 rfl) ?_) | (refine rl_vg (met_on rfl rfl rfl rfl) rfl rfl (S := fun _ => True) trivial (v_fieldAddr T.fld_43_0_0 rfl) ?_)
                                refine rl_vg (met_on rfl rfl rfl rfl) rfl rfl (by first | exact sat_cell hw (by (repeat first | with_reducible exact xH | apply xT); first | done | fail) rfl | exact own_cell hw (by (repeat first | with_reducible exact xH | apply xT); first | done | fail) (by first | rfl | assumption) | exact ro_at0 hw (by (repeat first | with_reducible exact xH | apply xT); first | done | fail) (by assumption) rfl | exact ro_at hw (by (repeat first | with_reducible exact xH | apply xT); first | done | fail) (by assumption) rfl | exact own_at0 hw (by (repeat first | with_reducible exact xH | apply xT); first | done | fail) (by assumption) rfl | exact own_at hw (by (repeat first | with_reducible exact xH | apply xT); first | done | fail) (by assumption) rfl | exact old_cell hw (by (repeat first | with_reducible exact xH | apply xT); first | done | fail) (by assumption) | assumption) (v_load T.scal_36 rfl) ?_
                                refine rl_vg (met_on rfl rfl rfl rfl) rfl rfl (S := fun _ => True) trivial (v_move rfl) ?_
                                refine rl_vg (met_on rfl rfl rfl rfl) rfl rfl (S := fun _ => True) trivial (v_eqlSame T.ptr_36 i36 rfl rfl) ?_
                                first | (refine xV rfl rfl rfl (v_pick_true rfl rfl) ?_) | (refine xV rfl rfl rfl (v_pick_false rfl rfl) ?_) | (refine xV rfl rfl rfl (v_pick rfl rfl rfl) ?_)
                                refine xV rfl rfl rfl (v_move rfl) ?_
                                refine rl_split (s := 89) rfl (fun g19_14 => ?_) (fun g19_14 => ?_)
                                · try with_reducible exact ft_elim g19_14
                                  all_goals
                                    try replace g19_14 := of_decide_eq_true g19_14
                                    try (exfalso; omega)
                                    all_goals
                                      refine rl_vg (met_on rfl rfl rfl rfl) rfl rfl (S := fun _ => True) trivial (v_move rfl) ?_
                                      refine rl_vg (met_on rfl rfl rfl rfl) rfl rfl (S := fun _ => True) trivial (v_nilCheck rfl) ?_
                                      first | (refine rl_vg (met_on rfl rfl rfl rfl) rfl rfl (S := fun _ => True) trivial (v_fieldAddr0 T.fld_43_1_1 rfl) ?_) | (refine rl_vg (met_on rfl rfl rfl rfl) rfl rfl (S := fun _ => True) trivial (v_fieldAddr T.fld_43_1_1 rfl) ?_)
                                      refine rl_vg (met_on rfl rfl rfl rfl) rfl rfl (by first | exact sat_cell hw (by (repeat first | with_reducible exact xH | apply xT); first | done | fail) rfl | exact own_cell hw (by (repeat first | with_reducible exact xH | apply xT); first | done | fail) (by first | rfl | assumption) | exact ro_at0 hw (by (repeat first | with_reducible exact xH | apply xT); first | done | fail) (by assumption) rfl | exact ro_at hw (by (repeat first | with_reducible exact xH | apply xT); first | done | fail) (by assumption) rfl | exact own_at0 hw (by (repeat first | with_reducible exact xH | apply xT); first | done | fail) (by assumption) rfl | exact own_at hw (by (repeat first | with_reducible exact xH | apply xT); first | done | fail) (by assumption) rfl | exact old_cell hw (by (repeat first | with_reducible exact xH | apply xT); first | done | fail) (by assumption) | assumption) (v_load T.scal_30 rfl) ?_
                                      refine rl_vg (met_on rfl rfl rfl rfl) rfl rfl (S := fun _ => True) trivial (v_move rfl) ?_
                                      refine rl_vg (met_on rfl rfl rfl rfl) rfl rfl (S := fun _ => True) trivial (v_eqlSame T.ptr_30 i30 rfl rfl) ?_
                                      first | (refine xV rfl rfl rfl (v_pick_true rfl rfl) ?_) | (refine xV rfl rfl rfl (v_pick_false rfl rfl) ?_) | (refine xV rfl rfl rfl (v_pick rfl rfl rfl) ?_)
                                      refine xV rfl rfl rfl (v_move rfl) ?_
                                      refine rl_split (s := 97) rfl (fun g19_22 => ?_) (fun g19_22 => ?_)
                                      · try with_reducible exact ft_elim g19_22
                                        all_goals
                                          try replace g19_22 := of_decide_eq_true g19_22
                                          try (exfalso; omega)
                                          all_goals
                                            refine rl_vg (met_on rfl rfl rfl rfl) rfl rfl (S := fun _ => True) trivial (v_move rfl) ?_
                                            refine rl_vg (met_on rfl rfl rfl rfl) rfl rfl (S := fun _ => True) trivial (v_nilCheck rfl) ?_
                                            first | (refine rl_vg (met_on rfl rfl rfl rfl) rfl rfl (S := fun _ => True) trivial (v_fieldAddr0 T.fld_43_2_2 rfl) ?_) | (refine rl_vg (met_on rfl rfl rfl rfl) rfl rfl (S := fun _ => True) trivial (v_fieldAddr T.fld_43_2_2 rfl) ?_)
                                            refine rl_vg (met_on rfl rfl rfl rfl) rfl rfl (by first | exact sat_cell hw (by (repeat first | with_reducible exact xH | apply xT); first | done | fail) rfl | exact own_cell hw (by (repeat first | with_reducible exact xH | apply xT); first | done | fail) (by first | rfl | assumption) | exact ro_at0 hw (by (repeat first | with_reducible exact xH | apply xT); first | done | fail) (by assumption) rfl | exact ro_at hw (by (repeat first | with_reducible exact xH | apply xT); first | done | fail) (by assumption) rfl | exact own_at0 hw (by (repeat first | with_reducible exact xH | apply xT); first | done | fail) (by assumption) rfl | exact own_at hw (by (repeat first | with_reducible exact xH | apply xT); first | done | fail) (by assumption) rfl | exact old_cell hw (by (repeat first | with_reducible exact xH | apply xT); first | done | fail) (by assumption) | assumption) (v_load T.scal_33 rfl) ?_
                                            refine rl_vg (met_on rfl rfl rfl rfl) rfl rfl (S := fun _ => True) trivial (v_move rfl) ?_
                                            refine rl_vg (met_on rfl rfl rfl rfl) rfl rfl (S := fun _ => True) trivial (v_eqlSame T.ptr_33 i33 rfl rfl) ?_
                                            first | (refine xV rfl rfl rfl (v_pick_true rfl rfl) ?_) | (refine xV rfl rfl rfl (v_pick_false rfl rfl) ?_) | (refine xV rfl rfl rfl (v_pick rfl rfl rfl) ?_)
                                            refine xV rfl rfl rfl (v_move rfl) ?_
                                            refine rl_split (s := 105) rfl (fun g19_30 => ?_) (fun g19_30 => ?_)
                                            · try with_reducible exact ft_elim g19_30
                                              all_goals
                                                try replace g19_30 := of_decide_eq_true g19_30
                                                try (exfalso; omega)
                                                all_goals
                                                  refine rl_vg (met_on rfl rfl rfl rfl) rfl rfl (S := fun _ => True) trivial (v_move rfl) ?_
                                                  refine rl_vg (met_on rfl rfl rfl rfl) rfl rfl (S := fun _ => True) trivial (v_nilCheck rfl) ?_
                                                  first | (refine rl_vg (met_on rfl rfl rfl rfl) rfl rfl (S := fun _ => True) trivial (v_fieldAddr0 T.fld_43_0_0 rfl) ?_) | (refine rl_vg (met_on rfl rfl rfl rfl) rfl rfl (S := fun _ => True) trivial (v_fieldAddr T.fld_43_0_0 rfl) ?_)
                                                  refine rl_vg (met_on rfl rfl rfl rfl) rfl rfl (by first | exact sat_cell hw (by (repeat first | with_reducible exact xH | apply xT); first | done | fail) rfl | exact own_cell hw (by (repeat first | with_reducible exact xH | apply xT); first | done | fail) (by first | rfl | assumption) | exact ro_at0 hw (by (repeat first | with_reducible exact xH | apply xT); first | done | fail) (by assumption) rfl | exact ro_at hw (by (repeat first | with_reducible exact xH | apply xT); first | done | fail) (by assumption) rfl | exact own_at0 hw (by (repeat first | with_reducible exact xH | apply xT); first | done | fail) (by assumption) rfl | exact own_at hw (by (repeat first | with_reducible exact xH | apply xT); first | done | fail) (by assumption) rfl | exact old_cell hw (by (repeat first | with_reducible exact xH | apply xT); first | done | fail) (by assumption) | assumption) (v_load T.scal_36 rfl) ?_
                                                  refine rl_vg (met_on rfl rfl rfl rfl) rfl rfl (S := fun _ => True) trivial (v_nilCheck rfl) ?_
                                                  first | (refine rl_vg (met_on rfl rfl rfl rfl) rfl rfl (S := fun _ => True) trivial (v_fieldAddr0 T.fld_47_0_0 rfl) ?_) | (refine rl_vg (met_on rfl rfl rfl rfl) rfl rfl (S := fun _ => True) trivial (v_fieldAddr T.fld_47_0_0 rfl) ?_)
                                                  refine rl_vg (met_on rfl rfl rfl rfl) rfl rfl (by first | exact sat_cell hw (by (repeat first | with_reducible exact xH | apply xT); first | done | fail) rfl | exact own_cell hw (by (repeat first | with_reducible exact xH | apply xT); first | done | fail) (by first | rfl | assumption) | exact ro_at0 hw (by (repeat first | with_reducible exact xH | apply xT); first | done | fail) (by assumption) rfl | exact ro_at hw (by (repeat first | with_reducible exact xH | apply xT); first | done | fail) (by assumption) rfl | exact own_at0 hw (by (repeat first | with_reducible exact xH | apply xT); first | done | fail) (by assumption) rfl | exact own_at hw (by (repeat first | with_reducible exact xH | apply xT); first | done | fail) (by assumption) rfl | exact old_cell hw (by (repeat first | with_reducible exact xH | apply xT); first | done | fail) (by assumption) | assumption) (v_load T.scal_24 rfl) ?_
                                                  refine rl_kg (met_on rfl rfl rfl rfl) (k_callf Try.func16 rfl rfl rfl rfl ?_)
                                                  refine Calls.mono (msegments_calls m p ⟨100, List.replicate (2 : Int).toNat ByteArray.empty, [], 0⟩ (hw.xP)) ?_
                                                  rintro _ w ⟨rfl, hw⟩
                                                  refine ⟨_, rfl, ?_⟩
                                                  first | (refine rl_vg (met_on rfl rfl rfl rfl) rfl rfl (S := fun _ => True) trivial (v_eqlT rfl rfl (by first | omega | rfl)) ?_) | (refine rl_vg (met_on rfl rfl rfl rfl) rfl rfl (S := fun _ => True) trivial (v_eqlF rfl rfl (by omega)) ?_) | (refine rl_vg (met_on rfl rfl rfl rfl) rfl rfl (S := fun _ => True) trivial (v_eql rfl rfl) ?_)
                                                  first | (refine xV rfl rfl rfl (v_pick_true rfl rfl) ?_) | (refine xV rfl rfl rfl (v_pick_false rfl rfl) ?_) | (refine xV rfl rfl rfl (v_pick rfl rfl rfl) ?_)
                                                  refine xV rfl rfl rfl (v_move rfl) ?_
                                                  refine rl_split (s := 116) rfl (fun g19_41 => ?_) (fun g19_41 => ?_)
                                                  · try with_reducible exact ft_elim g19_41
                                                    all_goals
                                                      try replace g19_41 := of_decide_eq_true g19_41
                                                      try (exfalso; omega)
                                                      all_goals
                                                        refine rl_vg (met_on rfl rfl rfl rfl) rfl rfl (S := fun _ => True) trivial (v_move rfl) ?_
                                                        refine rl_vg (met_on rfl rfl rfl rfl) rfl rfl (S := fun _ => True) trivial (v_nilCheck rfl) ?_
                                                        first | (refine rl_vg (met_on rfl rfl rfl rfl) rfl rfl (S := fun _ => True) trivial (v_fieldAddr0 T.fld_43_2_2 rfl) ?_) | (refine rl_vg (met_on rfl rfl rfl rfl) rfl rfl (S := fun _ => True) trivial (v_fieldAddr T.fld_43_2_2 rfl) ?_)
                                                        refine rl_vg (met_on rfl rfl rfl rfl) rfl rfl (by first | exact sat_cell hw (by (repeat first | with_reducible exact xH | apply xT); first | done | fail) rfl | exact own_cell hw (by (repeat first | with_reducible exact xH | apply xT); first | done | fail) (by first | rfl | assumption) | exact ro_at0 hw (by (repeat first | with_reducible exact xH | apply xT); first | done | fail) (by assumption) rfl | exact ro_at hw (by (repeat first | with_reducible exact xH | apply xT); first | done | fail) (by assumption) rfl | exact own_at0 hw (by (repeat first | with_reducible exact xH | apply xT); first | done | fail) (by assumption) rfl | exact own_at hw (by (repeat first | with_reducible exact xH | apply xT); first | done | fail) (by assumption) rfl | exact old_cell hw (by (repeat first | with_reducible exact xH | apply xT); first | done | fail) (by assumption) | assumption) (v_load T.scal_33 rfl) ?_
                                                        refine rl_kg (met_on rfl rfl rfl rfl) (k_callf Try.func17 rfl rfl rfl rfl ?_)
                                                        refine Calls.mono (taken_calls d _ _ (hw.xP)) ?_
                                                        rintro _ w ⟨rfl, hw⟩
                                                        refine ⟨_, rfl, ?_⟩
                                                        first | (refine rl_vg (met_on rfl rfl rfl rfl) rfl rfl (S := fun _ => True) trivial (v_eqlT rfl rfl (by first | omega | rfl)) ?_) | (refine rl_vg (met_on rfl rfl rfl rfl) rfl rfl (S := fun _ => True) trivial (v_eqlF rfl rfl (by omega)) ?_) | (refine rl_vg (met_on rfl rfl rfl rfl) rfl rfl (S := fun _ => True) trivial (v_eql rfl rfl) ?_)
                                                        first | (refine xV rfl rfl rfl (v_pick_true rfl rfl) ?_) | (refine xV rfl rfl rfl (v_pick_false rfl rfl) ?_) | (refine xV rfl rfl rfl (v_pick rfl rfl rfl) ?_)
                                                        refine xV rfl rfl rfl (v_move rfl) ?_
                                                        refine rl_split (s := 124) rfl (fun g19_49 => ?_) (fun g19_49 => ?_)
                                                        · try with_reducible exact ft_elim g19_49
                                                          all_goals
                                                            try replace g19_49 := of_decide_eq_true g19_49
                                                            try (exfalso; omega)
                                                            all_goals
                                                              refine rl_vg (met_on rfl rfl rfl rfl) rfl rfl (S := fun _ => True) trivial (v_move rfl) ?_
                                                              refine rl_vg (met_on rfl rfl rfl rfl) rfl rfl (S := fun _ => True) trivial (v_nilCheck rfl) ?_
                                                              first | (refine rl_vg (met_on rfl rfl rfl rfl) rfl rfl (S := fun _ => True) trivial (v_fieldAddr0 T.fld_43_0_0 rfl) ?_) | (refine rl_vg (met_on rfl rfl rfl rfl) rfl rfl (S := fun _ => True) trivial (v_fieldAddr T.fld_43_0_0 rfl) ?_)
                                                              refine rl_vg (met_on rfl rfl rfl rfl) rfl rfl (by first | exact sat_cell hw (by (repeat first | with_reducible exact xH | apply xT); first | done | fail) rfl | exact own_cell hw (by (repeat first | with_reducible exact xH | apply xT); first | done | fail) (by first | rfl | assumption) | exact ro_at0 hw (by (repeat first | with_reducible exact xH | apply xT); first | done | fail) (by assumption) rfl | exact ro_at hw (by (repeat first | with_reducible exact xH | apply xT); first | done | fail) (by assumption) rfl | exact own_at0 hw (by (repeat first | with_reducible exact xH | apply xT); first | done | fail) (by assumption) rfl | exact own_at hw (by (repeat first | with_reducible exact xH | apply xT); first | done | fail) (by assumption) rfl | exact old_cell hw (by (repeat first | with_reducible exact xH | apply xT); first | done | fail) (by assumption) | assumption) (v_load T.scal_36 rfl) ?_
                                                              refine rl_vg (met_on rfl rfl rfl rfl) rfl rfl (S := fun _ => True) trivial (v_nilCheck rfl) ?_
                                                              first | (refine rl_vg (met_on rfl rfl rfl rfl) rfl rfl (S := fun _ => True) trivial (v_fieldAddr0 T.fld_47_0_0 rfl) ?_) | (refine rl_vg (met_on rfl rfl rfl rfl) rfl rfl (S := fun _ => True) trivial (v_fieldAddr T.fld_47_0_0 rfl) ?_)
                                                              refine rl_vg (met_on rfl rfl rfl rfl) rfl rfl (by first | exact sat_cell hw (by (repeat first | with_reducible exact xH | apply xT); first | done | fail) rfl | exact own_cell hw (by (repeat first | with_reducible exact xH | apply xT); first | done | fail) (by first | rfl | assumption) | exact ro_at0 hw (by (repeat first | with_reducible exact xH | apply xT); first | done | fail) (by assumption) rfl | exact ro_at hw (by (repeat first | with_reducible exact xH | apply xT); first | done | fail) (by assumption) rfl | exact own_at0 hw (by (repeat first | with_reducible exact xH | apply xT); first | done | fail) (by assumption) rfl | exact own_at hw (by (repeat first | with_reducible exact xH | apply xT); first | done | fail) (by assumption) rfl | exact old_cell hw (by (repeat first | with_reducible exact xH | apply xT); first | done | fail) (by assumption) | assumption) (v_load T.scal_24 rfl) ?_
                                                              refine rl_vg (met_on rfl rfl rfl rfl) rfl rfl (S := fun _ => True) trivial (v_nilCheck rfl) ?_
                                                              first | (refine rl_vg (met_on rfl rfl rfl rfl) rfl rfl (S := fun _ => True) trivial (v_fieldAddr0 T.fld_52_0_0 rfl) ?_) | (refine rl_vg (met_on rfl rfl rfl rfl) rfl rfl (S := fun _ => True) trivial (v_fieldAddr T.fld_52_0_0 rfl) ?_)
                                                              obtain ⟨_, g9, cap9, pa9, pc9, vs9, _, _, _, hw⟩ := md_open (hw.xP (A := MdAt m p ⟨100, List.replicate (2 : Int).toNat ByteArray.empty, [], 0⟩))
                                                              refine rl_vg (met_on rfl rfl rfl rfl) rfl rfl (by first | exact sat_cell hw (by (repeat first | with_reducible exact xH | apply xT); first | done | fail) rfl | exact own_cell hw (by (repeat first | with_reducible exact xH | apply xT); first | done | fail) (by first | rfl | assumption) | exact ro_at0 hw (by (repeat first | with_reducible exact xH | apply xT); first | done | fail) (by assumption) rfl | exact ro_at hw (by (repeat first | with_reducible exact xH | apply xT); first | done | fail) (by assumption) rfl | exact own_at0 hw (by (repeat first | with_reducible exact xH | apply xT); first | done | fail) (by assumption) rfl | exact own_at hw (by (repeat first | with_reducible exact xH | apply xT); first | done | fail) (by assumption) rfl | exact old_cell hw (by (repeat first | with_reducible exact xH | apply xT); first | done | fail) (by assumption) | assumption) (v_load T.scal_28 rfl) ?_
                                                              refine rl_kg (met_on rfl rfl rfl rfl) (k_callf Try.func18 rfl rfl rfl rfl ?_)
                                                              refine Calls.mono (on_calls p ⟨false, 0, 0⟩ (hw.xP)) ?_
                                                              rintro _ w ⟨rfl, hw⟩
                                                              refine ⟨_, rfl, ?_⟩
                                                              first | (refine xV rfl rfl rfl (v_pick_true rfl rfl) ?_) | (refine xV rfl rfl rfl (v_pick_false rfl rfl) ?_) | (refine xV rfl rfl rfl (v_pick rfl rfl rfl) ?_)
                                                              refine xV rfl rfl rfl (v_assign rfl) ?_
                                                              refine rl_nil (g_le (xK (xS rfl (xS rfl (xS rfl (xS rfl (xS rfl (xS rfl (xS rfl (xS rfl (xS rfl (xS rfl (xS rfl (xS rfl (xS rfl (xS rfl (xS rfl (xS rfl (xS rfl (xS rfl (xS rfl (xS rfl (xS rfl (xS rfl (xS rfl (xS rfl (xS rfl (xS rfl (xS rfl (xS rfl (xS rfl (xS rfl (xS rfl (xS rfl (xS rfl (xS rfl (xS rfl (xS rfl (xS rfl (xS rfl (xS rfl (xS rfl (xS rfl (xS rfl (xS rfl (xS rfl (xS rfl (xS rfl (xS rfl (xS rfl (xS rfl (xS rfl (xS rfl (xS rfl (xS rfl (xS rfl (xS rfl (xS rfl (xS rfl (xS rfl (xS rfl (xS rfl (xS rfl (xS rfl (xS rfl (xS rfl (xS rfl (xS rfl (xS rfl (xS rfl (xS rfl (Fr.le_refl _))))))))))))))))))))))))))))))))))))))))))))))))))))))))))))))))))))))) ?_)
                                                              refine g_ret1 Try.func3 rfl rfl ?_
                                                              refine ⟨?_, hw.xQ⟩
                                                              first | rfl | simp
                                                        · try with_reducible exact tf_elim g19_49
                                                          all_goals
                                                            try replace g19_49 := of_decide_eq_false g19_49
                                                            simp at g19_49
                                                  · try with_reducible exact tf_elim g19_41
                                                    all_goals
                                                      try replace g19_41 := of_decide_eq_false g19_41
                                                      simp at g19_41
                                            · try with_reducible exact tf_elim g19_30
                                              all_goals
                                                try replace g19_30 := of_decide_eq_false g19_30
                                                simp at g19_30
                                      · try with_reducible exact tf_elim g19_22
                                        all_goals
                                          try replace g19_22 := of_decide_eq_false g19_22
                                          simp at g19_22
                                · try with_reducible exact tf_elim g19_14
                                  all_goals
                                    try replace g19_14 := of_decide_eq_false g19_14
                                    simp at g19_14
                          · try with_reducible exact tf_elim g19_6
                            all_goals
                              try replace g19_6 := of_decide_eq_false g19_6
                              simp at g19_6
                    · try with_reducible exact tf_elim g19_2
                      all_goals
                        try replace g19_2 := of_decide_eq_false g19_2
                        simp at g19_2
              · try with_reducible exact tf_elim g17_2
                all_goals
                  try replace g17_2 := of_decide_eq_false g17_2
                  try (exfalso; omega)
                  all_goals
                    refine rl_off (met_off rfl rfl rfl rfl rfl) rfl rfl ?_
                    refine rl_off (met_off rfl rfl rfl rfl rfl) rfl rfl ?_
                    first | (refine xV rfl rfl rfl (v_pick_true rfl rfl) ?_) | (refine xV rfl rfl rfl (v_pick_false rfl rfl) ?_) | (refine xV rfl rfl rfl (v_pick rfl rfl rfl) ?_)
                    refine rl_nil (g_le (xK (xS rfl (xS rfl (xS rfl (xS rfl (xS rfl (xS rfl (Fr.le_refl _)))))))) ?_)
                    refine g_cond_false rfl ?_
                    refine g_skip (g_seq ?_)
                    refine g_region ?_
                    refine xV rfl rfl rfl (v_move rfl) ?_
                    refine xV rfl rfl rfl (v_neqNil T.ptr_38 rfl rfl) ?_
                    refine xV rfl rfl rfl (v_move rfl) ?_
                    refine rl_split (s := 77) rfl (fun g19_2 => ?_) (fun g19_2 => ?_)
                    · try with_reducible exact ft_elim g19_2
                      all_goals
                        try replace g19_2 := of_decide_eq_true g19_2
                        try (exfalso; omega)
                        all_goals
                          refine rl_vg (met_on rfl rfl rfl rfl) rfl rfl (S := fun _ => True) trivial (v_move rfl) ?_
                          first | (refine rl_vg (met_on rfl rfl rfl rfl) rfl rfl (S := fun _ => True) trivial (v_eqlT rfl rfl (by first | omega | rfl)) ?_) | (refine rl_vg (met_on rfl rfl rfl rfl) rfl rfl (S := fun _ => True) trivial (v_eqlF rfl rfl (by omega)) ?_) | (refine rl_vg (met_on rfl rfl rfl rfl) rfl rfl (S := fun _ => True) trivial (v_eql rfl rfl) ?_)
                          first | (refine xV rfl rfl rfl (v_pick_true rfl rfl) ?_) | (refine xV rfl rfl rfl (v_pick_false rfl rfl) ?_) | (refine xV rfl rfl rfl (v_pick rfl rfl rfl) ?_)
                          refine xV rfl rfl rfl (v_move rfl) ?_
                          refine rl_split (s := 81) rfl (fun g19_6 => ?_) (fun g19_6 => ?_)
                          · try with_reducible exact ft_elim g19_6
                            all_goals
                              try replace g19_6 := of_decide_eq_true g19_6
                              try (exfalso; omega)
                              all_goals
                                refine rl_vg (met_on rfl rfl rfl rfl) rfl rfl (S := fun _ => True) trivial (v_move rfl) ?_
                                refine rl_vg (met_on rfl rfl rfl rfl) rfl rfl (S := fun _ => True) trivial (v_nilCheck rfl) ?_
                                first | (refine rl_vg (met_on rfl rfl rfl rfl) rfl rfl (S := fun _ => True) trivial (v_fieldAddr0 T.fld_43_0_0 rfl) ?_) | (refine rl_vg (met_on rfl rfl rfl rfl) rfl rfl (S := fun _ => True) trivial (v_fieldAddr T.fld_43_0_0 rfl) ?_)
                                refine rl_vg (met_on rfl rfl rfl rfl) rfl rfl (by first | exact sat_cell hw (by (repeat first | with_reducible exact xH | apply xT); first | done | fail) rfl | exact own_cell hw (by (repeat first | with_reducible exact xH | apply xT); first | done | fail) (by first | rfl | assumption) | exact ro_at0 hw (by (repeat first | with_reducible exact xH | apply xT); first | done | fail) (by assumption) rfl | exact ro_at hw (by (repeat first | with_reducible exact xH | apply xT); first | done | fail) (by assumption) rfl | exact own_at0 hw (by (repeat first | with_reducible exact xH | apply xT); first | done | fail) (by assumption) rfl | exact own_at hw (by (repeat first | with_reducible exact xH | apply xT); first | done | fail) (by assumption) rfl | exact old_cell hw (by (repeat first | with_reducible exact xH | apply xT); first | done | fail) (by assumption) | assumption) (v_load T.scal_36 rfl) ?_
                                refine rl_vg (met_on rfl rfl rfl rfl) rfl rfl (S := fun _ => True) trivial (v_move rfl) ?_
                                refine rl_vg (met_on rfl rfl rfl rfl) rfl rfl (S := fun _ => True) trivial (v_eqlSame T.ptr_36 i36 rfl rfl) ?_
                                first | (refine xV rfl rfl rfl (v_pick_true rfl rfl) ?_) | (refine xV rfl rfl rfl (v_pick_false rfl rfl) ?_) | (refine xV rfl rfl rfl (v_pick rfl rfl rfl) ?_)
                                refine xV rfl rfl rfl (v_move rfl) ?_
                                refine rl_split (s := 89) rfl (fun g19_14 => ?_) (fun g19_14 => ?_)
                                · try with_reducible exact ft_elim g19_14
                                  all_goals
                                    try replace g19_14 := of_decide_eq_true g19_14
                                    try (exfalso; omega)
                                    all_goals
                                      refine rl_vg (met_on rfl rfl rfl rfl) rfl rfl (S := fun _ => True) trivial (v_move rfl) ?_
                                      refine rl_vg (met_on rfl rfl rfl rfl) rfl rfl (S := fun _ => True) trivial (v_nilCheck rfl) ?_
                                      first | (refine rl_vg (met_on rfl rfl rfl rfl) rfl rfl (S := fun _ => True) trivial (v_fieldAddr0 T.fld_43_1_1 rfl) ?_) | (refine rl_vg (met_on rfl rfl rfl rfl) rfl rfl (S := fun _ => True) trivial (v_fieldAddr T.fld_43_1_1 rfl) ?_)
                                      refine rl_vg (met_on rfl rfl rfl rfl) rfl rfl (by first | exact sat_cell hw (by (repeat first | with_reducible exact xH | apply xT); first | done | fail) rfl | exact own_cell hw (by (repeat first | with_reducible exact xH | apply xT); first | done | fail) (by first | rfl | assumption) | exact ro_at0 hw (by (repeat first | with_reducible exact xH | apply xT); first | done | fail) (by assumption) rfl | exact ro_at hw (by (repeat first | with_reducible exact xH | apply xT); first | done | fail) (by assumption) rfl | exact own_at0 hw (by (repeat first | with_reducible exact xH | apply xT); first | done | fail) (by assumption) rfl | exact own_at hw (by (repeat first | with_reducible exact xH | apply xT); first | done | fail) (by assumption) rfl | exact old_cell hw (by (repeat first | with_reducible exact xH | apply xT); first | done | fail) (by assumption) | assumption) (v_load T.scal_30 rfl) ?_
                                      refine rl_vg (met_on rfl rfl rfl rfl) rfl rfl (S := fun _ => True) trivial (v_move rfl) ?_
                                      refine rl_vg (met_on rfl rfl rfl rfl) rfl rfl (S := fun _ => True) trivial (v_eqlSame T.ptr_30 i30 rfl rfl) ?_
                                      first | (refine xV rfl rfl rfl (v_pick_true rfl rfl) ?_) | (refine xV rfl rfl rfl (v_pick_false rfl rfl) ?_) | (refine xV rfl rfl rfl (v_pick rfl rfl rfl) ?_)
                                      refine xV rfl rfl rfl (v_move rfl) ?_
                                      refine rl_split (s := 97) rfl (fun g19_22 => ?_) (fun g19_22 => ?_)
                                      · try with_reducible exact ft_elim g19_22
                                        all_goals
                                          try replace g19_22 := of_decide_eq_true g19_22
                                          try (exfalso; omega)
                                          all_goals
                                            refine rl_vg (met_on rfl rfl rfl rfl) rfl rfl (S := fun _ => True) trivial (v_move rfl) ?_
                                            refine rl_vg (met_on rfl rfl rfl rfl) rfl rfl (S := fun _ => True) trivial (v_nilCheck rfl) ?_
                                            first | (refine rl_vg (met_on rfl rfl rfl rfl) rfl rfl (S := fun _ => True) trivial (v_fieldAddr0 T.fld_43_2_2 rfl) ?_) | (refine rl_vg (met_on rfl rfl rfl rfl) rfl rfl (S := fun _ => True) trivial (v_fieldAddr T.fld_43_2_2 rfl) ?_)
                                            refine rl_vg (met_on rfl rfl rfl rfl) rfl rfl (by first | exact sat_cell hw (by (repeat first | with_reducible exact xH | apply xT); first | done | fail) rfl | exact own_cell hw (by (repeat first | with_reducible exact xH | apply xT); first | done | fail) (by first | rfl | assumption) | exact ro_at0 hw (by (repeat first | with_reducible exact xH | apply xT); first | done | fail) (by assumption) rfl | exact ro_at hw (by (repeat first | with_reducible exact xH | apply xT); first | done | fail) (by assumption) rfl | exact own_at0 hw (by (repeat first | with_reducible exact xH | apply xT); first | done | fail) (by assumption) rfl | exact own_at hw (by (repeat first | with_reducible exact xH | apply xT); first | done | fail) (by assumption) rfl | exact old_cell hw (by (repeat first | with_reducible exact xH | apply xT); first | done | fail) (by assumption) | assumption) (v_load T.scal_33 rfl) ?_
                                            refine rl_vg (met_on rfl rfl rfl rfl) rfl rfl (S := fun _ => True) trivial (v_move rfl) ?_
                                            refine rl_vg (met_on rfl rfl rfl rfl) rfl rfl (S := fun _ => True) trivial (v_eqlSame T.ptr_33 i33 rfl rfl) ?_
                                            first | (refine xV rfl rfl rfl (v_pick_true rfl rfl) ?_) | (refine xV rfl rfl rfl (v_pick_false rfl rfl) ?_) | (refine xV rfl rfl rfl (v_pick rfl rfl rfl) ?_)
                                            refine xV rfl rfl rfl (v_move rfl) ?_
                                            refine rl_split (s := 105) rfl (fun g19_30 => ?_) (fun g19_30 => ?_)
                                            · try with_reducible exact ft_elim g19_30
                                              all_goals
                                                try replace g19_30 := of_decide_eq_true g19_30
                                                try (exfalso; omega)
                                                all_goals
                                                  refine rl_vg (met_on rfl rfl rfl rfl) rfl rfl (S := fun _ => True) trivial (v_move rfl) ?_
                                                  refine rl_vg (met_on rfl rfl rfl rfl) rfl rfl (S := fun _ => True) trivial (v_nilCheck rfl) ?_
                                                  first | (refine rl_vg (met_on rfl rfl rfl rfl) rfl rfl (S := fun _ => True) trivial (v_fieldAddr0 T.fld_43_0_0 rfl) ?_) | (refine rl_vg (met_on rfl rfl rfl rfl) rfl rfl (S := fun _ => True) trivial (v_fieldAddr T.fld_43_0_0 rfl) ?_)
                                                  refine rl_vg (met_on rfl rfl rfl rfl) rfl rfl (by first | exact sat_cell hw (by (repeat first | with_reducible exact xH | apply xT); first | done | fail) rfl | exact own_cell hw (by (repeat first | with_reducible exact xH | apply xT); first | done | fail) (by first | rfl | assumption) | exact ro_at0 hw (by (repeat first | with_reducible exact xH | apply xT); first | done | fail) (by assumption) rfl | exact ro_at hw (by (repeat first | with_reducible exact xH | apply xT); first | done | fail) (by assumption) rfl | exact own_at0 hw (by (repeat first | with_reducible exact xH | apply xT); first | done | fail) (by assumption) rfl | exact own_at hw (by (repeat first | with_reducible exact xH | apply xT); first | done | fail) (by assumption) rfl | exact old_cell hw (by (repeat first | with_reducible exact xH | apply xT); first | done | fail) (by assumption) | assumption) (v_load T.scal_36 rfl) ?_
                                                  refine rl_vg (met_on rfl rfl rfl rfl) rfl rfl (S := fun _ => True) trivial (v_nilCheck rfl) ?_
                                                  first | (refine rl_vg (met_on rfl rfl rfl rfl) rfl rfl (S := fun _ => True) trivial (v_fieldAddr0 T.fld_47_0_0 rfl) ?_) | (refine rl_vg (met_on rfl rfl rfl rfl) rfl rfl (S := fun _ => True) trivial (v_fieldAddr T.fld_47_0_0 rfl) ?_)
                                                  refine rl_vg (met_on rfl rfl rfl rfl) rfl rfl (by first | exact sat_cell hw (by (repeat first | with_reducible exact xH | apply xT); first | done | fail) rfl | exact own_cell hw (by (repeat first | with_reducible exact xH | apply xT); first | done | fail) (by first | rfl | assumption) | exact ro_at0 hw (by (repeat first | with_reducible exact xH | apply xT); first | done | fail) (by assumption) rfl | exact ro_at hw (by (repeat first | with_reducible exact xH | apply xT); first | done | fail) (by assumption) rfl | exact own_at0 hw (by (repeat first | with_reducible exact xH | apply xT); first | done | fail) (by assumption) rfl | exact own_at hw (by (repeat first | with_reducible exact xH | apply xT); first | done | fail) (by assumption) rfl | exact old_cell hw (by (repeat first | with_reducible exact xH | apply xT); first | done | fail) (by assumption) | assumption) (v_load T.scal_24 rfl) ?_
                                                  refine rl_kg (met_on rfl rfl rfl rfl) (k_callf Try.func16 rfl rfl rfl rfl ?_)
                                                  refine Calls.mono (msegments_calls m p ⟨100, List.replicate (2 : Int).toNat ByteArray.empty, [], 0⟩ (hw.xP)) ?_
                                                  rintro _ w ⟨rfl, hw⟩
                                                  refine ⟨_, rfl, ?_⟩
                                                  first | (refine rl_vg (met_on rfl rfl rfl rfl) rfl rfl (S := fun _ => True) trivial (v_eqlT rfl rfl (by first | omega | rfl)) ?_) | (refine rl_vg (met_on rfl rfl rfl rfl) rfl rfl (S := fun _ => True) trivial (v_eqlF rfl rfl (by omega)) ?_) | (refine rl_vg (met_on rfl rfl rfl rfl) rfl rfl (S := fun _ => True) trivial (v_eql rfl rfl) ?_)
                                                  first | (refine xV rfl rfl rfl (v_pick_true rfl rfl) ?_) | (refine xV rfl rfl rfl (v_pick_false rfl rfl) ?_) | (refine xV rfl rfl rfl (v_pick rfl rfl rfl) ?_)
                                                  refine xV rfl rfl rfl (v_move rfl) ?_
                                                  refine rl_split (s := 116) rfl (fun g19_41 => ?_) (fun g19_41 => ?_)
                                                  · try with_reducible exact ft_elim g19_41
                                                    all_goals
                                                      try replace g19_41 := of_decide_eq_true g19_41
                                                      try (exfalso; omega)
                                                      all_goals
                                                        refine rl_vg (met_on rfl rfl rfl rfl) rfl rfl (S := fun _ => True) trivial (v_move rfl) ?_
                                                        refine rl_vg (met_on rfl rfl rfl rfl) rfl rfl (S := fun _ => True) trivial (v_nilCheck rfl) ?_
                                                        first | (refine rl_vg (met_on rfl rfl rfl rfl) rfl rfl (S := fun _ => True) trivial (v_fieldAddr0 T.fld_43_2_2 rfl) ?_) | (refine rl_vg (met_on rfl rfl rfl rfl) rfl rfl (S := fun _ => True) trivial (v_fieldAddr T.fld_43_2_2 rfl) ?_)
                                                        refine rl_vg (met_on rfl rfl rfl rfl) rfl rfl (by first | exact sat_cell hw (by (repeat first | with_reducible exact xH | apply xT); first | done | fail) rfl | exact own_cell hw (by (repeat first | with_reducible exact xH | apply xT); first | done | fail) (by first | rfl | assumption) | exact ro_at0 hw (by (repeat first | with_reducible exact xH | apply xT); first | done | fail) (by assumption) rfl | exact ro_at hw (by (repeat first | with_reducible exact xH | apply xT); first | done | fail) (by assumption) rfl | exact own_at0 hw (by (repeat first | with_reducible exact xH | apply xT); first | done | fail) (by assumption) rfl | exact own_at hw (by (repeat first | with_reducible exact xH | apply xT); first | done | fail) (by assumption) rfl | exact old_cell hw (by (repeat first | with_reducible exact xH | apply xT); first | done | fail) (by assumption) | assumption) (v_load T.scal_33 rfl) ?_
                                                        refine rl_kg (met_on rfl rfl rfl rfl) (k_callf Try.func17 rfl rfl rfl rfl ?_)
                                                        refine Calls.mono (taken_calls d _ _ (hw.xP)) ?_
                                                        rintro _ w ⟨rfl, hw⟩
                                                        refine ⟨_, rfl, ?_⟩
                                                        first | (refine rl_vg (met_on rfl rfl rfl rfl) rfl rfl (S := fun _ => True) trivial (v_eqlT rfl rfl (by first | omega | rfl)) ?_) | (refine rl_vg (met_on rfl rfl rfl rfl) rfl rfl (S := fun _ => True) trivial (v_eqlF rfl rfl (by omega)) ?_) | (refine rl_vg (met_on rfl rfl rfl rfl) rfl rfl (S := fun _ => True) trivial (v_eql rfl rfl) ?_)
                                                        first | (refine xV rfl rfl rfl (v_pick_true rfl rfl) ?_) | (refine xV rfl rfl rfl (v_pick_false rfl rfl) ?_) | (refine xV rfl rfl rfl (v_pick rfl rfl rfl) ?_)
                                                        refine xV rfl rfl rfl (v_move rfl) ?_
                                                        refine rl_split (s := 124) rfl (fun g19_49 => ?_) (fun g19_49 => ?_)
                                                        · try with_reducible exact ft_elim g19_49
                                                          all_goals
                                                            try replace g19_49 := of_decide_eq_true g19_49
                                                            try (exfalso; omega)
                                                            all_goals
                                                              refine rl_vg (met_on rfl rfl rfl rfl) rfl rfl (S := fun _ => True) trivial (v_move rfl) ?_
                                                              refine rl_vg (met_on rfl rfl rfl rfl) rfl rfl (S := fun _ => True) trivial (v_nilCheck rfl) ?_
                                                              first | (refine rl_vg (met_on rfl rfl rfl rfl) rfl rfl (S := fun _ => True) trivial (v_fieldAddr0 T.fld_43_0_0 rfl) ?_) | (refine rl_vg (met_on rfl rfl rfl rfl) rfl rfl (S := fun _ => True) trivial (v_fieldAddr T.fld_43_0_0 rfl) ?_)
                                                              refine rl_vg (met_on rfl rfl rfl rfl) rfl rfl (by first | exact sat_cell hw (by (repeat first | with_reducible exact xH | apply xT); first | done | fail) rfl | exact own_cell hw (by (repeat first | with_reducible exact xH | apply xT); first | done | fail) (by first | rfl | assumption) | exact ro_at0 hw (by (repeat first | with_reducible exact xH | apply xT); first | done | fail) (by assumption) rfl | exact ro_at hw (by (repeat first | with_reducible exact xH | apply xT); first | done | fail) (by assumption) rfl | exact own_at0 hw (by (repeat first | with_reducible exact xH | apply xT); first | done | fail) (by assumption) rfl | exact own_at hw (by (repeat first | with_reducible exact xH | apply xT); first | done | fail) (by assumption) rfl | exact old_cell hw (by (repeat first | with_reducible exact xH | apply xT); first | done | fail) (by assumption) | assumption) (v_load T.scal_36 rfl) ?_
                                                              refine rl_vg (met_on rfl rfl rfl rfl) rfl rfl (S := fun _ => True) trivial (v_nilCheck rfl) ?_
                                                              first | (refine rl_vg (met_on rfl rfl rfl rfl) rfl rfl (S := fun _ => True) trivial (v_fieldAddr0 T.fld_47_0_0 rfl) ?_) | (refine rl_vg (met_on rfl rfl rfl rfl) rfl rfl (S := fun _ => True) trivial (v_fieldAddr T.fld_47_0_0 rfl) ?_)
                                                              refine rl_vg (met_on rfl rfl rfl rfl) rfl rfl (by first | exact sat_cell hw (by (repeat first | with_reducible exact xH | apply xT); first | done | fail) rfl | exact own_cell hw (by (repeat first | with_reducible exact xH | apply xT); first | done | fail) (by first | rfl | assumption) | exact ro_at0 hw (by (repeat first | with_reducible exact xH | apply xT); first | done | fail) (by assumption) rfl | exact ro_at hw (by (repeat first | with_reducible exact xH | apply xT); first | done | fail) (by assumption) rfl | exact own_at0 hw (by (repeat first | with_reducible exact xH | apply xT); first | done | fail) (by assumption) rfl | exact own_at hw (by (repeat first | with_reducible exact xH | apply xT); first | done | fail) (by assumption) rfl | exact old_cell hw (by (repeat first | with_reducible exact xH | apply xT); first | done | fail) (by assumption) | assumption) (v_load T.scal_24 rfl) ?_
                                                              refine rl_vg (met_on rfl rfl rfl rfl) rfl rfl (S := fun _ => True) trivial (v_nilCheck rfl) ?_
                                                              first | (refine rl_vg (met_on rfl rfl rfl rfl) rfl rfl (S := fun _ => True) trivial (v_fieldAddr0 T.fld_52_0_0 rfl) ?_) | (refine rl_vg (met_on rfl rfl rfl rfl) rfl rfl (S := fun _ => True) trivial (v_fieldAddr T.fld_52_0_0 rfl) ?_)
                                                              obtain ⟨_, g9, cap9, pa9, pc9, vs9, _, _, _, hw⟩ := md_open (hw.xP (A := MdAt m p ⟨100, List.replicate (2 : Int).toNat ByteArray.empty, [], 0⟩))
                                                              refine rl_vg (met_on rfl rfl rfl rfl) rfl rfl (by first | exact sat_cell hw (by (repeat first | with_reducible exact xH | apply xT); first | done | fail) rfl | exact own_cell hw (by (repeat first | with_reducible exact xH | apply xT); first | done | fail) (by first | rfl | assumption) | exact ro_at0 hw (by (repeat first | with_reducible exact xH | apply xT); first | done | fail) (by assumption) rfl | exact ro_at hw (by (repeat first | with_reducible exact xH | apply xT); first | done | fail) (by assumption) rfl | exact own_at0 hw (by (repeat first | with_reducible exact xH | apply xT); first | done | fail) (by assumption) rfl | exact own_at hw (by (repeat first | with_reducible exact xH | apply xT); first | done | fail) (by assumption) rfl | exact old_cell hw (by (repeat first | with_reducible exact xH | apply xT); first | done | fail) (by assumption) | assumption) (v_load T.scal_28 rfl) ?_
                                                              refine rl_kg (met_on rfl rfl rfl rfl) (k_callf Try.func18 rfl rfl rfl rfl ?_)
                                                              refine Calls.mono (on_calls p ⟨false, 0, 0⟩ (hw.xP)) ?_
                                                              rintro _ w ⟨rfl, hw⟩
                                                              refine ⟨_, rfl, ?_⟩
                                                              first | (refine xV rfl rfl rfl (v_pick_true rfl rfl) ?_) | (refine xV rfl rfl rfl (v_pick_false rfl rfl) ?_) | (refine xV rfl rfl rfl (v_pick rfl rfl rfl) ?_)
                                                              refine xV rfl rfl rfl (v_assign rfl) ?_
                                                              refine rl_nil (g_le (xK (xS rfl (xS rfl (xS rfl (xS rfl (xS rfl (xS rfl (xS rfl (xS rfl (xS rfl (xS rfl (xS rfl (xS rfl (xS rfl (xS rfl (xS rfl (xS rfl (xS rfl (xS rfl (xS rfl (xS rfl (xS rfl (xS rfl (xS rfl (xS rfl (xS rfl (xS rfl (xS rfl (xS rfl (xS rfl (xS rfl (xS rfl (xS rfl (xS rfl (xS rfl (xS rfl (xS rfl (xS rfl (xS rfl (xS rfl (xS rfl (xS rfl (xS rfl (xS rfl (xS rfl (xS rfl (xS rfl (xS rfl (xS rfl (xS rfl (xS rfl (xS rfl (xS rfl (xS rfl (xS rfl (xS rfl (xS rfl (xS rfl (xS rfl (xS rfl (xS rfl (xS rfl (xS rfl (xS rfl (xS rfl (xS rfl (xS rfl (xS rfl (xS rfl (xS rfl (Fr.le_refl _))))))))))))))))))))))))))))))))))))))))))))))))))))))))))))))))))))))) ?_)
                                                              refine g_ret1 Try.func3 rfl rfl ?_
                                                              refine ⟨?_, hw.xQ⟩
                                                              first | rfl | simp
                                                        · try with_reducible exact tf_elim g19_49
                                                          all_goals
                                                            try replace g19_49 := of_decide_eq_false g19_49
                                                            simp at g19_49
                                                  · try with_reducible exact tf_elim g19_41
                                                    all_goals
                                                      try replace g19_41 := of_decide_eq_false g19_41
                                                      simp at g19_41
                                            · try with_reducible exact tf_elim g19_30
                                              all_goals
                                                try replace g19_30 := of_decide_eq_false g19_30
                                                simp at g19_30
                                      · try with_reducible exact tf_elim g19_22
                                        all_goals
                                          try replace g19_22 := of_decide_eq_false g19_22
                                          simp at g19_22
                                · try with_reducible exact tf_elim g19_14
                                  all_goals
                                    try replace g19_14 := of_decide_eq_false g19_14
                                    simp at g19_14
                          · try with_reducible exact tf_elim g19_6
                            all_goals
                              try replace g19_6 := of_decide_eq_false g19_6
                              simp at g19_6
                    · try with_reducible exact tf_elim g19_2
                      all_goals
                        try replace g19_2 := of_decide_eq_false g19_2
                        simp at g19_2
        · try with_reducible exact tf_elim g4_6
          all_goals
            try replace g4_6 := of_decide_eq_false g4_6
            try (exfalso; omega)
            all_goals
              refine rl_vg (met_on rfl rfl rfl rfl) rfl rfl (S := fun _ => True) trivial (v_move rfl) ?_
              refine rl_vg (met_on rfl rfl rfl rfl) rfl rfl (S := fun _ => True) trivial (v_neqF rfl rfl (by omega)) ?_
              refine xV rfl rfl rfl (v_pick_false rfl rfl) ?_
              refine rl_nil (g_le (xK (xS rfl (xS rfl (xS rfl (xS rfl (xS rfl (xS rfl (xS rfl (xS rfl (xS rfl (xS rfl (xS rfl (Fr.le_refl _))))))))))))) ?_)
              refine g_cond_false rfl ?_
              refine g_skip (g_seq ?_)
              refine g_region ?_
              refine xV rfl rfl rfl (v_move rfl) ?_
              refine rl_k rfl (k_callf Try.func13 rfl rfl rfl rfl ?_)
              refine Calls.mono (snew_calls m p _ (hw.xP (A := MdAt m p ⟨100, List.replicate (2 : Int).toNat ByteArray.empty, [], 0⟩))) ?_
              rintro _ w ⟨l, lsv, rfl, hw⟩
              refine ⟨_, rfl, ?_⟩
              refine xV rfl rfl rfl (v_assign rfl) ?_
              refine rl_nil (g_le (xK (xS rfl (xS rfl (Fr.le_refl _)))) ?_)
              refine g_seq (g_seq ?_)
              refine g_region ?_
              refine xV rfl rfl rfl (v_move rfl) ?_
              refine rl_nil (g_le (xK (Fr.le_refl _)) ?_)
              refine g_block (g_seq ?_)
              refine g_region ?_
              refine xV rfl rfl rfl (v_eqlF rfl rfl (by omega)) ?_
              refine xV rfl rfl rfl (v_assign rfl) ?_
              refine rl_nil (g_le (xK (xS rfl (Fr.le_refl _))) ?_)
              refine g_cond_false rfl ?_
              refine g_seq ?_
              refine g_region ?_
              refine xV rfl rfl rfl (v_eqlF rfl rfl (by omega)) ?_
              refine xV rfl rfl rfl (v_assign rfl) ?_
              refine rl_nil (g_le (xK (xS rfl (Fr.le_refl _))) ?_)
              refine g_cond_false rfl ?_
              refine g_seq ?_
              refine g_region ?_
              refine xV rfl rfl rfl (v_eqlF rfl rfl (by omega)) ?_
              refine xV rfl rfl rfl (v_assign rfl) ?_
              refine rl_nil (g_le (xK (xS rfl (Fr.le_refl _))) ?_)
              refine g_cond_false rfl ?_
              refine g_skip (g_inBlock (g_seq ?_))
              refine g_region ?_
              refine rl_v rfl rfl rfl (by exact sat_cells hw (by (repeat first | with_reducible exact xH | apply xT); first | done | fail) ⟨rfl, rfl, rfl, rfl, rfl, rfl, rfl, trivial⟩) (v_loadAgg (vs := [_, _, _, _, _, _, _]) T.agg_23_7 rfl rfl) ?_
              refine xV rfl rfl rfl (v_move rfl) ?_
              refine xV rfl rfl rfl (v_move rfl) ?_
              refine xV rfl rfl rfl (v_move rfl) ?_
              refine rl_k rfl (k_callf Try.func14 rfl rfl rfl rfl ?_)
              refine Calls.mono (pnew_calls q hq _ _ _ hw) ?_
              rintro _ w ⟨pp, rfl, hw⟩
              refine ⟨_, rfl, ?_⟩
              refine xV rfl rfl rfl (v_move rfl) ?_
              refine xV rfl rfl rfl (v_extract rfl rfl) ?_
              refine xV rfl rfl rfl (v_extract rfl rfl) ?_
              refine xV rfl rfl rfl (v_assign rfl) ?_
              refine xV rfl rfl rfl (v_assign rfl) ?_
              refine rl_nil (g_le (xK (xK (xS rfl (xS rfl (xS rfl (xS rfl (xS rfl (xS rfl (xS rfl (xS rfl (Fr.le_refl _))))))))))) ?_)
              refine g_seq (g_seq ?_)
              refine g_region ?_
              refine rl_v rfl rfl rfl (by exact sat_cells hw (by (repeat first | with_reducible exact xH | apply xT); first | done | fail) ⟨rfl, rfl, rfl, rfl, rfl, rfl, rfl, trivial⟩) (v_loadAgg (vs := [_, _, _, _, _, _, _]) T.agg_23_7 rfl rfl) ?_
              refine rl_k rfl (k_callf Try.func15 rfl rfl rfl rfl ?_)
              refine Calls.mono (rright_calls q (hw.xQ)) ?_
              rw [decide_eq_true hq]
              rintro _ w ⟨rfl, hw⟩
              refine ⟨_, rfl, ?_⟩
              refine xV rfl rfl rfl (v_not rfl) ?_
              refine rl_nil (g_le (xK (xS rfl (xS rfl (Fr.le_refl _)))) ?_)
              refine g_cond_false rfl ?_
              refine g_skip (g_seq (g_seq ?_))
              refine g_region ?_
              refine xV rfl rfl rfl (v_move rfl) ?_
              refine xV rfl rfl rfl (v_geq rfl rfl) ?_
              refine xV rfl rfl rfl (v_move rfl) ?_
              refine rl_split (s := 65) rfl (fun g17_2 => ?_) (fun g17_2 => ?_)
              · try with_reducible exact ft_elim g17_2
                all_goals
                  try replace g17_2 := of_decide_eq_true g17_2
                  try (exfalso; omega)
                  all_goals
                    refine rl_vg (met_on rfl rfl rfl rfl) rfl rfl (S := fun _ => True) trivial (v_move rfl) ?_
                    refine rl_vg (met_on rfl rfl rfl rfl) rfl rfl (S := fun _ => True) trivial (v_leqF rfl rfl (by omega)) ?_
                    refine xV rfl rfl rfl (v_pick_true rfl rfl) ?_
                    refine rl_nil (g_le (xK (xS rfl (xS rfl (xS rfl (xS rfl (xS rfl (xS rfl (Fr.le_refl _)))))))) ?_)
                    refine g_cond_false rfl ?_
                    refine g_skip (g_seq ?_)
                    refine g_region ?_
                    refine xV rfl rfl rfl (v_move rfl) ?_
                    refine xV rfl rfl rfl (v_neqNil T.ptr_38 rfl rfl) ?_
                    refine xV rfl rfl rfl (v_move rfl) ?_
                    refine rl_split (s := 77) rfl (fun g19_2 => ?_) (fun g19_2 => ?_)
                    · try with_reducible exact ft_elim g19_2
                      all_goals
                        try replace g19_2 := of_decide_eq_true g19_2
                        try (exfalso; omega)
                        all_goals
                          refine rl_vg (met_on rfl rfl rfl rfl) rfl rfl (S := fun _ => True) trivial (v_move rfl) ?_
                          refine rl_vg (met_on rfl rfl rfl rfl) rfl rfl (S := fun _ => True) trivial (v_eqlT rfl rfl (by omega)) ?_
                          refine xV rfl rfl rfl (v_pick_true rfl rfl) ?_
                          refine xV rfl rfl rfl (v_move rfl) ?_
                          refine rl_split (s := 81) rfl (fun g19_6 => ?_) (fun g19_6 => ?_)
                          · try with_reducible exact ft_elim g19_6
                            all_goals
                              try replace g19_6 := of_decide_eq_true g19_6
                              try (exfalso; omega)
                              all_goals
                                refine rl_vg (met_on rfl rfl rfl rfl) rfl rfl (S := fun _ => True) trivial (v_move rfl) ?_
                                refine rl_vg (met_on rfl rfl rfl rfl) rfl rfl (S := fun _ => True) trivial (v_nilCheck rfl) ?_
                                refine rl_vg (met_on rfl rfl rfl rfl) rfl rfl (S := fun _ => True) trivial (v_fieldAddr0 T.fld_43_0_0 rfl) ?_
                                refine rl_vg (met_on rfl rfl rfl rfl) rfl rfl (by exact sat_cell hw (by (repeat first | with_reducible exact xH | apply xT); first | done | fail) rfl) (v_load T.scal_36 rfl) ?_
                                refine rl_vg (met_on rfl rfl rfl rfl) rfl rfl (S := fun _ => True) trivial (v_move rfl) ?_
                                refine rl_vg (met_on rfl rfl rfl rfl) rfl rfl (S := fun _ => True) trivial (v_eqlSame T.ptr_36 i36 rfl rfl) ?_
                                refine xV rfl rfl rfl (v_pick_true rfl rfl) ?_
                                refine xV rfl rfl rfl (v_move rfl) ?_
                                refine rl_split (s := 89) rfl (fun g19_14 => ?_) (fun g19_14 => ?_)
                                · try with_reducible exact ft_elim g19_14
                                  all_goals
                                    try replace g19_14 := of_decide_eq_true g19_14
                                    try (exfalso; omega)
                                    all_goals
                                      refine rl_vg (met_on rfl rfl rfl rfl) rfl rfl (S := fun _ => True) trivial (v_move rfl) ?_
                                      refine rl_vg (met_on rfl rfl rfl rfl) rfl rfl (S := fun _ => True) trivial (v_nilCheck rfl) ?_
                                      refine rl_vg (met_on rfl rfl rfl rfl) rfl rfl (S := fun _ => True) trivial (v_fieldAddr0 T.fld_43_1_1 rfl) ?_
                                      refine rl_vg (met_on rfl rfl rfl rfl) rfl rfl (by exact sat_cell hw (by (repeat first | with_reducible exact xH | apply xT); first | done | fail) rfl) (v_load T.scal_30 rfl) ?_
                                      refine rl_vg (met_on rfl rfl rfl rfl) rfl rfl (S := fun _ => True) trivial (v_move rfl) ?_
                                      refine rl_vg (met_on rfl rfl rfl rfl) rfl rfl (S := fun _ => True) trivial (v_eqlSame T.ptr_30 i30 rfl rfl) ?_
                                      refine xV rfl rfl rfl (v_pick_true rfl rfl) ?_
                                      refine xV rfl rfl rfl (v_move rfl) ?_
                                      refine rl_split (s := 97) rfl (fun g19_22 => ?_) (fun g19_22 => ?_)
                                      · try with_reducible exact ft_elim g19_22
                                        all_goals
                                          try replace g19_22 := of_decide_eq_true g19_22
                                          try (exfalso; omega)
                                          all_goals
                                            refine rl_vg (met_on rfl rfl rfl rfl) rfl rfl (S := fun _ => True) trivial (v_move rfl) ?_
                                            refine rl_vg (met_on rfl rfl rfl rfl) rfl rfl (S := fun _ => True) trivial (v_nilCheck rfl) ?_
                                            refine rl_vg (met_on rfl rfl rfl rfl) rfl rfl (S := fun _ => True) trivial (v_fieldAddr0 T.fld_43_2_2 rfl) ?_
                                            refine rl_vg (met_on rfl rfl rfl rfl) rfl rfl (by exact sat_cell hw (by (repeat first | with_reducible exact xH | apply xT); first | done | fail) rfl) (v_load T.scal_33 rfl) ?_
                                            refine rl_vg (met_on rfl rfl rfl rfl) rfl rfl (S := fun _ => True) trivial (v_move rfl) ?_
                                            refine rl_vg (met_on rfl rfl rfl rfl) rfl rfl (S := fun _ => True) trivial (v_eqlSame T.ptr_33 i33 rfl rfl) ?_
                                            refine xV rfl rfl rfl (v_pick_true rfl rfl) ?_
                                            refine xV rfl rfl rfl (v_move rfl) ?_
                                            refine rl_split (s := 105) rfl (fun g19_30 => ?_) (fun g19_30 => ?_)
                                            · try with_reducible exact ft_elim g19_30
                                              all_goals
                                                try replace g19_30 := of_decide_eq_true g19_30
                                                try (exfalso; omega)
                                                all_goals
                                                  refine rl_vg (met_on rfl rfl rfl rfl) rfl rfl (S := fun _ => True) trivial (v_move rfl) ?_
                                                  refine rl_vg (met_on rfl rfl rfl rfl) rfl rfl (S := fun _ => True) trivial (v_nilCheck rfl) ?_
                                                  refine rl_vg (met_on rfl rfl rfl rfl) rfl rfl (S := fun _ => True) trivial (v_fieldAddr0 T.fld_43_0_0 rfl) ?_
                                                  refine rl_vg (met_on rfl rfl rfl rfl) rfl rfl (by exact sat_cell hw (by (repeat first | with_reducible exact xH | apply xT); first | done | fail) rfl) (v_load T.scal_36 rfl) ?_
                                                  refine rl_vg (met_on rfl rfl rfl rfl) rfl rfl (S := fun _ => True) trivial (v_nilCheck rfl) ?_
                                                  refine rl_vg (met_on rfl rfl rfl rfl) rfl rfl (S := fun _ => True) trivial (v_fieldAddr0 T.fld_47_0_0 rfl) ?_
                                                  refine rl_vg (met_on rfl rfl rfl rfl) rfl rfl (by exact sat_cell hw (by (repeat first | with_reducible exact xH | apply xT); first | done | fail) rfl) (v_load T.scal_24 rfl) ?_
                                                  refine rl_kg (met_on rfl rfl rfl rfl) (k_callf Try.func16 rfl rfl rfl rfl ?_)
                                                  refine Calls.mono (msegments_calls m p ⟨100, List.replicate (2 : Int).toNat ByteArray.empty, [], 0⟩ (hw.xP)) ?_
                                                  rintro _ w ⟨rfl, hw⟩
                                                  refine ⟨_, rfl, ?_⟩
                                                  refine rl_vg (met_on rfl rfl rfl rfl) rfl rfl (S := fun _ => True) trivial (v_eqlT rfl rfl (by rfl)) ?_
                                                  refine xV rfl rfl rfl (v_pick_true rfl rfl) ?_
                                                  refine xV rfl rfl rfl (v_move rfl) ?_
                                                  refine rl_split (s := 116) rfl (fun g19_41 => ?_) (fun g19_41 => ?_)
                                                  · try with_reducible exact ft_elim g19_41
                                                    all_goals
                                                      try replace g19_41 := of_decide_eq_true g19_41
                                                      try (exfalso; omega)
                                                      all_goals
                                                        refine rl_vg (met_on rfl rfl rfl rfl) rfl rfl (S := fun _ => True) trivial (v_move rfl) ?_
                                                        refine rl_vg (met_on rfl rfl rfl rfl) rfl rfl (S := fun _ => True) trivial (v_nilCheck rfl) ?_
                                                        refine rl_vg (met_on rfl rfl rfl rfl) rfl rfl (S := fun _ => True) trivial (v_fieldAddr0 T.fld_43_2_2 rfl) ?_
                                                        refine rl_vg (met_on rfl rfl rfl rfl) rfl rfl (by exact sat_cell hw (by (repeat first | with_reducible exact xH | apply xT); first | done | fail) rfl) (v_load T.scal_33 rfl) ?_
                                                        refine rl_kg (met_on rfl rfl rfl rfl) (k_callf Try.func17 rfl rfl rfl rfl ?_)
                                                        refine Calls.mono (taken_calls d _ _ (hw.xP)) ?_
                                                        rintro _ w ⟨rfl, hw⟩
                                                        refine ⟨_, rfl, ?_⟩
                                                        refine rl_vg (met_on rfl rfl rfl rfl) rfl rfl (S := fun _ => True) trivial (v_eqlT rfl rfl (by omega)) ?_
                                                        refine xV rfl rfl rfl (v_pick_true rfl rfl) ?_
                                                        refine xV rfl rfl rfl (v_move rfl) ?_
                                                        refine rl_split (s := 124) rfl (fun g19_49 => ?_) (fun g19_49 => ?_)
                                                        · try with_reducible exact ft_elim g19_49
                                                          all_goals
                                                            try replace g19_49 := of_decide_eq_true g19_49
                                                            try (exfalso; omega)
                                                            all_goals
                                                              refine rl_vg (met_on rfl rfl rfl rfl) rfl rfl (S := fun _ => True) trivial (v_move rfl) ?_
                                                              refine rl_vg (met_on rfl rfl rfl rfl) rfl rfl (S := fun _ => True) trivial (v_nilCheck rfl) ?_
                                                              refine rl_vg (met_on rfl rfl rfl rfl) rfl rfl (S := fun _ => True) trivial (v_fieldAddr0 T.fld_43_0_0 rfl) ?_
                                                              refine rl_vg (met_on rfl rfl rfl rfl) rfl rfl (by exact sat_cell hw (by (repeat first | with_reducible exact xH | apply xT); first | done | fail) rfl) (v_load T.scal_36 rfl) ?_
                                                              refine rl_vg (met_on rfl rfl rfl rfl) rfl rfl (S := fun _ => True) trivial (v_nilCheck rfl) ?_
                                                              refine rl_vg (met_on rfl rfl rfl rfl) rfl rfl (S := fun _ => True) trivial (v_fieldAddr0 T.fld_47_0_0 rfl) ?_
                                                              refine rl_vg (met_on rfl rfl rfl rfl) rfl rfl (by exact sat_cell hw (by (repeat first | with_reducible exact xH | apply xT); first | done | fail) rfl) (v_load T.scal_24 rfl) ?_
                                                              refine rl_vg (met_on rfl rfl rfl rfl) rfl rfl (S := fun _ => True) trivial (v_nilCheck rfl) ?_
                                                              refine rl_vg (met_on rfl rfl rfl rfl) rfl rfl (S := fun _ => True) trivial (v_fieldAddr0 T.fld_52_0_0 rfl) ?_
                                                              obtain ⟨_, g9, cap9, pa9, pc9, vs9, _, _, _, hw⟩ := md_open (hw.xP (A := MdAt m p ⟨100, List.replicate (2 : Int).toNat ByteArray.empty, [], 0⟩))
                                                              refine rl_vg (met_on rfl rfl rfl rfl) rfl rfl (by exact sat_cell hw (by (repeat first | with_reducible exact xH | apply xT); first | done | fail) rfl) (v_load T.scal_28 rfl) ?_
                                                              refine rl_kg (met_on rfl rfl rfl rfl) (k_callf Try.func18 rfl rfl rfl rfl ?_)
                                                              refine Calls.mono (on_calls p ⟨false, 0, 0⟩ (hw.xP)) ?_
                                                              rintro _ w ⟨rfl, hw⟩
                                                              refine ⟨_, rfl, ?_⟩
                                                              refine xV rfl rfl rfl (v_pick_true rfl rfl) ?_
                                                              refine xV rfl rfl rfl (v_assign rfl) ?_
                                                              refine rl_nil (g_le (xK (xS rfl (xS rfl (xS rfl (xS rfl (xS rfl (xS rfl (xS rfl (xS rfl (xS rfl (xS rfl (xS rfl (xS rfl (xS rfl (xS rfl (xS rfl (xS rfl (xS rfl (xS rfl (xS rfl (xS rfl (xS rfl (xS rfl (xS rfl (xS rfl (xS rfl (xS rfl (xS rfl (xS rfl (xS rfl (xS rfl (xS rfl (xS rfl (xS rfl (xS rfl (xS rfl (xS rfl (xS rfl (xS rfl (xS rfl (xS rfl (xS rfl (xS rfl (xS rfl (xS rfl (xS rfl (xS rfl (xS rfl (xS rfl (xS rfl (xS rfl (xS rfl (xS rfl (xS rfl (xS rfl (xS rfl (xS rfl (xS rfl (xS rfl (xS rfl (xS rfl (xS rfl (xS rfl (xS rfl (xS rfl (xS rfl (xS rfl (xS rfl (xS rfl (xS rfl (Fr.le_refl _))))))))))))))))))))))))))))))))))))))))))))))))))))))))))))))))))))))) ?_)
                                                              refine g_ret1 Try.func3 rfl rfl ?_
                                                              refine ⟨?_, hw.xQ⟩
                                                              first | rfl | simp
                                                        · try with_reducible exact tf_elim g19_49
                                                          all_goals
                                                            try replace g19_49 := of_decide_eq_false g19_49
                                                            simp at g19_49
                                                  · try with_reducible exact tf_elim g19_41
                                                    all_goals
                                                      try replace g19_41 := of_decide_eq_false g19_41
                                                      simp at g19_41
                                            · try with_reducible exact tf_elim g19_30
                                              all_goals
                                                try replace g19_30 := of_decide_eq_false g19_30
                                                simp at g19_30
                                      · try with_reducible exact tf_elim g19_22
                                        all_goals
                                          try replace g19_22 := of_decide_eq_false g19_22
                                          simp at g19_22
                                · try with_reducible exact tf_elim g19_14
                                  all_goals
                                    try replace g19_14 := of_decide_eq_false g19_14
                                    simp at g19_14
                          · try with_reducible exact tf_elim g19_6
                            all_goals
                              try replace g19_6 := of_decide_eq_false g19_6
                              simp at g19_6
                    · try with_reducible exact tf_elim g19_2
                      all_goals
                        try replace g19_2 := of_decide_eq_false g19_2
                        simp at g19_2
              · try with_reducible exact tf_elim g17_2
                all_goals
                  try replace g17_2 := of_decide_eq_false g17_2
                  try (exfalso; omega)
                  all_goals
                    refine rl_off (met_off rfl rfl rfl rfl rfl) rfl rfl ?_
                    refine rl_off (met_off rfl rfl rfl rfl rfl) rfl rfl ?_
                    refine xV rfl rfl rfl (v_pick_false rfl rfl) ?_
                    refine rl_nil (g_le (xK (xS rfl (xS rfl (xS rfl (xS rfl (xS rfl (xS rfl (Fr.le_refl _)))))))) ?_)
                    refine g_cond_false rfl ?_
                    refine g_skip (g_seq ?_)
                    refine g_region ?_
                    refine xV rfl rfl rfl (v_move rfl) ?_
                    refine xV rfl rfl rfl (v_neqNil T.ptr_38 rfl rfl) ?_
                    refine xV rfl rfl rfl (v_move rfl) ?_
                    refine rl_split (s := 77) rfl (fun g19_2 => ?_) (fun g19_2 => ?_)
                    · try with_reducible exact ft_elim g19_2
                      all_goals
                        try replace g19_2 := of_decide_eq_true g19_2
                        try (exfalso; omega)
                        all_goals
                          refine rl_vg (met_on rfl rfl rfl rfl) rfl rfl (S := fun _ => True) trivial (v_move rfl) ?_
                          refine rl_vg (met_on rfl rfl rfl rfl) rfl rfl (S := fun _ => True) trivial (v_eqlT rfl rfl (by omega)) ?_
                          refine xV rfl rfl rfl (v_pick_true rfl rfl) ?_
                          refine xV rfl rfl rfl (v_move rfl) ?_
                          refine rl_split (s := 81) rfl (fun g19_6 => ?_) (fun g19_6 => ?_)
                          · try with_reducible exact ft_elim g19_6
                            all_goals
                              try replace g19_6 := of_decide_eq_true g19_6
                              try (exfalso; omega)
                              all_goals
                                refine rl_vg (met_on rfl rfl rfl rfl) rfl rfl (S := fun _ => True) trivial (v_move rfl) ?_
                                refine rl_vg (met_on rfl rfl rfl rfl) rfl rfl (S := fun _ => True) trivial (v_nilCheck rfl) ?_
                                refine rl_vg (met_on rfl rfl rfl rfl) rfl rfl (S := fun _ => True) trivial (v_fieldAddr0 T.fld_43_0_0 rfl) ?_
                                refine rl_vg (met_on rfl rfl rfl rfl) rfl rfl (by exact sat_cell hw (by (repeat first | with_reducible exact xH | apply xT); first | done | fail) rfl) (v_load T.scal_36 rfl) ?_
                                refine rl_vg (met_on rfl rfl rfl rfl) rfl rfl (S := fun _ => True) trivial (v_move rfl) ?_
                                refine rl_vg (met_on rfl rfl rfl rfl) rfl rfl (S := fun _ => True) trivial (v_eqlSame T.ptr_36 i36 rfl rfl) ?_
                                refine xV rfl rfl rfl (v_pick_true rfl rfl) ?_
                                refine xV rfl rfl rfl (v_move rfl) ?_
                                refine rl_split (s := 89) rfl (fun g19_14 => ?_) (fun g19_14 => ?_)
                                · try with_reducible exact ft_elim g19_14
                                  all_goals
                                    try replace g19_14 := of_decide_eq_true g19_14
                                    try (exfalso; omega)
                                    all_goals
                                      refine rl_vg (met_on rfl rfl rfl rfl) rfl rfl (S := fun _ => True) trivial (v_move rfl) ?_
                                      refine rl_vg (met_on rfl rfl rfl rfl) rfl rfl (S := fun _ => True) trivial (v_nilCheck rfl) ?_
                                      refine rl_vg (met_on rfl rfl rfl rfl) rfl rfl (S := fun _ => True) trivial (v_fieldAddr0 T.fld_43_1_1 rfl) ?_
                                      refine rl_vg (met_on rfl rfl rfl rfl) rfl rfl (by exact sat_cell hw (by (repeat first | with_reducible exact xH | apply xT); first | done | fail) rfl) (v_load T.scal_30 rfl) ?_
                                      refine rl_vg (met_on rfl rfl rfl rfl) rfl rfl (S := fun _ => True) trivial (v_move rfl) ?_
                                      refine rl_vg (met_on rfl rfl rfl rfl) rfl rfl (S := fun _ => True) trivial (v_eqlSame T.ptr_30 i30 rfl rfl) ?_
                                      refine xV rfl rfl rfl (v_pick_true rfl rfl) ?_
                                      refine xV rfl rfl rfl (v_move rfl) ?_
                                      refine rl_split (s := 97) rfl (fun g19_22 => ?_) (fun g19_22 => ?_)
                                      · try with_reducible exact ft_elim g19_22
                                        all_goals
                                          try replace g19_22 := of_decide_eq_true g19_22
                                          try (exfalso; omega)
                                          all_goals
                                            refine rl_vg (met_on rfl rfl rfl rfl) rfl rfl (S := fun _ => True) trivial (v_move rfl) ?_
                                            refine rl_vg (met_on rfl rfl rfl rfl) rfl rfl (S := fun _ => True) trivial (v_nilCheck rfl) ?_
                                            refine rl_vg (met_on rfl rfl rfl rfl) rfl rfl (S := fun _ => True) trivial (v_fieldAddr0 T.fld_43_2_2 rfl) ?_
                                            refine rl_vg (met_on rfl rfl rfl rfl) rfl rfl (by exact sat_cell hw (by (repeat first | with_reducible exact xH | apply xT); first | done | fail) rfl) (v_load T.scal_33 rfl) ?_
                                            refine rl_vg (met_on rfl rfl rfl rfl) rfl rfl (S := fun _ => True) trivial (v_move rfl) ?_
                                            refine rl_vg (met_on rfl rfl rfl rfl) rfl rfl (S := fun _ => True) trivial (v_eqlSame T.ptr_33 i33 rfl rfl) ?_
                                            refine xV rfl rfl rfl (v_pick_true rfl rfl) ?_
                                            refine xV rfl rfl rfl (v_move rfl) ?_
                                            refine rl_split (s := 105) rfl (fun g19_30 => ?_) (fun g19_30 => ?_)
                                            · try with_reducible exact ft_elim g19_30
                                              all_goals
                                                try replace g19_30 := of_decide_eq_true g19_30
                                                try (exfalso; omega)
                                                all_goals
                                                  refine rl_vg (met_on rfl rfl rfl rfl) rfl rfl (S := fun _ => True) trivial (v_move rfl) ?_
                                                  refine rl_vg (met_on rfl rfl rfl rfl) rfl rfl (S := fun _ => True) trivial (v_nilCheck rfl) ?_
                                                  refine rl_vg (met_on rfl rfl rfl rfl) rfl rfl (S := fun _ => True) trivial (v_fieldAddr0 T.fld_43_0_0 rfl) ?_
                                                  refine rl_vg (met_on rfl rfl rfl rfl) rfl rfl (by exact sat_cell hw (by (repeat first | with_reducible exact xH | apply xT); first | done | fail) rfl) (v_load T.scal_36 rfl) ?_
                                                  refine rl_vg (met_on rfl rfl rfl rfl) rfl rfl (S := fun _ => True) trivial (v_nilCheck rfl) ?_
                                                  refine rl_vg (met_on rfl rfl rfl rfl) rfl rfl (S := fun _ => True) trivial (v_fieldAddr0 T.fld_47_0_0 rfl) ?_
                                                  refine rl_vg (met_on rfl rfl rfl rfl) rfl rfl (by exact sat_cell hw (by (repeat first | with_reducible exact xH | apply xT); first | done | fail) rfl) (v_load T.scal_24 rfl) ?_
                                                  refine rl_kg (met_on rfl rfl rfl rfl) (k_callf Try.func16 rfl rfl rfl rfl ?_)
                                                  refine Calls.mono (msegments_calls m p ⟨100, List.replicate (2 : Int).toNat ByteArray.empty, [], 0⟩ (hw.xP)) ?_
                                                  rintro _ w ⟨rfl, hw⟩
                                                  refine ⟨_, rfl, ?_⟩
                                                  refine rl_vg (met_on rfl rfl rfl rfl) rfl rfl (S := fun _ => True) trivial (v_eqlT rfl rfl (by rfl)) ?_
                                                  refine xV rfl rfl rfl (v_pick_true rfl rfl) ?_
                                                  refine xV rfl rfl rfl (v_move rfl) ?_
                                                  refine rl_split (s := 116) rfl (fun g19_41 => ?_) (fun g19_41 => ?_)
                                                  · try with_reducible exact ft_elim g19_41
                                                    all_goals
                                                      try replace g19_41 := of_decide_eq_true g19_41
                                                      try (exfalso; omega)
                                                      all_goals
                                                        refine rl_vg (met_on rfl rfl rfl rfl) rfl rfl (S := fun _ => True) trivial (v_move rfl) ?_
                                                        refine rl_vg (met_on rfl rfl rfl rfl) rfl rfl (S := fun _ => True) trivial (v_nilCheck rfl) ?_
                                                        refine rl_vg (met_on rfl rfl rfl rfl) rfl rfl (S := fun _ => True) trivial (v_fieldAddr0 T.fld_43_2_2 rfl) ?_
                                                        refine rl_vg (met_on rfl rfl rfl rfl) rfl rfl (by exact sat_cell hw (by (repeat first | with_reducible exact xH | apply xT); first | done | fail) rfl) (v_load T.scal_33 rfl) ?_
                                                        refine rl_kg (met_on rfl rfl rfl rfl) (k_callf Try.func17 rfl rfl rfl rfl ?_)
                                                        refine Calls.mono (taken_calls d _ _ (hw.xP)) ?_
                                                        rintro _ w ⟨rfl, hw⟩
                                                        refine ⟨_, rfl, ?_⟩
                                                        refine rl_vg (met_on rfl rfl rfl rfl) rfl rfl (S := fun _ => True) trivial (v_eqlT rfl rfl (by omega)) ?_
                                                        refine xV rfl rfl rfl (v_pick_true rfl rfl) ?_
                                                        refine xV rfl rfl rfl (v_move rfl) ?_
                                                        refine rl_split (s := 124) rfl (fun g19_49 => ?_) (fun g19_49 => ?_)
                                                        · try with_reducible exact ft_elim g19_49
                                                          all_goals
                                                            try replace g19_49 := of_decide_eq_true g19_49
                                                            try (exfalso; omega)
                                                            all_goals
                                                              refine rl_vg (met_on rfl rfl rfl rfl) rfl rfl (S := fun _ => True) trivial (v_move rfl) ?_
                                                              refine rl_vg (met_on rfl rfl rfl rfl) rfl rfl (S := fun _ => True) trivial (v_nilCheck rfl) ?_
                                                              refine rl_vg (met_on rfl rfl rfl rfl) rfl rfl (S := fun _ => True) trivial (v_fieldAddr0 T.fld_43_0_0 rfl) ?_
                                                              refine rl_vg (met_on rfl rfl rfl rfl) rfl rfl (by exact sat_cell hw (by (repeat first | with_reducible exact xH | apply xT); first | done | fail) rfl) (v_load T.scal_36 rfl) ?_
                                                              refine rl_vg (met_on rfl rfl rfl rfl) rfl rfl (S := fun _ => True) trivial (v_nilCheck rfl) ?_
                                                              refine rl_vg (met_on rfl rfl rfl rfl) rfl rfl (S := fun _ => True) trivial (v_fieldAddr0 T.fld_47_0_0 rfl) ?_
                                                              refine rl_vg (met_on rfl rfl rfl rfl) rfl rfl (by exact sat_cell hw (by (repeat first | with_reducible exact xH | apply xT); first | done | fail) rfl) (v_load T.scal_24 rfl) ?_
                                                              refine rl_vg (met_on rfl rfl rfl rfl) rfl rfl (S := fun _ => True) trivial (v_nilCheck rfl) ?_
                                                              refine rl_vg (met_on rfl rfl rfl rfl) rfl rfl (S := fun _ => True) trivial (v_fieldAddr0 T.fld_52_0_0 rfl) ?_
                                                              obtain ⟨_, g9, cap9, pa9, pc9, vs9, _, _, _, hw⟩ := md_open (hw.xP (A := MdAt m p ⟨100, List.replicate (2 : Int).toNat ByteArray.empty, [], 0⟩))
                                                              refine rl_vg (met_on rfl rfl rfl rfl) rfl rfl (by exact sat_cell hw (by (repeat first | with_reducible exact xH | apply xT); first | done | fail) rfl) (v_load T.scal_28 rfl) ?_
                                                              refine rl_kg (met_on rfl rfl rfl rfl) (k_callf Try.func18 rfl rfl rfl rfl ?_)
                                                              refine Calls.mono (on_calls p ⟨false, 0, 0⟩ (hw.xP)) ?_
                                                              rintro _ w ⟨rfl, hw⟩
                                                              refine ⟨_, rfl, ?_⟩
                                                              refine xV rfl rfl rfl (v_pick_true rfl rfl) ?_
                                                              refine xV rfl rfl rfl (v_assign rfl) ?_
                                                              refine rl_nil (g_le (xK (xS rfl (xS rfl (xS rfl (xS rfl (xS rfl (xS rfl (xS rfl (xS rfl (xS rfl (xS rfl (xS rfl (xS rfl (xS rfl (xS rfl (xS rfl (xS rfl (xS rfl (xS rfl (xS rfl (xS rfl (xS rfl (xS rfl (xS rfl (xS rfl (xS rfl (xS rfl (xS rfl (xS rfl (xS rfl (xS rfl (xS rfl (xS rfl (xS rfl (xS rfl (xS rfl (xS rfl (xS rfl (xS rfl (xS rfl (xS rfl (xS rfl (xS rfl (xS rfl (xS rfl (xS rfl (xS rfl (xS rfl (xS rfl (xS rfl (xS rfl (xS rfl (xS rfl (xS rfl (xS rfl (xS rfl (xS rfl (xS rfl (xS rfl (xS rfl (xS rfl (xS rfl (xS rfl (xS rfl (xS rfl (xS rfl (xS rfl (xS rfl (xS rfl (xS rfl (Fr.le_refl _))))))))))))))))))))))))))))))))))))))))))))))))))))))))))))))))))))))) ?_)
                                                              refine g_ret1 Try.func3 rfl rfl ?_
                                                              refine ⟨?_, hw.xQ⟩
                                                              first | rfl | simp
                                                        · try with_reducible exact tf_elim g19_49
                                                          all_goals
                                                            try replace g19_49 := of_decide_eq_false g19_49
                                                            simp at g19_49
                                                  · try with_reducible exact tf_elim g19_41
                                                    all_goals
                                                      try replace g19_41 := of_decide_eq_false g19_41
                                                      simp at g19_41
                                            · try with_reducible exact tf_elim g19_30
                                              all_goals
                                                try replace g19_30 := of_decide_eq_false g19_30
                                                simp at g19_30
                                      · try with_reducible exact tf_elim g19_22
                                        all_goals
                                          try replace g19_22 := of_decide_eq_false g19_22
                                          simp at g19_22
                                · try with_reducible exact tf_elim g19_14
                                  all_goals
                                    try replace g19_14 := of_decide_eq_false g19_14
                                    simp at g19_14
                          · try with_reducible exact tf_elim g19_6
                            all_goals
                              try replace g19_6 := of_decide_eq_false g19_6
                              simp at g19_6
                    · try with_reducible exact tf_elim g19_2
                      all_goals
                        try replace g19_2 := of_decide_eq_false g19_2
                        simp at g19_2
theorem PagesMade_law {w : World} {qcs : Array Value} {xq : Quota} {n : Int} (hq : rdArg rdQuota w (.agg qcs) xq) (hn : (Lit.int .i64 n).wf = true) :
    Law Try.prog 3 [.agg qcs, .int .i64 n] w := by
  unfold Law
  have hw := Sat.old w
  obtain ⟨q, rfl⟩ := qt_of hq
  clear hq hn
  generalize w = W at hw ⊢
  by_cases hq : q.ok
  · by_cases h0 : n = 0
    · exact PagesMade_L hq h0 hw
    · by_cases h1 : n = 1
      · exact PagesMade_C hq h1 hw
      · by_cases h2 : n = 2
        · exact PagesMade_D hq h2 hw
        · exact PagesMade_G hq (by omega) hw
  · exact PagesMade_bad hq hw

set_option maxRecDepth 100000 in
theorem PagesMade_lifted (os : Os) (started : os.Started) (H : Type) (enc : TypeId × Value → H) :
    ReturnsInHanded {} Try.checked os 3 .any (Rows.pagesMadeSpec.pre6 enc Try.prog Try.f3 Rows.pagesMadeRow.domain false) (Rows.pagesMadeSpec.post enc Try.prog Try.f3 false true false false) := by
  refine returnsInHanded_of_change_sized (C := Try.checked) T.own started (by kernel_rfl) Try.func3
    (ChangeSpec.witness6 (enc := enc) (C := Try.checked) false ⟨#[], #[(.agg #[(.int .i64 0), (.int .i64 0), (.int .i64 0), (.int .i64 0), (.int .i64 0), (.int .i64 0), (.int .i64 0)]), (.int .i64 0)], []⟩ 8 (by kernel_rfl) (by kernel_rfl) (by kernel_rfl) (by kernel_rfl)) ?_
  intro W base args ds gs before hval0 hW hcnd hsz0 _
  have hval : ∀ (j : Nat) t v, Try.f3.params[j]? = some t → args[j]? = some v → Value.okWide Try.prog W .any base t v := hval0
  have hW' := hW
  obtain ⟨p, q, hA0, hV, rfl, hfz, hnd⟩ := hW
  have hA : DataW.TrodAll enc Try.prog W 0 (fun _ => true) true Try.f3.params.toList args.toList ds p := hA0
  obtain ⟨rfl, rfl⟩ := trodVars_none hV
  have hsz : (DataW.weightsEach Try.prog (Try.f3.params.toList ++ []) (ds ++ [])).all (· ≤ reachBytes) = true := hsz0
  rw [List.append_nil, List.append_nil] at hsz
  rw [Try.params3] at hA hval hsz
  obtain ⟨v0, vs0, d0, ds0, p0, q0, hargs, rfl, rfl, h0, r0⟩ := trodAll_cons hA
  obtain ⟨v1, vs1, d1, ds1, p1, q1, rfl, rfl, rfl, h1, r1⟩ := trodAll_cons r0
  obtain ⟨rfl, rfl, rfl⟩ := trodAll_nil r1
  obtain rfl : args = #[v0, v1] := by cases args; simp_all
  have lt0 : ∀ x ∈ p0, x.block < W.heap.size := by obtain ⟨m, hm⟩ := h0; exact DataW.trod_lt m _ _ _ hm
  obtain ⟨x0, w0⟩ := arg_of (j := 0) reads_Quota h0 hsz rfl rfl
  have lt1 : ∀ x ∈ p1, x.block < W.heap.size := by obtain ⟨m, hm⟩ := h1; exact DataW.trod_lt m _ _ _ hm
  obtain ⟨x1, w1⟩ := arg_of (j := 1) (reads_int T.int_3_i64) h1 hsz rfl rfl
  obtain ⟨cs0, rfl⟩ := okWide_agg T.agg_23_7 (hval 0 23 v0 rfl rfl)
  obtain ⟨n1, rfl⟩ := okWide_int Try.underlying3 (hval 1 3 v1 rfl rfl)
  obtain ⟨hc1, hr1⟩ := w1
  cases hc1
  refine (PagesMade_law w0 hr1).mono fun e W' ⟨he, hb⟩ => ?_
  have bel := hb.below
  subst he
  exact ⟨_, rfl, _, _, _, [], _, [], hW', trodAll_mk1 (shut_bool Try.underlying4 _), (trodAll_cons_mk (Below.trod T.laidOut (by kernel_rfl) (of_decide_eq_true (by kernel_rfl)) h0 bel lt0) (trodAll_cons_mk (Below.trod T.laidOut (by kernel_rfl) (of_decide_eq_true (by kernel_rfl)) h1 bel lt1) trodAll_mk0)), rfl, bel.frame _, fun h => by cases h⟩
theorem PagesMade_holds : Rows.PagesMadeSaid :=
  OpenClaim.holds_of_wide 3 Try.f3 rfl rfl rfl rfl rfl rfl rfl ⟨rfl, rfl, rfl, rfl, rfl⟩ rfl rfl rfl rfl rfl (by kernel_rfl) Try.func3 (by kernel_rfl)
    (of_decide_eq_true (by kernel_rfl)) (by unfold Func.isWrapper; rw [if_neg (of_decide_eq_false (by kernel_rfl))]; exact ⟨rfl, rfl⟩)
    (fun os started H enc _ => PagesMade_lifted os started H enc)
#print axioms PagesMade_holds
end Go.Proofs.Ytipdklbedpkobaa
