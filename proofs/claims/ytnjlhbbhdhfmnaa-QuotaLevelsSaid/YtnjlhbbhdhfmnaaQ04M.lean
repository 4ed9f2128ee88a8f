/-
  The statements of layer 4 (quota), further.
-/
import Derived.Test.YtnjlhbbhdhfmnaaQ04L
namespace Go.Proofs.Ytnjlhbbhdhfmnaa
set_option linter.unusedSimpArgs false
set_option linter.unusedVariables false
open Go Xe Go.Lib Go.RowKit Go.ChangeShapes Go.WideShapes Go.ChangeAt
theorem p2_lev {l s : Int} (hl : l = max 1 (s / 2)) (h1 : 1 ≤ s) (h2 : s ≤ 64) : (lev l = 1 ∨ (2 : Int) ^ (lev l).toNat ≤ s) ∧ s < 2 * (2 : Int) ^ (lev l).toNat ∧ 1 ≤ (2 : Int) ^ (lev l).toNat ∧ (2 : Int) ^ (lev l).toNat ≤ 64 := by
  unfold lev
  split
  · simp; omega
  split
  · simp; omega
  split
  · simp; omega
  split
  · simp; omega
  split
  · simp; omega
  · simp; omega
theorem p2_step {i : Int} (h0 : 0 ≤ i) (h1 : i < 6) : (2 : Int) ^ (i + 1).toNat = (2 : Int) ^ i.toNat * 2 ∧ (1 : Int) ≤ 2 ^ i.toNat ∧ (2 : Int) ^ i.toNat ≤ 32 := by
  have h : i = 0 ∨ i = 1 ∨ i = 2 ∨ i = 3 ∨ i = 4 ∨ i = 5 := by omega
  rcases h with rfl | rfl | rfl | rfl | rfl | rfl <;> decide
theorem QuotaLevels_law {w : World} {cs : Array Value} {x : Quota} (hr : rdArg rdQuota w (.agg cs) x) : Law Try.prog 4 [.agg cs] w := by
  unfold Law
  have hw := Sat.old w
  obtain ⟨q, rfl⟩ := qt_of hr
  generalize w = W at hw ⊢
  by_cases hq : q.ok
  · have hd := decide_eq_true hq
    have e1 : q.livePages = 2 * q.leaves - 1 := if_pos hq
    have e2 : q.opPages = 3 * (q.levels + 1) := if_pos hq
    have e3 : q.levels = lev q.leaves := if_pos hq
    have b1 := Qt.leaves_bounds hq
    have b2 := lev_bounds q.leaves
    obtain ⟨b3, _⟩ := id hq
    have b4 := p2_lev (l := q.leaves) (s := q.s) rfl b3.1 b3.2
    have b5 : q.leaves = max 1 (q.s / 2) := rfl
    rw [← e3] at b4 b2
    obtain ⟨m, hm⟩ : ∃ m : Int, (2 : Int) ^ q.levels.toNat = m := ⟨_, rfl⟩
    rw [hm] at b4
    refine calls_of_g (n := 65) Try.func4 rfl rfl rfl ?_
    change G _ _ _ _ _ [(0, _)] _
    refine g_seq ?_
    refine g_region ?_
    refine rl_k rfl (k_box hw rfl rfl rfl (fun blk w hw => ?_))
    refine rl_v rfl rfl rfl (S := fun _ => True) trivial (v_assign rfl) ?_
    refine rl_nil (g_le (Fr.le_keep (Fr.le_keep (Fr.le_refl _))) ?_)
    refine g_seq (g_seq ?_)
    refine g_region ?_
    refine rl_v rfl rfl rfl (by first | exact sat_cells hw (by (repeat (first | with_reducible exact Pick.here _ | apply Pick.there)); first | done | fail) ⟨rfl, rfl, rfl, rfl, rfl, rfl, rfl, trivial⟩ | exact old_cells hw (by (repeat (first | with_reducible exact Pick.here _ | apply Pick.there)); first | done | fail) (by assumption)) (v_loadAgg (vs := [_, _, _, _, _, _, _]) T.agg_23_7 rfl rfl) ?_
    refine rl_k rfl (k_callf Try.func9 rfl rfl rfl rfl ?_)
    refine Calls.mono (rright_calls q hw) ?_
    rw [hd]
    rintro _ w ⟨rfl, hw⟩
    refine ⟨_, rfl, ?_⟩
    refine rl_v rfl rfl rfl (S := fun _ => True) trivial (v_not rfl) ?_
    refine rl_nil (g_le (Fr.le_keep (Fr.le_skip rfl (Fr.le_skip rfl (Fr.le_refl _)))) ?_)
    refine g_cond_false rfl ?_
    refine g_skip (g_seq ?_)
    refine g_region ?_
    refine rl_v rfl rfl rfl (by first | exact sat_cells hw (by (repeat (first | with_reducible exact Pick.here _ | apply Pick.there)); first | done | fail) ⟨rfl, rfl, rfl, rfl, rfl, rfl, rfl, trivial⟩ | exact old_cells hw (by (repeat (first | with_reducible exact Pick.here _ | apply Pick.there)); first | done | fail) (by assumption)) (v_loadAgg (vs := [_, _, _, _, _, _, _]) T.agg_23_7 rfl rfl) ?_
    refine rl_k rfl (k_callf Try.func10 rfl rfl rfl rfl ?_)
    refine Calls.mono (levels_calls q hw) ?_
    rintro _ w ⟨rfl, hw⟩
    refine ⟨_, rfl, ?_⟩
    refine rl_v rfl rfl rfl (S := fun _ => True) trivial (v_assign rfl) ?_
    refine rl_nil (g_le (Fr.le_keep (Fr.le_skip rfl (Fr.le_skip rfl (Fr.le_refl _)))) ?_)
    refine g_seq (g_seq ?_)
    refine g_region ?_
    refine rl_v rfl rfl rfl (S := fun _ => True) trivial (v_move rfl) ?_
    first | (refine rl_v rfl rfl rfl (S := fun _ => True) trivial (v_lssT rfl rfl (by omega)) ?_) | (refine rl_v rfl rfl rfl (S := fun _ => True) trivial (v_lssF rfl rfl (by omega)) ?_) | (refine rl_v rfl rfl rfl (S := fun _ => True) trivial (v_lss rfl rfl) ?_)
    refine rl_v rfl rfl rfl (S := fun _ => True) trivial (v_move rfl) ?_
    first | (refine rl_vg (met_on rfl rfl rfl rfl) rfl rfl (S := fun _ => True) trivial (v_move rfl) ?_) | (refine rl_off (by first | exact met_off rfl rfl rfl rfl rfl | exact met_gone rfl rfl rfl rfl) rfl rfl ?_)
    first | (refine rl_vg (met_on rfl rfl rfl rfl) rfl rfl (S := fun _ => True) trivial (v_gtrT rfl rfl (by omega)) ?_) | (refine rl_vg (met_on rfl rfl rfl rfl) rfl rfl (S := fun _ => True) trivial (v_gtrF rfl rfl (by omega)) ?_) | (refine rl_vg (met_on rfl rfl rfl rfl) rfl rfl (S := fun _ => True) trivial (v_gtr rfl rfl) ?_) | (refine rl_off (by first | exact met_off rfl rfl rfl rfl rfl | exact met_gone rfl rfl rfl rfl) rfl rfl ?_)
    first | (refine rl_v rfl rfl rfl (S := fun _ => True) trivial (v_pick_true rfl rfl) ?_) | (refine rl_v rfl rfl rfl (S := fun _ => True) trivial (v_pick_false rfl rfl) ?_) | (refine rl_v rfl rfl rfl (S := fun _ => True) trivial (v_pick rfl rfl rfl) ?_)
    refine rl_nil (g_le (Fr.le_keep (Fr.le_skip rfl (Fr.le_skip rfl (Fr.le_skip rfl (Fr.le_skip rfl (Fr.le_skip rfl (Fr.le_refl _))))))) ?_)
    refine g_cond_false rfl ?_
    refine g_skip (g_seq ?_)
    refine g_region ?_
    refine rl_v rfl rfl rfl (S := fun _ => True) trivial (v_assign rfl) ?_
    refine rl_nil (g_le (Fr.le_keep (Fr.le_refl _)) ?_)
    refine g_seq (g_seq ?_)
    refine g_region ?_
    refine rl_v rfl rfl rfl (S := fun _ => True) trivial (v_assign rfl) ?_
    refine rl_nil (g_le (Fr.le_keep (Fr.le_refl _)) ?_)
    refine g_block ?_
    refine g_loop (σ := Int) (fun x => [(5, .int .i64 x), (4, .int .i64 (2 ^ x.toNat)), (1, _), (2, _), (3, _)]) (fun x w => 0 ≤ x ∧ x ≤ q.levels ∧ Sat (envOf W) w [QtAt blk q, Old W]) (fun x => (q.levels - x).toNat) ?_ 0 (by repeat (first | exact Fr.le_nil _ | refine Fr.le_cons rfl ?_)) ⟨by omega, by omega, hw.sub (by (repeat (first | with_reducible exact Sub.refl _ | exact Sub.nil _ | (apply Sub.cons; focus ((repeat (first | with_reducible exact Pick.here _ | apply Pick.there)); (first | done | fail))) | with_reducible apply Sub.drop)); first | done | fail)⟩
    rintro i w ⟨hi0, hi1, hw⟩ ih
    refine g_seq (g_seq ?_)
    refine g_region ?_
    refine rl_v rfl rfl rfl (S := fun _ => True) trivial (v_move rfl) ?_
    refine rl_v rfl rfl rfl (S := fun _ => True) trivial (v_move rfl) ?_
    first | (refine rl_v rfl rfl rfl (S := fun _ => True) trivial (v_lssT rfl rfl (by omega)) ?_) | (refine rl_v rfl rfl rfl (S := fun _ => True) trivial (v_lssF rfl rfl (by omega)) ?_) | (refine rl_v rfl rfl rfl (S := fun _ => True) trivial (v_lss rfl rfl) ?_)
    refine rl_nil (g_le (Fr.le_keep (Fr.le_keep (Fr.le_keep (Fr.le_refl _)))) ?_)
    refine g_cond rfl (fun h3 => ?_) (fun h3 => ?_)
    · try with_reducible exact ft_elim h3
      all_goals
        try replace h3 := of_decide_eq_true h3
        have hp := p2_step hi0 (by omega)
        try (first | (exfalso; omega))
        all_goals
          refine g_skip (g_seq (g_block ?_))
          refine g_region ?_
          refine rl_v rfl rfl rfl (S := fun _ => True) trivial (v_move rfl) ?_
          first | (refine rl_v rfl rfl rfl (S := fun _ => True) trivial (v_mul rfl rfl (by omega)) ?_) | (refine rl_v rfl rfl rfl (S := fun _ => True) trivial (v_mulW rfl rfl) ?_)
          refine rl_v rfl rfl rfl (S := fun _ => True) trivial (v_assign rfl) ?_
          refine rl_nil (g_le (Fr.le_keep (Fr.le_keep (Fr.le_keep (Fr.le_refl _)))) ?_)
          refine g_inBlock ?_
          refine g_region ?_
          refine rl_v rfl rfl rfl (S := fun _ => True) trivial (v_move rfl) ?_
          first | (refine rl_v rfl rfl rfl (S := fun _ => True) trivial (v_add rfl rfl (by omega)) ?_) | (refine rl_v rfl rfl rfl (S := fun _ => True) trivial (v_addW rfl rfl) ?_)
          refine rl_v rfl rfl rfl (S := fun _ => True) trivial (v_assign rfl) ?_
          refine rl_nil (g_le (Fr.le_keep (Fr.le_keep (Fr.le_keep (Fr.le_refl _)))) ?_)
          rw [← hp.1]
          exact g_le (by repeat (first | exact Fr.le_nil _ | refine Fr.le_cons rfl ?_)) (ih (i + 1) w ⟨by omega, by omega, hw⟩ (by omega))
    · try with_reducible exact tf_elim h3
      all_goals
        try replace h3 := of_decide_eq_false h3
        have hi : i = q.levels := by omega
        subst hi
        try (first | (exfalso; omega))
        all_goals
          refine g_exit rfl (g_seq ?_)
          refine g_region ?_
          refine rl_v rfl rfl rfl (by first | exact sat_cells hw (by (repeat (first | with_reducible exact Pick.here _ | apply Pick.there)); first | done | fail) ⟨rfl, rfl, rfl, rfl, rfl, rfl, rfl, trivial⟩ | exact old_cells hw (by (repeat (first | with_reducible exact Pick.here _ | apply Pick.there)); first | done | fail) (by assumption)) (v_loadAgg (vs := [_, _, _, _, _, _, _]) T.agg_23_7 rfl rfl) ?_
          refine rl_k rfl (k_callf Try.func11 rfl rfl rfl rfl ?_)
          refine Calls.mono (livePages_calls q hw) ?_
          rintro _ w ⟨rfl, hw⟩
          refine ⟨_, rfl, ?_⟩
          refine rl_v rfl rfl rfl (S := fun _ => True) trivial (v_assign rfl) ?_
          refine rl_nil (g_le (Fr.le_keep (Fr.le_skip rfl (Fr.le_skip rfl (Fr.le_refl _)))) ?_)
          refine g_seq ?_
          rw [hm]
          refine g_region ?_
          refine rl_v rfl rfl rfl (S := fun _ => True) trivial (v_move rfl) ?_
          first | (refine rl_v rfl rfl rfl (S := fun _ => True) trivial (v_eqlT rfl rfl (by first | omega | rfl)) ?_) | (refine rl_v rfl rfl rfl (S := fun _ => True) trivial (v_eqlF rfl rfl (by omega)) ?_) | (refine rl_v rfl rfl rfl (S := fun _ => True) trivial (v_eql rfl rfl) ?_)
          refine rl_v rfl rfl rfl (S := fun _ => True) trivial (v_move rfl) ?_
          refine rl_split (s := 32) rfl (fun g12_2 => ?_) (fun g12_2 => ?_)
          · try with_reducible exact ft_elim g12_2
            all_goals
              try replace g12_2 := of_decide_eq_true g12_2
              try (first | (exfalso; omega))
              all_goals
                refine rl_off (met_off rfl rfl rfl rfl rfl) rfl rfl ?_
                refine rl_off (met_off rfl rfl rfl rfl rfl) rfl rfl ?_
                refine rl_off (met_off rfl rfl rfl rfl rfl) rfl rfl ?_
                refine rl_off (met_off rfl rfl rfl rfl rfl) rfl rfl ?_
                first | (refine rl_v rfl rfl rfl (S := fun _ => True) trivial (v_pick_true rfl rfl) ?_) | (refine rl_v rfl rfl rfl (S := fun _ => True) trivial (v_pick_false rfl rfl) ?_) | (refine rl_v rfl rfl rfl (S := fun _ => True) trivial (v_pick rfl rfl rfl) ?_)
                refine rl_v rfl rfl rfl (S := fun _ => True) trivial (v_move rfl) ?_
                refine rl_vg (met_on rfl rfl rfl rfl) rfl rfl (S := fun _ => True) trivial (v_move rfl) ?_
                first | (refine rl_vg (met_on rfl rfl rfl rfl) rfl rfl (S := fun _ => True) trivial (v_mul rfl rfl (by omega)) ?_) | (refine rl_vg (met_on rfl rfl rfl rfl) rfl rfl (S := fun _ => True) trivial (v_mulW rfl rfl) ?_)
                first | (refine rl_vg (met_on rfl rfl rfl rfl) rfl rfl (S := fun _ => True) trivial (v_fieldAddr0 T.fld_23_0_0 rfl) ?_) | (refine rl_vg (met_on rfl rfl rfl rfl) rfl rfl (S := fun _ => True) trivial (v_fieldAddr T.fld_23_0_0 rfl) ?_)
                refine rl_vg (met_on rfl rfl rfl rfl) rfl rfl (by first | exact sat_cell hw (by (repeat (first | with_reducible exact Pick.here _ | apply Pick.there)); first | done | fail) rfl | exact own_cell hw (by (repeat (first | with_reducible exact Pick.here _ | apply Pick.there)); first | done | fail) (by first | rfl | assumption) | exact old_cell hw (by (repeat (first | with_reducible exact Pick.here _ | apply Pick.there)); first | done | fail) (by assumption) | assumption) (v_load T.scal_3 rfl) ?_
                first | (refine rl_vg (met_on rfl rfl rfl rfl) rfl rfl (S := fun _ => True) trivial (v_gtrT rfl rfl (by omega)) ?_) | (refine rl_vg (met_on rfl rfl rfl rfl) rfl rfl (S := fun _ => True) trivial (v_gtrF rfl rfl (by omega)) ?_) | (refine rl_vg (met_on rfl rfl rfl rfl) rfl rfl (S := fun _ => True) trivial (v_gtr rfl rfl) ?_)
                first | (refine rl_v rfl rfl rfl (S := fun _ => True) trivial (v_pick_true rfl rfl) ?_) | (refine rl_v rfl rfl rfl (S := fun _ => True) trivial (v_pick_false rfl rfl) ?_) | (refine rl_v rfl rfl rfl (S := fun _ => True) trivial (v_pick rfl rfl rfl) ?_)
                refine rl_v rfl rfl rfl (S := fun _ => True) trivial (v_move rfl) ?_
                refine rl_split (s := 45) rfl (fun g12_15 => ?_) (fun g12_15 => ?_)
                · try with_reducible exact ft_elim g12_15
                  all_goals
                    try replace g12_15 := of_decide_eq_true g12_15
                    try (first | (exfalso; omega))
                    all_goals
                      refine rl_vg (met_on rfl rfl rfl rfl) rfl rfl (S := fun _ => True) trivial (v_move rfl) ?_
                      first | (refine rl_vg (met_on rfl rfl rfl rfl) rfl rfl (S := fun _ => True) trivial (v_geqT rfl rfl (by omega)) ?_) | (refine rl_vg (met_on rfl rfl rfl rfl) rfl rfl (S := fun _ => True) trivial (v_geqF rfl rfl (by omega)) ?_) | (refine rl_vg (met_on rfl rfl rfl rfl) rfl rfl (S := fun _ => True) trivial (v_geq rfl rfl) ?_)
                      first | (refine rl_v rfl rfl rfl (S := fun _ => True) trivial (v_pick_true rfl rfl) ?_) | (refine rl_v rfl rfl rfl (S := fun _ => True) trivial (v_pick_false rfl rfl) ?_) | (refine rl_v rfl rfl rfl (S := fun _ => True) trivial (v_pick rfl rfl rfl) ?_)
                      refine rl_v rfl rfl rfl (S := fun _ => True) trivial (v_move rfl) ?_
                      refine rl_split (s := 49) rfl (fun g12_19 => ?_) (fun g12_19 => ?_)
                      · try with_reducible exact ft_elim g12_19
                        all_goals
                          try replace g12_19 := of_decide_eq_true g12_19
                          try (first | (exfalso; omega))
                          all_goals
                            refine rl_vg (met_on rfl rfl rfl rfl) rfl rfl (S := fun _ => True) trivial (v_move rfl) ?_
                            first | (refine rl_vg (met_on rfl rfl rfl rfl) rfl rfl (S := fun _ => True) trivial (v_fieldAddr0 T.fld_23_0_0 rfl) ?_) | (refine rl_vg (met_on rfl rfl rfl rfl) rfl rfl (S := fun _ => True) trivial (v_fieldAddr T.fld_23_0_0 rfl) ?_)
                            refine rl_vg (met_on rfl rfl rfl rfl) rfl rfl (by first | exact sat_cell hw (by (repeat (first | with_reducible exact Pick.here _ | apply Pick.there)); first | done | fail) rfl | exact own_cell hw (by (repeat (first | with_reducible exact Pick.here _ | apply Pick.there)); first | done | fail) (by first | rfl | assumption) | exact old_cell hw (by (repeat (first | with_reducible exact Pick.here _ | apply Pick.there)); first | done | fail) (by assumption) | assumption) (v_load T.scal_3 rfl) ?_
                            first | (refine rl_vg (met_on rfl rfl rfl rfl) rfl rfl (S := fun _ => True) trivial (v_sub rfl rfl (by omega)) ?_) | (refine rl_vg (met_on rfl rfl rfl rfl) rfl rfl (S := fun _ => True) trivial (v_subW rfl rfl) ?_)
                            refine rl_vg (met_on rfl rfl rfl rfl) rfl rfl (S := fun _ => True) trivial (v_max rfl rfl) ?_
                            first | (refine rl_vg (met_on rfl rfl rfl rfl) rfl rfl (S := fun _ => True) trivial (v_leqT rfl rfl (by omega)) ?_) | (refine rl_vg (met_on rfl rfl rfl rfl) rfl rfl (S := fun _ => True) trivial (v_leqF rfl rfl (by omega)) ?_) | (refine rl_vg (met_on rfl rfl rfl rfl) rfl rfl (S := fun _ => True) trivial (v_leq rfl rfl) ?_)
                            first | (refine rl_v rfl rfl rfl (S := fun _ => True) trivial (v_pick_true rfl rfl) ?_) | (refine rl_v rfl rfl rfl (S := fun _ => True) trivial (v_pick_false rfl rfl) ?_) | (refine rl_v rfl rfl rfl (S := fun _ => True) trivial (v_pick rfl rfl rfl) ?_)
                            refine rl_v rfl rfl rfl (S := fun _ => True) trivial (v_move rfl) ?_
                            refine rl_split (s := 57) rfl (fun g12_27 => ?_) (fun g12_27 => ?_)
                            · try with_reducible exact ft_elim g12_27
                              all_goals
                                try replace g12_27 := of_decide_eq_true g12_27
                                try (first | (exfalso; omega))
                                all_goals
                                  refine rl_vg (met_on rfl rfl rfl rfl) rfl rfl (by first | exact sat_cells hw (by (repeat (first | with_reducible exact Pick.here _ | apply Pick.there)); first | done | fail) ⟨rfl, rfl, rfl, rfl, rfl, rfl, rfl, trivial⟩ | exact old_cells hw (by (repeat (first | with_reducible exact Pick.here _ | apply Pick.there)); first | done | fail) (by assumption)) (v_loadAgg (vs := [_, _, _, _, _, _, _]) T.agg_23_7 rfl rfl) ?_
                                  refine rl_kg (met_on rfl rfl rfl rfl) (k_callf Try.func12 rfl rfl rfl rfl ?_)
                                  refine Calls.mono (opPages_calls q hw) ?_
                                  rintro _ w ⟨rfl, hw⟩
                                  refine ⟨_, rfl, ?_⟩
                                  refine rl_vg (met_on rfl rfl rfl rfl) rfl rfl (S := fun _ => True) trivial (v_move rfl) ?_
                                  first | (refine rl_vg (met_on rfl rfl rfl rfl) rfl rfl (S := fun _ => True) trivial (v_add rfl rfl (by omega)) ?_) | (refine rl_vg (met_on rfl rfl rfl rfl) rfl rfl (S := fun _ => True) trivial (v_addW rfl rfl) ?_)
                                  first | (refine rl_vg (met_on rfl rfl rfl rfl) rfl rfl (S := fun _ => True) trivial (v_mul rfl rfl (by omega)) ?_) | (refine rl_vg (met_on rfl rfl rfl rfl) rfl rfl (S := fun _ => True) trivial (v_mulW rfl rfl) ?_)
                                  first | (refine rl_vg (met_on rfl rfl rfl rfl) rfl rfl (S := fun _ => True) trivial (v_eqlT rfl rfl (by first | omega | rfl)) ?_) | (refine rl_vg (met_on rfl rfl rfl rfl) rfl rfl (S := fun _ => True) trivial (v_eqlF rfl rfl (by omega)) ?_) | (refine rl_vg (met_on rfl rfl rfl rfl) rfl rfl (S := fun _ => True) trivial (v_eql rfl rfl) ?_)
                                  first | (refine rl_v rfl rfl rfl (S := fun _ => True) trivial (v_pick_true rfl rfl) ?_) | (refine rl_v rfl rfl rfl (S := fun _ => True) trivial (v_pick_false rfl rfl) ?_) | (refine rl_v rfl rfl rfl (S := fun _ => True) trivial (v_pick rfl rfl rfl) ?_)
                                  refine rl_v rfl rfl rfl (S := fun _ => True) trivial (v_assign rfl) ?_
                                  refine rl_nil (g_le (Fr.le_keep (Fr.le_skip rfl (Fr.le_skip rfl (Fr.le_skip rfl (Fr.le_skip rfl (Fr.le_skip rfl (Fr.le_skip rfl (Fr.le_skip rfl (Fr.le_skip rfl (Fr.le_skip rfl (Fr.le_skip rfl (Fr.le_skip rfl (Fr.le_skip rfl (Fr.le_skip rfl (Fr.le_skip rfl (Fr.le_skip rfl (Fr.le_skip rfl (Fr.le_skip rfl (Fr.le_skip rfl (Fr.le_skip rfl (Fr.le_skip rfl (Fr.le_skip rfl (Fr.le_skip rfl (Fr.le_skip rfl (Fr.le_skip rfl (Fr.le_skip rfl (Fr.le_skip rfl (Fr.le_skip rfl (Fr.le_skip rfl (Fr.le_skip rfl (Fr.le_skip rfl (Fr.le_skip rfl (Fr.le_skip rfl (Fr.le_skip rfl (Fr.le_skip rfl (Fr.le_skip rfl (Fr.le_skip rfl (Fr.le_skip rfl (Fr.le_skip rfl (Fr.le_skip rfl (Fr.le_refl _))))))))))))))))))))))))))))))))))))))))) ?_)
                                  refine g_ret1 Try.func4 rfl rfl ?_
                                  exact ⟨rfl, hw.sub (by (repeat (first | with_reducible exact Sub.refl _ | exact Sub.nil _ | (apply Sub.cons; focus ((repeat (first | with_reducible exact Pick.here _ | apply Pick.there)); (first | done | fail))) | with_reducible apply Sub.drop)); first | done | fail)⟩
                            · try with_reducible exact tf_elim g12_27
                              all_goals
                                try replace g12_27 := of_decide_eq_false g12_27
                                try (first | (exfalso; omega))
                                all_goals
                                  refine rl_off (met_off rfl rfl rfl rfl rfl) rfl rfl ?_
                                  refine rl_off (met_off rfl rfl rfl rfl rfl) rfl rfl ?_
                                  refine rl_off (met_off rfl rfl rfl rfl rfl) rfl rfl ?_
                                  refine rl_off (met_off rfl rfl rfl rfl rfl) rfl rfl ?_
                                  refine rl_off (met_off rfl rfl rfl rfl rfl) rfl rfl ?_
                                  refine rl_off (met_off rfl rfl rfl rfl rfl) rfl rfl ?_
                                  first | (refine rl_v rfl rfl rfl (S := fun _ => True) trivial (v_pick_true rfl rfl) ?_) | (refine rl_v rfl rfl rfl (S := fun _ => True) trivial (v_pick_false rfl rfl) ?_) | (refine rl_v rfl rfl rfl (S := fun _ => True) trivial (v_pick rfl rfl rfl) ?_)
                                  refine rl_v rfl rfl rfl (S := fun _ => True) trivial (v_assign rfl) ?_
                                  refine rl_nil (g_le (Fr.le_keep (Fr.le_skip rfl (Fr.le_skip rfl (Fr.le_skip rfl (Fr.le_skip rfl (Fr.le_skip rfl (Fr.le_skip rfl (Fr.le_skip rfl (Fr.le_skip rfl (Fr.le_skip rfl (Fr.le_skip rfl (Fr.le_skip rfl (Fr.le_skip rfl (Fr.le_skip rfl (Fr.le_skip rfl (Fr.le_skip rfl (Fr.le_skip rfl (Fr.le_skip rfl (Fr.le_skip rfl (Fr.le_skip rfl (Fr.le_skip rfl (Fr.le_skip rfl (Fr.le_skip rfl (Fr.le_skip rfl (Fr.le_skip rfl (Fr.le_skip rfl (Fr.le_skip rfl (Fr.le_skip rfl (Fr.le_skip rfl (Fr.le_skip rfl (Fr.le_skip rfl (Fr.le_skip rfl (Fr.le_skip rfl (Fr.le_skip rfl (Fr.le_skip rfl (Fr.le_skip rfl (Fr.le_skip rfl (Fr.le_skip rfl (Fr.le_skip rfl (Fr.le_skip rfl (Fr.le_refl _))))))))))))))))))))))))))))))))))))))))) ?_)
                                  refine g_ret1 Try.func4 rfl rfl ?_
                                  exact ⟨rfl, hw.sub (by (repeat (first | with_reducible exact Sub.refl _ | exact Sub.nil _ | (apply Sub.cons; focus ((repeat (first | with_reducible exact Pick.here _ | apply Pick.there)); (first | done | fail))) | with_reducible apply Sub.drop)); first | done | fail)⟩
                      · try with_reducible exact tf_elim g12_19
                        all_goals
                          try replace g12_19 := of_decide_eq_false g12_19
                          try (first | (exfalso; omega))
                          all_goals
                            refine rl_off (met_off rfl rfl rfl rfl rfl) rfl rfl ?_
                            refine rl_off (met_off rfl rfl rfl rfl rfl) rfl rfl ?_
                            refine rl_off (met_off rfl rfl rfl rfl rfl) rfl rfl ?_
                            refine rl_off (met_off rfl rfl rfl rfl rfl) rfl rfl ?_
                            refine rl_off (met_off rfl rfl rfl rfl rfl) rfl rfl ?_
                            refine rl_off (met_off rfl rfl rfl rfl rfl) rfl rfl ?_
                            first | (refine rl_v rfl rfl rfl (S := fun _ => True) trivial (v_pick_true rfl rfl) ?_) | (refine rl_v rfl rfl rfl (S := fun _ => True) trivial (v_pick_false rfl rfl) ?_) | (refine rl_v rfl rfl rfl (S := fun _ => True) trivial (v_pick rfl rfl rfl) ?_)
                            refine rl_v rfl rfl rfl (S := fun _ => True) trivial (v_move rfl) ?_
                            refine rl_off (met_off rfl rfl rfl rfl rfl) rfl rfl ?_
                            refine rl_off (met_off rfl rfl rfl rfl rfl) rfl rfl ?_
                            refine rl_off (met_off rfl rfl rfl rfl rfl) rfl rfl ?_
                            refine rl_off (met_off rfl rfl rfl rfl rfl) rfl rfl ?_
                            refine rl_off (met_off rfl rfl rfl rfl rfl) rfl rfl ?_
                            refine rl_off (met_off rfl rfl rfl rfl rfl) rfl rfl ?_
                            first | (refine rl_v rfl rfl rfl (S := fun _ => True) trivial (v_pick_true rfl rfl) ?_) | (refine rl_v rfl rfl rfl (S := fun _ => True) trivial (v_pick_false rfl rfl) ?_) | (refine rl_v rfl rfl rfl (S := fun _ => True) trivial (v_pick rfl rfl rfl) ?_)
                            refine rl_v rfl rfl rfl (S := fun _ => True) trivial (v_assign rfl) ?_
                            refine rl_nil (g_le (Fr.le_keep (Fr.le_skip rfl (Fr.le_skip rfl (Fr.le_skip rfl (Fr.le_skip rfl (Fr.le_skip rfl (Fr.le_skip rfl (Fr.le_skip rfl (Fr.le_skip rfl (Fr.le_skip rfl (Fr.le_skip rfl (Fr.le_skip rfl (Fr.le_skip rfl (Fr.le_skip rfl (Fr.le_skip rfl (Fr.le_skip rfl (Fr.le_skip rfl (Fr.le_skip rfl (Fr.le_skip rfl (Fr.le_skip rfl (Fr.le_skip rfl (Fr.le_skip rfl (Fr.le_skip rfl (Fr.le_skip rfl (Fr.le_skip rfl (Fr.le_skip rfl (Fr.le_skip rfl (Fr.le_skip rfl (Fr.le_skip rfl (Fr.le_skip rfl (Fr.le_skip rfl (Fr.le_skip rfl (Fr.le_skip rfl (Fr.le_skip rfl (Fr.le_skip rfl (Fr.le_skip rfl (Fr.le_skip rfl (Fr.le_skip rfl (Fr.le_skip rfl (Fr.le_refl _)))))))))))))))))))))))))))))))))))))))) ?_)
                            refine g_ret1 Try.func4 rfl rfl ?_
                            exact ⟨rfl, hw.sub (by (repeat (first | with_reducible exact Sub.refl _ | exact Sub.nil _ | (apply Sub.cons; focus ((repeat (first | with_reducible exact Pick.here _ | apply Pick.there)); (first | done | fail))) | with_reducible apply Sub.drop)); first | done | fail)⟩
                · try with_reducible exact tf_elim g12_15
                  all_goals
                    try replace g12_15 := of_decide_eq_false g12_15
                    try (first | (exfalso; omega))
                    all_goals
                      refine rl_off (met_off rfl rfl rfl rfl rfl) rfl rfl ?_
                      refine rl_off (met_off rfl rfl rfl rfl rfl) rfl rfl ?_
                      first | (refine rl_v rfl rfl rfl (S := fun _ => True) trivial (v_pick_true rfl rfl) ?_) | (refine rl_v rfl rfl rfl (S := fun _ => True) trivial (v_pick_false rfl rfl) ?_) | (refine rl_v rfl rfl rfl (S := fun _ => True) trivial (v_pick rfl rfl rfl) ?_)
                      refine rl_v rfl rfl rfl (S := fun _ => True) trivial (v_move rfl) ?_
                      refine rl_off (met_off rfl rfl rfl rfl rfl) rfl rfl ?_
                      refine rl_off (met_off rfl rfl rfl rfl rfl) rfl rfl ?_
                      refine rl_off (met_off rfl rfl rfl rfl rfl) rfl rfl ?_
                      refine rl_off (met_off rfl rfl rfl rfl rfl) rfl rfl ?_
                      refine rl_off (met_off rfl rfl rfl rfl rfl) rfl rfl ?_
                      refine rl_off (met_off rfl rfl rfl rfl rfl) rfl rfl ?_
                      first | (refine rl_v rfl rfl rfl (S := fun _ => True) trivial (v_pick_true rfl rfl) ?_) | (refine rl_v rfl rfl rfl (S := fun _ => True) trivial (v_pick_false rfl rfl) ?_) | (refine rl_v rfl rfl rfl (S := fun _ => True) trivial (v_pick rfl rfl rfl) ?_)
                      refine rl_v rfl rfl rfl (S := fun _ => True) trivial (v_move rfl) ?_
                      refine rl_off (met_off rfl rfl rfl rfl rfl) rfl rfl ?_
                      refine rl_off (met_off rfl rfl rfl rfl rfl) rfl rfl ?_
                      refine rl_off (met_off rfl rfl rfl rfl rfl) rfl rfl ?_
                      refine rl_off (met_off rfl rfl rfl rfl rfl) rfl rfl ?_
                      refine rl_off (met_off rfl rfl rfl rfl rfl) rfl rfl ?_
                      refine rl_off (met_off rfl rfl rfl rfl rfl) rfl rfl ?_
                      first | (refine rl_v rfl rfl rfl (S := fun _ => True) trivial (v_pick_true rfl rfl) ?_) | (refine rl_v rfl rfl rfl (S := fun _ => True) trivial (v_pick_false rfl rfl) ?_) | (refine rl_v rfl rfl rfl (S := fun _ => True) trivial (v_pick rfl rfl rfl) ?_)
                      refine rl_v rfl rfl rfl (S := fun _ => True) trivial (v_assign rfl) ?_
                      refine rl_nil (g_le (Fr.le_keep (Fr.le_skip rfl (Fr.le_skip rfl (Fr.le_skip rfl (Fr.le_skip rfl (Fr.le_skip rfl (Fr.le_skip rfl (Fr.le_skip rfl (Fr.le_skip rfl (Fr.le_skip rfl (Fr.le_skip rfl (Fr.le_skip rfl (Fr.le_skip rfl (Fr.le_skip rfl (Fr.le_skip rfl (Fr.le_skip rfl (Fr.le_skip rfl (Fr.le_skip rfl (Fr.le_skip rfl (Fr.le_skip rfl (Fr.le_skip rfl (Fr.le_skip rfl (Fr.le_skip rfl (Fr.le_skip rfl (Fr.le_skip rfl (Fr.le_skip rfl (Fr.le_skip rfl (Fr.le_skip rfl (Fr.le_skip rfl (Fr.le_skip rfl (Fr.le_skip rfl (Fr.le_skip rfl (Fr.le_skip rfl (Fr.le_skip rfl (Fr.le_skip rfl (Fr.le_skip rfl (Fr.le_skip rfl (Fr.le_skip rfl (Fr.le_refl _))))))))))))))))))))))))))))))))))))))) ?_)
                      refine g_ret1 Try.func4 rfl rfl ?_
                      exact ⟨rfl, hw.sub (by (repeat (first | with_reducible exact Sub.refl _ | exact Sub.nil _ | (apply Sub.cons; focus ((repeat (first | with_reducible exact Pick.here _ | apply Pick.there)); (first | done | fail))) | with_reducible apply Sub.drop)); first | done | fail)⟩
          · try with_reducible exact tf_elim g12_2
            all_goals
              try replace g12_2 := of_decide_eq_false g12_2
              try (first | (exfalso; omega))
              all_goals
                refine rl_vg (met_on rfl rfl rfl rfl) rfl rfl (S := fun _ => True) trivial (v_move rfl) ?_
                first | (refine rl_vg (met_on rfl rfl rfl rfl) rfl rfl (S := fun _ => True) trivial (v_fieldAddr0 T.fld_23_0_0 rfl) ?_) | (refine rl_vg (met_on rfl rfl rfl rfl) rfl rfl (S := fun _ => True) trivial (v_fieldAddr T.fld_23_0_0 rfl) ?_)
                refine rl_vg (met_on rfl rfl rfl rfl) rfl rfl (by first | exact sat_cell hw (by (repeat (first | with_reducible exact Pick.here _ | apply Pick.there)); first | done | fail) rfl | exact own_cell hw (by (repeat (first | with_reducible exact Pick.here _ | apply Pick.there)); first | done | fail) (by first | rfl | assumption) | exact old_cell hw (by (repeat (first | with_reducible exact Pick.here _ | apply Pick.there)); first | done | fail) (by assumption) | assumption) (v_load T.scal_3 rfl) ?_
                first | (refine rl_vg (met_on rfl rfl rfl rfl) rfl rfl (S := fun _ => True) trivial (v_leqT rfl rfl (by omega)) ?_) | (refine rl_vg (met_on rfl rfl rfl rfl) rfl rfl (S := fun _ => True) trivial (v_leqF rfl rfl (by omega)) ?_) | (refine rl_vg (met_on rfl rfl rfl rfl) rfl rfl (S := fun _ => True) trivial (v_leq rfl rfl) ?_)
                first | (refine rl_v rfl rfl rfl (S := fun _ => True) trivial (v_pick_true rfl rfl) ?_) | (refine rl_v rfl rfl rfl (S := fun _ => True) trivial (v_pick_false rfl rfl) ?_) | (refine rl_v rfl rfl rfl (S := fun _ => True) trivial (v_pick rfl rfl rfl) ?_)
                refine rl_v rfl rfl rfl (S := fun _ => True) trivial (v_move rfl) ?_
                refine rl_split (s := 38) rfl (fun g12_8 => ?_) (fun g12_8 => ?_)
                · try with_reducible exact ft_elim g12_8
                  all_goals
                    try replace g12_8 := of_decide_eq_true g12_8
                    try (first | (exfalso; omega))
                    all_goals
                      refine rl_vg (met_on rfl rfl rfl rfl) rfl rfl (S := fun _ => True) trivial (v_move rfl) ?_
                      first | (refine rl_vg (met_on rfl rfl rfl rfl) rfl rfl (S := fun _ => True) trivial (v_mul rfl rfl (by omega)) ?_) | (refine rl_vg (met_on rfl rfl rfl rfl) rfl rfl (S := fun _ => True) trivial (v_mulW rfl rfl) ?_)
                      first | (refine rl_vg (met_on rfl rfl rfl rfl) rfl rfl (S := fun _ => True) trivial (v_fieldAddr0 T.fld_23_0_0 rfl) ?_) | (refine rl_vg (met_on rfl rfl rfl rfl) rfl rfl (S := fun _ => True) trivial (v_fieldAddr T.fld_23_0_0 rfl) ?_)
                      refine rl_vg (met_on rfl rfl rfl rfl) rfl rfl (by first | exact sat_cell hw (by (repeat (first | with_reducible exact Pick.here _ | apply Pick.there)); first | done | fail) rfl | exact own_cell hw (by (repeat (first | with_reducible exact Pick.here _ | apply Pick.there)); first | done | fail) (by first | rfl | assumption) | exact old_cell hw (by (repeat (first | with_reducible exact Pick.here _ | apply Pick.there)); first | done | fail) (by assumption) | assumption) (v_load T.scal_3 rfl) ?_
                      first | (refine rl_vg (met_on rfl rfl rfl rfl) rfl rfl (S := fun _ => True) trivial (v_gtrT rfl rfl (by omega)) ?_) | (refine rl_vg (met_on rfl rfl rfl rfl) rfl rfl (S := fun _ => True) trivial (v_gtrF rfl rfl (by omega)) ?_) | (refine rl_vg (met_on rfl rfl rfl rfl) rfl rfl (S := fun _ => True) trivial (v_gtr rfl rfl) ?_)
                      first | (refine rl_v rfl rfl rfl (S := fun _ => True) trivial (v_pick_true rfl rfl) ?_) | (refine rl_v rfl rfl rfl (S := fun _ => True) trivial (v_pick_false rfl rfl) ?_) | (refine rl_v rfl rfl rfl (S := fun _ => True) trivial (v_pick rfl rfl rfl) ?_)
                      refine rl_v rfl rfl rfl (S := fun _ => True) trivial (v_move rfl) ?_
                      refine rl_split (s := 45) rfl (fun g12_15 => ?_) (fun g12_15 => ?_)
                      · try with_reducible exact ft_elim g12_15
                        all_goals
                          try replace g12_15 := of_decide_eq_true g12_15
                          try (first | (exfalso; omega))
                          all_goals
                            refine rl_vg (met_on rfl rfl rfl rfl) rfl rfl (S := fun _ => True) trivial (v_move rfl) ?_
                            first | (refine rl_vg (met_on rfl rfl rfl rfl) rfl rfl (S := fun _ => True) trivial (v_geqT rfl rfl (by omega)) ?_) | (refine rl_vg (met_on rfl rfl rfl rfl) rfl rfl (S := fun _ => True) trivial (v_geqF rfl rfl (by omega)) ?_) | (refine rl_vg (met_on rfl rfl rfl rfl) rfl rfl (S := fun _ => True) trivial (v_geq rfl rfl) ?_)
                            first | (refine rl_v rfl rfl rfl (S := fun _ => True) trivial (v_pick_true rfl rfl) ?_) | (refine rl_v rfl rfl rfl (S := fun _ => True) trivial (v_pick_false rfl rfl) ?_) | (refine rl_v rfl rfl rfl (S := fun _ => True) trivial (v_pick rfl rfl rfl) ?_)
                            refine rl_v rfl rfl rfl (S := fun _ => True) trivial (v_move rfl) ?_
                            refine rl_split (s := 49) rfl (fun g12_19 => ?_) (fun g12_19 => ?_)
                            · try with_reducible exact ft_elim g12_19
                              all_goals
                                try replace g12_19 := of_decide_eq_true g12_19
                                try (first | (exfalso; omega))
                                all_goals
                                  refine rl_vg (met_on rfl rfl rfl rfl) rfl rfl (S := fun _ => True) trivial (v_move rfl) ?_
                                  first | (refine rl_vg (met_on rfl rfl rfl rfl) rfl rfl (S := fun _ => True) trivial (v_fieldAddr0 T.fld_23_0_0 rfl) ?_) | (refine rl_vg (met_on rfl rfl rfl rfl) rfl rfl (S := fun _ => True) trivial (v_fieldAddr T.fld_23_0_0 rfl) ?_)
                                  refine rl_vg (met_on rfl rfl rfl rfl) rfl rfl (by first | exact sat_cell hw (by (repeat (first | with_reducible exact Pick.here _ | apply Pick.there)); first | done | fail) rfl | exact own_cell hw (by (repeat (first | with_reducible exact Pick.here _ | apply Pick.there)); first | done | fail) (by first | rfl | assumption) | exact old_cell hw (by (repeat (first | with_reducible exact Pick.here _ | apply Pick.there)); first | done | fail) (by assumption) | assumption) (v_load T.scal_3 rfl) ?_
                                  first | (refine rl_vg (met_on rfl rfl rfl rfl) rfl rfl (S := fun _ => True) trivial (v_sub rfl rfl (by omega)) ?_) | (refine rl_vg (met_on rfl rfl rfl rfl) rfl rfl (S := fun _ => True) trivial (v_subW rfl rfl) ?_)
                                  refine rl_vg (met_on rfl rfl rfl rfl) rfl rfl (S := fun _ => True) trivial (v_max rfl rfl) ?_
                                  first | (refine rl_vg (met_on rfl rfl rfl rfl) rfl rfl (S := fun _ => True) trivial (v_leqT rfl rfl (by omega)) ?_) | (refine rl_vg (met_on rfl rfl rfl rfl) rfl rfl (S := fun _ => True) trivial (v_leqF rfl rfl (by omega)) ?_) | (refine rl_vg (met_on rfl rfl rfl rfl) rfl rfl (S := fun _ => True) trivial (v_leq rfl rfl) ?_)
                                  first | (refine rl_v rfl rfl rfl (S := fun _ => True) trivial (v_pick_true rfl rfl) ?_) | (refine rl_v rfl rfl rfl (S := fun _ => True) trivial (v_pick_false rfl rfl) ?_) | (refine rl_v rfl rfl rfl (S := fun _ => True) trivial (v_pick rfl rfl rfl) ?_)
                                  refine rl_v rfl rfl rfl (S := fun _ => True) trivial (v_move rfl) ?_
                                  refine rl_split (s := 57) rfl (fun g12_27 => ?_) (fun g12_27 => ?_)
                                  · try with_reducible exact ft_elim g12_27
                                    all_goals
                                      try replace g12_27 := of_decide_eq_true g12_27
                                      try (first | (exfalso; omega))
                                      all_goals
                                        refine rl_vg (met_on rfl rfl rfl rfl) rfl rfl (by first | exact sat_cells hw (by (repeat (first | with_reducible exact Pick.here _ | apply Pick.there)); first | done | fail) ⟨rfl, rfl, rfl, rfl, rfl, rfl, rfl, trivial⟩ | exact old_cells hw (by (repeat (first | with_reducible exact Pick.here _ | apply Pick.there)); first | done | fail) (by assumption)) (v_loadAgg (vs := [_, _, _, _, _, _, _]) T.agg_23_7 rfl rfl) ?_
                                        refine rl_kg (met_on rfl rfl rfl rfl) (k_callf Try.func12 rfl rfl rfl rfl ?_)
                                        refine Calls.mono (opPages_calls q hw) ?_
                                        rintro _ w ⟨rfl, hw⟩
                                        refine ⟨_, rfl, ?_⟩
                                        refine rl_vg (met_on rfl rfl rfl rfl) rfl rfl (S := fun _ => True) trivial (v_move rfl) ?_
                                        first | (refine rl_vg (met_on rfl rfl rfl rfl) rfl rfl (S := fun _ => True) trivial (v_add rfl rfl (by omega)) ?_) | (refine rl_vg (met_on rfl rfl rfl rfl) rfl rfl (S := fun _ => True) trivial (v_addW rfl rfl) ?_)
                                        first | (refine rl_vg (met_on rfl rfl rfl rfl) rfl rfl (S := fun _ => True) trivial (v_mul rfl rfl (by omega)) ?_) | (refine rl_vg (met_on rfl rfl rfl rfl) rfl rfl (S := fun _ => True) trivial (v_mulW rfl rfl) ?_)
                                        first | (refine rl_vg (met_on rfl rfl rfl rfl) rfl rfl (S := fun _ => True) trivial (v_eqlT rfl rfl (by first | omega | rfl)) ?_) | (refine rl_vg (met_on rfl rfl rfl rfl) rfl rfl (S := fun _ => True) trivial (v_eqlF rfl rfl (by omega)) ?_) | (refine rl_vg (met_on rfl rfl rfl rfl) rfl rfl (S := fun _ => True) trivial (v_eql rfl rfl) ?_)
                                        first | (refine rl_v rfl rfl rfl (S := fun _ => True) trivial (v_pick_true rfl rfl) ?_) | (refine rl_v rfl rfl rfl (S := fun _ => True) trivial (v_pick_false rfl rfl) ?_) | (refine rl_v rfl rfl rfl (S := fun _ => True) trivial (v_pick rfl rfl rfl) ?_)
                                        refine rl_v rfl rfl rfl (S := fun _ => True) trivial (v_assign rfl) ?_
                                        refine rl_nil (g_le (Fr.le_keep (Fr.le_skip rfl (Fr.le_skip rfl (Fr.le_skip rfl (Fr.le_skip rfl (Fr.le_skip rfl (Fr.le_skip rfl (Fr.le_skip rfl (Fr.le_skip rfl (Fr.le_skip rfl (Fr.le_skip rfl (Fr.le_skip rfl (Fr.le_skip rfl (Fr.le_skip rfl (Fr.le_skip rfl (Fr.le_skip rfl (Fr.le_skip rfl (Fr.le_skip rfl (Fr.le_skip rfl (Fr.le_skip rfl (Fr.le_skip rfl (Fr.le_skip rfl (Fr.le_skip rfl (Fr.le_skip rfl (Fr.le_skip rfl (Fr.le_skip rfl (Fr.le_skip rfl (Fr.le_skip rfl (Fr.le_skip rfl (Fr.le_skip rfl (Fr.le_skip rfl (Fr.le_skip rfl (Fr.le_skip rfl (Fr.le_skip rfl (Fr.le_skip rfl (Fr.le_skip rfl (Fr.le_skip rfl (Fr.le_skip rfl (Fr.le_skip rfl (Fr.le_skip rfl (Fr.le_skip rfl (Fr.le_refl _)))))))))))))))))))))))))))))))))))))))))) ?_)
                                        refine g_ret1 Try.func4 rfl rfl ?_
                                        exact ⟨rfl, hw.sub (by (repeat (first | with_reducible exact Sub.refl _ | exact Sub.nil _ | (apply Sub.cons; focus ((repeat (first | with_reducible exact Pick.here _ | apply Pick.there)); (first | done | fail))) | with_reducible apply Sub.drop)); first | done | fail)⟩
                                  · try with_reducible exact tf_elim g12_27
                                    all_goals
                                      try replace g12_27 := of_decide_eq_false g12_27
                                      try (first | (exfalso; omega))
                                      all_goals
                                        refine rl_off (met_off rfl rfl rfl rfl rfl) rfl rfl ?_
                                        refine rl_off (met_off rfl rfl rfl rfl rfl) rfl rfl ?_
                                        refine rl_off (met_off rfl rfl rfl rfl rfl) rfl rfl ?_
                                        refine rl_off (met_off rfl rfl rfl rfl rfl) rfl rfl ?_
                                        refine rl_off (met_off rfl rfl rfl rfl rfl) rfl rfl ?_
                                        refine rl_off (met_off rfl rfl rfl rfl rfl) rfl rfl ?_
                                        first | (refine rl_v rfl rfl rfl (S := fun _ => True) trivial (v_pick_true rfl rfl) ?_) | (refine rl_v rfl rfl rfl (S := fun _ => True) trivial (v_pick_false rfl rfl) ?_) | (refine rl_v rfl rfl rfl (S := fun _ => True) trivial (v_pick rfl rfl rfl) ?_)
                                        refine rl_v rfl rfl rfl (S := fun _ => True) trivial (v_assign rfl) ?_
                                        refine rl_nil (g_le (Fr.le_keep (Fr.le_skip rfl (Fr.le_skip rfl (Fr.le_skip rfl (Fr.le_skip rfl (Fr.le_skip rfl (Fr.le_skip rfl (Fr.le_skip rfl (Fr.le_skip rfl (Fr.le_skip rfl (Fr.le_skip rfl (Fr.le_skip rfl (Fr.le_skip rfl (Fr.le_skip rfl (Fr.le_skip rfl (Fr.le_skip rfl (Fr.le_skip rfl (Fr.le_skip rfl (Fr.le_skip rfl (Fr.le_skip rfl (Fr.le_skip rfl (Fr.le_skip rfl (Fr.le_skip rfl (Fr.le_skip rfl (Fr.le_skip rfl (Fr.le_skip rfl (Fr.le_skip rfl (Fr.le_skip rfl (Fr.le_skip rfl (Fr.le_skip rfl (Fr.le_skip rfl (Fr.le_skip rfl (Fr.le_skip rfl (Fr.le_skip rfl (Fr.le_skip rfl (Fr.le_skip rfl (Fr.le_skip rfl (Fr.le_skip rfl (Fr.le_skip rfl (Fr.le_skip rfl (Fr.le_skip rfl (Fr.le_refl _)))))))))))))))))))))))))))))))))))))))))) ?_)
                                        refine g_ret1 Try.func4 rfl rfl ?_
                                        exact ⟨rfl, hw.sub (by (repeat (first | with_reducible exact Sub.refl _ | exact Sub.nil _ | (apply Sub.cons; focus ((repeat (first | with_reducible exact Pick.here _ | apply Pick.there)); (first | done | fail))) | with_reducible apply Sub.drop)); first | done | fail)⟩
                            · try with_reducible exact tf_elim g12_19
                              all_goals
                                try replace g12_19 := of_decide_eq_false g12_19
                                try (first | (exfalso; omega))
                                all_goals
                                  refine rl_off (met_off rfl rfl rfl rfl rfl) rfl rfl ?_
                                  refine rl_off (met_off rfl rfl rfl rfl rfl) rfl rfl ?_
                                  refine rl_off (met_off rfl rfl rfl rfl rfl) rfl rfl ?_
                                  refine rl_off (met_off rfl rfl rfl rfl rfl) rfl rfl ?_
                                  refine rl_off (met_off rfl rfl rfl rfl rfl) rfl rfl ?_
                                  refine rl_off (met_off rfl rfl rfl rfl rfl) rfl rfl ?_
                                  first | (refine rl_v rfl rfl rfl (S := fun _ => True) trivial (v_pick_true rfl rfl) ?_) | (refine rl_v rfl rfl rfl (S := fun _ => True) trivial (v_pick_false rfl rfl) ?_) | (refine rl_v rfl rfl rfl (S := fun _ => True) trivial (v_pick rfl rfl rfl) ?_)
                                  refine rl_v rfl rfl rfl (S := fun _ => True) trivial (v_move rfl) ?_
                                  refine rl_off (met_off rfl rfl rfl rfl rfl) rfl rfl ?_
                                  refine rl_off (met_off rfl rfl rfl rfl rfl) rfl rfl ?_
                                  refine rl_off (met_off rfl rfl rfl rfl rfl) rfl rfl ?_
                                  refine rl_off (met_off rfl rfl rfl rfl rfl) rfl rfl ?_
                                  refine rl_off (met_off rfl rfl rfl rfl rfl) rfl rfl ?_
                                  refine rl_off (met_off rfl rfl rfl rfl rfl) rfl rfl ?_
                                  first | (refine rl_v rfl rfl rfl (S := fun _ => True) trivial (v_pick_true rfl rfl) ?_) | (refine rl_v rfl rfl rfl (S := fun _ => True) trivial (v_pick_false rfl rfl) ?_) | (refine rl_v rfl rfl rfl (S := fun _ => True) trivial (v_pick rfl rfl rfl) ?_)
                                  refine rl_v rfl rfl rfl (S := fun _ => True) trivial (v_assign rfl) ?_
                                  refine rl_nil (g_le (Fr.le_keep (Fr.le_skip rfl (Fr.le_skip rfl (Fr.le_skip rfl (Fr.le_skip rfl (Fr.le_skip rfl (Fr.le_skip rfl (Fr.le_skip rfl (Fr.le_skip rfl (Fr.le_skip rfl (Fr.le_skip rfl (Fr.le_skip rfl (Fr.le_skip rfl (Fr.le_skip rfl (Fr.le_skip rfl (Fr.le_skip rfl (Fr.le_skip rfl (Fr.le_skip rfl (Fr.le_skip rfl (Fr.le_skip rfl (Fr.le_skip rfl (Fr.le_skip rfl (Fr.le_skip rfl (Fr.le_skip rfl (Fr.le_skip rfl (Fr.le_skip rfl (Fr.le_skip rfl (Fr.le_skip rfl (Fr.le_skip rfl (Fr.le_skip rfl (Fr.le_skip rfl (Fr.le_skip rfl (Fr.le_skip rfl (Fr.le_skip rfl (Fr.le_skip rfl (Fr.le_skip rfl (Fr.le_skip rfl (Fr.le_skip rfl (Fr.le_skip rfl (Fr.le_skip rfl (Fr.le_refl _))))))))))))))))))))))))))))))))))))))))) ?_)
                                  refine g_ret1 Try.func4 rfl rfl ?_
                                  exact ⟨rfl, hw.sub (by (repeat (first | with_reducible exact Sub.refl _ | exact Sub.nil _ | (apply Sub.cons; focus ((repeat (first | with_reducible exact Pick.here _ | apply Pick.there)); (first | done | fail))) | with_reducible apply Sub.drop)); first | done | fail)⟩
                      · try with_reducible exact tf_elim g12_15
                        all_goals
                          try replace g12_15 := of_decide_eq_false g12_15
                          try (first | (exfalso; omega))
                          all_goals
                            refine rl_off (met_off rfl rfl rfl rfl rfl) rfl rfl ?_
                            refine rl_off (met_off rfl rfl rfl rfl rfl) rfl rfl ?_
                            first | (refine rl_v rfl rfl rfl (S := fun _ => True) trivial (v_pick_true rfl rfl) ?_) | (refine rl_v rfl rfl rfl (S := fun _ => True) trivial (v_pick_false rfl rfl) ?_) | (refine rl_v rfl rfl rfl (S := fun _ => True) trivial (v_pick rfl rfl rfl) ?_)
                            refine rl_v rfl rfl rfl (S := fun _ => True) trivial (v_move rfl) ?_
                            refine rl_off (met_off rfl rfl rfl rfl rfl) rfl rfl ?_
                            refine rl_off (met_off rfl rfl rfl rfl rfl) rfl rfl ?_
                            refine rl_off (met_off rfl rfl rfl rfl rfl) rfl rfl ?_
                            refine rl_off (met_off rfl rfl rfl rfl rfl) rfl rfl ?_
                            refine rl_off (met_off rfl rfl rfl rfl rfl) rfl rfl ?_
                            refine rl_off (met_off rfl rfl rfl rfl rfl) rfl rfl ?_
                            first | (refine rl_v rfl rfl rfl (S := fun _ => True) trivial (v_pick_true rfl rfl) ?_) | (refine rl_v rfl rfl rfl (S := fun _ => True) trivial (v_pick_false rfl rfl) ?_) | (refine rl_v rfl rfl rfl (S := fun _ => True) trivial (v_pick rfl rfl rfl) ?_)
                            refine rl_v rfl rfl rfl (S := fun _ => True) trivial (v_move rfl) ?_
                            refine rl_off (met_off rfl rfl rfl rfl rfl) rfl rfl ?_
                            refine rl_off (met_off rfl rfl rfl rfl rfl) rfl rfl ?_
                            refine rl_off (met_off rfl rfl rfl rfl rfl) rfl rfl ?_
                            refine rl_off (met_off rfl rfl rfl rfl rfl) rfl rfl ?_
                            refine rl_off (met_off rfl rfl rfl rfl rfl) rfl rfl ?_
                            refine rl_off (met_off rfl rfl rfl rfl rfl) rfl rfl ?_
                            first | (refine rl_v rfl rfl rfl (S := fun _ => True) trivial (v_pick_true rfl rfl) ?_) | (refine rl_v rfl rfl rfl (S := fun _ => True) trivial (v_pick_false rfl rfl) ?_) | (refine rl_v rfl rfl rfl (S := fun _ => True) trivial (v_pick rfl rfl rfl) ?_)
                            refine rl_v rfl rfl rfl (S := fun _ => True) trivial (v_assign rfl) ?_
                            refine rl_nil (g_le (Fr.le_keep (Fr.le_skip rfl (Fr.le_skip rfl (Fr.le_skip rfl (Fr.le_skip rfl (Fr.le_skip rfl (Fr.le_skip rfl (Fr.le_skip rfl (Fr.le_skip rfl (Fr.le_skip rfl (Fr.le_skip rfl (Fr.le_skip rfl (Fr.le_skip rfl (Fr.le_skip rfl (Fr.le_skip rfl (Fr.le_skip rfl (Fr.le_skip rfl (Fr.le_skip rfl (Fr.le_skip rfl (Fr.le_skip rfl (Fr.le_skip rfl (Fr.le_skip rfl (Fr.le_skip rfl (Fr.le_skip rfl (Fr.le_skip rfl (Fr.le_skip rfl (Fr.le_skip rfl (Fr.le_skip rfl (Fr.le_skip rfl (Fr.le_skip rfl (Fr.le_skip rfl (Fr.le_skip rfl (Fr.le_skip rfl (Fr.le_skip rfl (Fr.le_skip rfl (Fr.le_skip rfl (Fr.le_skip rfl (Fr.le_skip rfl (Fr.le_skip rfl (Fr.le_refl _)))))))))))))))))))))))))))))))))))))))) ?_)
                            refine g_ret1 Try.func4 rfl rfl ?_
                            exact ⟨rfl, hw.sub (by (repeat (first | with_reducible exact Sub.refl _ | exact Sub.nil _ | (apply Sub.cons; focus ((repeat (first | with_reducible exact Pick.here _ | apply Pick.there)); (first | done | fail))) | with_reducible apply Sub.drop)); first | done | fail)⟩
                · try with_reducible exact tf_elim g12_8
                  all_goals
                    try replace g12_8 := of_decide_eq_false g12_8
                    try (first | (exfalso; omega))
                    all_goals
                      refine rl_off (met_off rfl rfl rfl rfl rfl) rfl rfl ?_
                      refine rl_off (met_off rfl rfl rfl rfl rfl) rfl rfl ?_
                      refine rl_off (met_off rfl rfl rfl rfl rfl) rfl rfl ?_
                      refine rl_off (met_off rfl rfl rfl rfl rfl) rfl rfl ?_
                      refine rl_off (met_off rfl rfl rfl rfl rfl) rfl rfl ?_
                      first | (refine rl_v rfl rfl rfl (S := fun _ => True) trivial (v_pick_true rfl rfl) ?_) | (refine rl_v rfl rfl rfl (S := fun _ => True) trivial (v_pick_false rfl rfl) ?_) | (refine rl_v rfl rfl rfl (S := fun _ => True) trivial (v_pick rfl rfl rfl) ?_)
                      refine rl_v rfl rfl rfl (S := fun _ => True) trivial (v_move rfl) ?_
                      refine rl_off (met_off rfl rfl rfl rfl rfl) rfl rfl ?_
                      refine rl_off (met_off rfl rfl rfl rfl rfl) rfl rfl ?_
                      first | (refine rl_v rfl rfl rfl (S := fun _ => True) trivial (v_pick_true rfl rfl) ?_) | (refine rl_v rfl rfl rfl (S := fun _ => True) trivial (v_pick_false rfl rfl) ?_) | (refine rl_v rfl rfl rfl (S := fun _ => True) trivial (v_pick rfl rfl rfl) ?_)
                      refine rl_v rfl rfl rfl (S := fun _ => True) trivial (v_move rfl) ?_
                      refine rl_off (met_off rfl rfl rfl rfl rfl) rfl rfl ?_
                      refine rl_off (met_off rfl rfl rfl rfl rfl) rfl rfl ?_
                      refine rl_off (met_off rfl rfl rfl rfl rfl) rfl rfl ?_
                      refine rl_off (met_off rfl rfl rfl rfl rfl) rfl rfl ?_
                      refine rl_off (met_off rfl rfl rfl rfl rfl) rfl rfl ?_
                      refine rl_off (met_off rfl rfl rfl rfl rfl) rfl rfl ?_
                      first | (refine rl_v rfl rfl rfl (S := fun _ => True) trivial (v_pick_true rfl rfl) ?_) | (refine rl_v rfl rfl rfl (S := fun _ => True) trivial (v_pick_false rfl rfl) ?_) | (refine rl_v rfl rfl rfl (S := fun _ => True) trivial (v_pick rfl rfl rfl) ?_)
                      refine rl_v rfl rfl rfl (S := fun _ => True) trivial (v_move rfl) ?_
                      refine rl_off (met_off rfl rfl rfl rfl rfl) rfl rfl ?_
                      refine rl_off (met_off rfl rfl rfl rfl rfl) rfl rfl ?_
                      refine rl_off (met_off rfl rfl rfl rfl rfl) rfl rfl ?_
                      refine rl_off (met_off rfl rfl rfl rfl rfl) rfl rfl ?_
                      refine rl_off (met_off rfl rfl rfl rfl rfl) rfl rfl ?_
                      refine rl_off (met_off rfl rfl rfl rfl rfl) rfl rfl ?_
                      first | (refine rl_v rfl rfl rfl (S := fun _ => True) trivial (v_pick_true rfl rfl) ?_) | (refine rl_v rfl rfl rfl (S := fun _ => True) trivial (v_pick_false rfl rfl) ?_) | (refine rl_v rfl rfl rfl (S := fun _ => True) trivial (v_pick rfl rfl rfl) ?_)
                      refine rl_v rfl rfl rfl (S := fun _ => True) trivial (v_assign rfl) ?_
                      refine rl_nil (g_le (Fr.le_keep (Fr.le_skip rfl (Fr.le_skip rfl (Fr.le_skip rfl (Fr.le_skip rfl (Fr.le_skip rfl (Fr.le_skip rfl (Fr.le_skip rfl (Fr.le_skip rfl (Fr.le_skip rfl (Fr.le_skip rfl (Fr.le_skip rfl (Fr.le_skip rfl (Fr.le_skip rfl (Fr.le_skip rfl (Fr.le_skip rfl (Fr.le_skip rfl (Fr.le_skip rfl (Fr.le_skip rfl (Fr.le_skip rfl (Fr.le_skip rfl (Fr.le_skip rfl (Fr.le_skip rfl (Fr.le_skip rfl (Fr.le_skip rfl (Fr.le_skip rfl (Fr.le_skip rfl (Fr.le_skip rfl (Fr.le_skip rfl (Fr.le_skip rfl (Fr.le_skip rfl (Fr.le_skip rfl (Fr.le_skip rfl (Fr.le_skip rfl (Fr.le_skip rfl (Fr.le_skip rfl (Fr.le_skip rfl (Fr.le_skip rfl (Fr.le_refl _))))))))))))))))))))))))))))))))))))))) ?_)
                      refine g_ret1 Try.func4 rfl rfl ?_
                      exact ⟨rfl, hw.sub (by (repeat (first | with_reducible exact Sub.refl _ | exact Sub.nil _ | (apply Sub.cons; focus ((repeat (first | with_reducible exact Pick.here _ | apply Pick.there)); (first | done | fail))) | with_reducible apply Sub.drop)); first | done | fail)⟩
  · have hd := decide_eq_false hq
    have e5 : q.levels = 0 := if_neg hq
    refine calls_of_g (n := 65) Try.func4 rfl rfl rfl ?_
    change G _ _ _ _ _ [(0, _)] _
    refine g_seq ?_
    refine g_region ?_
    refine rl_k rfl (k_box hw rfl rfl rfl (fun blk w hw => ?_))
    refine rl_v rfl rfl rfl (S := fun _ => True) trivial (v_assign rfl) ?_
    refine rl_nil (g_le (Fr.le_keep (Fr.le_keep (Fr.le_refl _))) ?_)
    refine g_seq (g_seq ?_)
    refine g_region ?_
    refine rl_v rfl rfl rfl (by first | exact sat_cells hw (by (repeat (first | with_reducible exact Pick.here _ | apply Pick.there)); first | done | fail) ⟨rfl, rfl, rfl, rfl, rfl, rfl, rfl, trivial⟩ | exact old_cells hw (by (repeat (first | with_reducible exact Pick.here _ | apply Pick.there)); first | done | fail) (by assumption)) (v_loadAgg (vs := [_, _, _, _, _, _, _]) T.agg_23_7 rfl rfl) ?_
    refine rl_k rfl (k_callf Try.func9 rfl rfl rfl rfl ?_)
    refine Calls.mono (rright_calls q hw) ?_
    rw [hd]
    rintro _ w ⟨rfl, hw⟩
    refine ⟨_, rfl, ?_⟩
    refine rl_v rfl rfl rfl (S := fun _ => True) trivial (v_not rfl) ?_
    refine rl_nil (g_le (Fr.le_keep (Fr.le_skip rfl (Fr.le_skip rfl (Fr.le_refl _)))) ?_)
    refine g_cond_true rfl ?_
    refine g_seq ?_
    refine g_region ?_
    refine rl_v rfl rfl rfl (by first | exact sat_cells hw (by (repeat (first | with_reducible exact Pick.here _ | apply Pick.there)); first | done | fail) ⟨rfl, rfl, rfl, rfl, rfl, rfl, rfl, trivial⟩ | exact old_cells hw (by (repeat (first | with_reducible exact Pick.here _ | apply Pick.there)); first | done | fail) (by assumption)) (v_loadAgg (vs := [_, _, _, _, _, _, _]) T.agg_23_7 rfl rfl) ?_
    refine rl_k rfl (k_callf Try.func10 rfl rfl rfl rfl ?_)
    refine Calls.mono (levels_calls q hw) ?_
    rintro _ w ⟨rfl, hw⟩
    refine ⟨_, rfl, ?_⟩
    first | (refine rl_v rfl rfl rfl (S := fun _ => True) trivial (v_eqlT rfl rfl (by first | omega | rfl)) ?_) | (refine rl_v rfl rfl rfl (S := fun _ => True) trivial (v_eqlF rfl rfl (by omega)) ?_) | (refine rl_v rfl rfl rfl (S := fun _ => True) trivial (v_eql rfl rfl) ?_)
    refine rl_v rfl rfl rfl (S := fun _ => True) trivial (v_assign rfl) ?_
    refine rl_nil (g_le (Fr.le_keep (Fr.le_skip rfl (Fr.le_skip rfl (Fr.le_skip rfl (Fr.le_refl _))))) ?_)
    refine g_ret1 Try.func4 rfl rfl ?_
    exact ⟨rfl, hw.sub (by (repeat (first | with_reducible exact Sub.refl _ | exact Sub.nil _ | (apply Sub.cons; focus ((repeat (first | with_reducible exact Pick.here _ | apply Pick.there)); (first | done | fail))) | with_reducible apply Sub.drop)); first | done | fail)⟩
set_option maxRecDepth 100000 in
theorem QuotaLevels_lifted (os : Os) (started : os.Started) (H : Type) (enc : TypeId × Value → H) :
    ReturnsInHanded {} Try.checked os 4 .any (Rows.quotaLevelsSpec.pre6 enc Try.prog Try.f4 Rows.quotaLevelsRow.domain false) (Rows.quotaLevelsSpec.post enc Try.prog Try.f4 false true false false) := by
  refine returnsInHanded_of_change_sized (C := Try.checked) T.own started (by kernel_rfl) Try.func4
    (ChangeSpec.witness6 (enc := enc) (C := Try.checked) false ⟨#[], #[(.agg #[(.int .i64 0), (.int .i64 0), (.int .i64 0), (.int .i64 0), (.int .i64 0), (.int .i64 0), (.int .i64 0)])], []⟩ 8 (by kernel_rfl) (by kernel_rfl) (by kernel_rfl) (by kernel_rfl)) ?_
  intro W base args ds gs before hval0 hW hcnd hsz0 _
  have hval : ∀ (j : Nat) t v, Try.f4.params[j]? = some t → args[j]? = some v → Value.okWide Try.prog W .any base t v := hval0
  have hW' := hW
  obtain ⟨p, q, hA0, hV, rfl, hfz, hnd⟩ := hW
  have hA : DataW.TrodAll enc Try.prog W 0 (fun _ => true) true Try.f4.params.toList args.toList ds p := hA0
  obtain ⟨rfl, rfl⟩ := trodVars_none hV
  have hsz : (DataW.weightsEach Try.prog (Try.f4.params.toList ++ []) (ds ++ [])).all (· ≤ reachBytes) = true := hsz0
  rw [List.append_nil, List.append_nil] at hsz
  rw [Try.params4] at hA hval hsz
  obtain ⟨v0, vs0, d0, ds0, p0, q0, hargs, rfl, rfl, h0, r0⟩ := trodAll_cons hA
  obtain ⟨rfl, rfl, rfl⟩ := trodAll_nil r0
  obtain rfl : args = #[v0] := by cases args; simp_all
  have lt0 : ∀ x ∈ p0, x.block < W.heap.size := by obtain ⟨m, hm⟩ := h0; exact DataW.trod_lt m _ _ _ hm
  obtain ⟨x0, w0⟩ := arg_of (j := 0) reads_Quota h0 hsz rfl rfl
  obtain ⟨cs0, rfl⟩ := okWide_agg T.agg_23_7 (hval 0 23 v0 rfl rfl)
  refine (QuotaLevels_law w0).mono fun e W' ⟨he, hb⟩ => ?_
  have bel := hb.below
  subst he
  exact ⟨_, rfl, _, _, _, [], _, [], hW', trodAll_mk1 (shut_bool Try.underlying4 _), (trodAll_cons_mk (Below.trod T.laidOut (by kernel_rfl) (of_decide_eq_true (by kernel_rfl)) h0 bel lt0) trodAll_mk0), rfl, bel.frame _, fun h => by cases h⟩
theorem QuotaLevels_holds : Rows.QuotaLevelsSaid :=
  OpenClaim.holds_of_wide 4 Try.f4 rfl rfl rfl rfl rfl rfl rfl ⟨rfl, rfl, rfl, rfl, rfl⟩ rfl rfl rfl rfl rfl (by kernel_rfl) Try.func4 (by kernel_rfl)
    (of_decide_eq_true (by kernel_rfl)) (by unfold Func.isWrapper; rw [if_neg (of_decide_eq_false (by kernel_rfl))]; exact ⟨rfl, rfl⟩)
    (fun os started H enc _ => QuotaLevels_lifted os started H enc)
#print axioms QuotaLevels_holds
end Go.Proofs.Ytnjlhbbhdhfmnaa
