/-
  Shape of a tree that is as it must be; and what the reference says of a secret.
-/
import Derived.Test.YtdiocmjhencbpaaL16
namespace Go.Proofs.Ytdiocmjhencbpaa
set_option maxRecDepth 8000
set_option linter.unusedSimpArgs false
set_option linter.unusedVariables false
open Go Xe
theorem ord_f46_r12_L17 : orderOfB Try.f46 12 [] (.k 0 (.k 1 (.k 2 (.k 3 (.k 4 (.k 5 (.k 6 (.k 7 (.k 8 (.k 9 (.k 10 (.k 11 (.a 12 (.a 14 (.a 16 (.a 17 (.v 13 (.k 15 (.k 18 (.k 19 (.k 20 (.k 21 (.k 22 (.k 23 .done)))))))))))))))))))))))) = true := by kernel_rfl
set_option maxHeartbeats 1000000 in
theorem rnamed_calls {E : Env} {w : World} {L : List As} {g : Hp} {ecs : List Value} {e : En} (q : Qt) (he : rdEn g ecs e) (hw : Sat E w (RO g :: L)) :
    Calls Try.prog 46 #[q.v, .agg ecs.toArray] w fun v w' => v = .returned (.int .i64 (namedE q e)) ∧ Sat E w' (RO g :: L) := by
  obtain ⟨va, vn, vc, rfl, he⟩ := en_told he
  obtain ⟨q0, q1, hqq, ⟨p0, hns⟩, p1⟩ := id he
  simp only [List.cons.injEq, and_true] at hqq
  obtain ⟨rfl, rfl⟩ := hqq
  simp only [reachBytes] at hns
  obtain ⟨rfl, hvb, _, _, gv⟩ := rdSl_get p1
  simp only [reachBytes] at hvb
  unfold namedE
  refine calls_of_g (n := 72) Try.func46 rfl rfl rfl ?_
  change G _ _ _ _ _ [(0, _), (1, _)] _
  refine g_seq ?_
  refine g_region ?_
  refine rl_k rfl (k_box hw rfl rfl rfl (fun bk0_0 w hw => ?_))
  refine rl_k rfl (k_box hw rfl rfl rfl (fun bk0_1 w hw => ?_))
  refine xV rfl rfl rfl (v_assign rfl) ?_
  refine rl_nil (g_le (xK (xK (xK (Fr.le_refl _)))) ?_)
  refine g_seq (g_seq ?_)
  refine g_region ?_
  refine rl_v rfl rfl rfl (by exact sat_cells hw (by (repeat first | with_reducible exact xH | apply xT); first | done | fail) ⟨rfl, rfl, rfl, rfl, rfl, rfl, rfl, trivial⟩) (v_loadAgg (vs := [_, _, _, _, _, _, _]) T.agg_23_7 rfl rfl) ?_
  refine rl_k rfl (k_callf Try.func62 rfl rfl rfl rfl ?_)
  refine Calls.mono (rright_calls q (hw.xQ)) ?_
  rintro _ w ⟨rfl, hw⟩
  refine ⟨_, rfl, ?_⟩
  refine xV rfl rfl rfl (v_not rfl) ?_
  refine rl_nil (g_le (xK (xS rfl (xS rfl (Fr.le_refl _)))) ?_)
  refine g_cond rfl (fun h1 => ?_) (fun h1 => ?_)
  · try with_reducible exact ft_elim h1
    all_goals
      try replace h1 := of_decide_eq_true h1
      refine g_seq ?_
      refine g_region ?_
      refine xV rfl rfl rfl (v_assign rfl) ?_
      refine rl_nil (g_le (xK (Fr.le_refl _)) ?_)
      refine g_ret1 Try.func46 rfl rfl ?_
      rw [if_pos (by simpa using h1)]
      exact ⟨rfl, hw.xQ⟩
  · try with_reducible exact tf_elim h1
    all_goals
      try replace h1 := of_decide_eq_false h1
      have hq : q.ok := by simpa using h1
      obtain ⟨_, hq2, _, _, hq5, _⟩ := id hq
      rw [if_neg (by simpa using hq)]
      refine g_skip (g_seq (g_seq ?_))
      refine g_region ?_
      refine xV rfl rfl rfl (v_fieldAddr0 T.fld_40_0_0 rfl) ?_
      refine rl_v rfl rfl rfl (by exact sat_cell hw (by (repeat first | with_reducible exact xH | apply xT); first | done | fail) rfl) (v_load T.scal_9 rfl) ?_
      refine xV rfl rfl rfl (v_eqlStr rfl rfl) ?_
      refine rl_nil (g_le (xK (xS rfl (xS rfl (Fr.le_refl _)))) ?_)
      refine g_cond rfl (fun h2 => ?_) (fun h2 => ?_)
      · try with_reducible exact ft_elim h2
        all_goals
          try replace h2 := of_decide_eq_true h2
          refine g_seq ?_
          refine g_region ?_
          refine xV rfl rfl rfl (v_assign rfl) ?_
          refine rl_nil (g_le (xK (Fr.le_refl _)) ?_)
          refine g_ret1 Try.func46 rfl rfl ?_
          rw [if_pos (show e.name = ByteArray.empty from h2)]
          exact ⟨rfl, hw.xQ⟩
      · try with_reducible exact tf_elim h2
        all_goals
          try replace h2 := of_decide_eq_false h2
          rw [if_neg (show ¬ e.name = ByteArray.empty from h2)]
          refine g_skip (g_seq (g_seq ?_))
          refine g_region ?_
          refine xV rfl rfl rfl (v_fieldAddr0 T.fld_40_0_0 rfl) ?_
          refine rl_v rfl rfl rfl (by exact sat_cell hw (by (repeat first | with_reducible exact xH | apply xT); first | done | fail) rfl) (v_load T.scal_9 rfl) ?_
          refine xV rfl rfl rfl (v_lenStr T.str_9 rfl) ?_
          refine xV rfl rfl rfl (v_fieldAddr0 T.fld_23_1_1 rfl) ?_
          refine rl_v rfl rfl rfl (by exact sat_cell hw (by (repeat first | with_reducible exact xH | apply xT); first | done | fail) rfl) (v_load T.scal_3 rfl) ?_
          refine xV rfl rfl rfl (v_gtr rfl rfl) ?_
          refine rl_nil (g_le (xK (xS rfl (xS rfl (xS rfl (xS rfl (xS rfl (Fr.le_refl _))))))) ?_)
          refine g_cond rfl (fun h3 => ?_) (fun h3 => ?_)
          · try with_reducible exact ft_elim h3
            all_goals
              try replace h3 := of_decide_eq_true h3
              refine g_seq ?_
              refine g_region ?_
              refine xV rfl rfl rfl (v_assign rfl) ?_
              refine rl_nil (g_le (xK (Fr.le_refl _)) ?_)
              refine g_ret1 Try.func46 rfl rfl ?_
              rw [if_pos (by omega)]
              exact ⟨rfl, hw.xQ⟩
          · try with_reducible exact tf_elim h3
            all_goals
              try replace h3 := of_decide_eq_false h3
              rw [if_neg (by omega)]
              refine g_skip (g_seq (g_seq ?_))
              refine g_region ?_
              refine xV rfl rfl rfl (v_fieldAddr0 T.fld_40_1_1 rfl) ?_
              refine rl_v rfl rfl rfl (by exact sat_cell hw (by (repeat first | with_reducible exact xH | apply xT); first | done | fail) rfl) (v_load T.scal_38 rfl) ?_
              refine xV rfl rfl rfl (v_lenSlice T.sl_38_113_3 rfl) ?_
              refine xV rfl rfl rfl (v_fieldAddr0 T.fld_23_4_4 rfl) ?_
              refine rl_v rfl rfl rfl (by exact sat_cell hw (by (repeat first | with_reducible exact xH | apply xT); first | done | fail) rfl) (v_load T.scal_3 rfl) ?_
              refine xV rfl rfl rfl (v_gtr rfl rfl) ?_
              refine rl_nil (g_le (xK (xS rfl (xS rfl (xS rfl (xS rfl (xS rfl (Fr.le_refl _))))))) ?_)
              refine g_cond rfl (fun h4 => ?_) (fun h4 => ?_)
              · try with_reducible exact ft_elim h4
                all_goals
                  try replace h4 := of_decide_eq_true h4
                  refine g_seq ?_
                  refine g_region ?_
                  refine xV rfl rfl rfl (v_assign rfl) ?_
                  refine rl_nil (g_le (xK (Fr.le_refl _)) ?_)
                  refine g_ret1 Try.func46 rfl rfl ?_
                  rw [if_pos (by omega)]
                  exact ⟨rfl, hw.xQ⟩
              · try with_reducible exact tf_elim h4
                all_goals
                  try replace h4 := of_decide_eq_false h4
                  rw [if_neg (by omega)]
                  refine g_skip (g_seq (g_seq ?_))
                  refine g_region ?_
                  refine xV rfl rfl rfl (v_fieldAddr0 T.fld_40_1_1 rfl) ?_
                  refine rl_v rfl rfl rfl (by exact sat_cell hw (by (repeat first | with_reducible exact xH | apply xT); first | done | fail) rfl) (v_load T.scal_38 rfl) ?_
                  refine xV rfl rfl rfl (v_lenSlice T.sl_38_113_3 rfl) ?_
                  refine xV rfl rfl rfl (v_move rfl) ?_
                  refine rl_nil (g_le (xK (xK (xK (xS rfl (Fr.le_refl _))))) ?_)
                  refine g_block ?_
                  refine g_loopC (σ := Nat × Int) (fun C x => (28, .int .i64 (x.1 : Nat)) :: C) [(2, _), (3, _), (4, _), (26, _), (27, _)] (by repeat (first | exact Fr.le_nil _ | refine Fr.le_cons rfl ?_)) (fun z w => z.1 ≤ e.versions.length ∧ verBad q 0 e.versions = verBad q z.2 (e.versions.drop z.1) ∧ (z.1 = 0 → z.2 = 0) ∧ (0 < z.1 → 1 ≤ z.2) ∧ (0 < z.1 → ∀ v, e.versions[z.1 - 1]? = some v → v.no = z.2) ∧ Sat E w (QtAt bk0_0 q :: pt bk0_1 (.cells [Value.string e.name, .slice va e.versions.length vc].toArray 40 (0, 0)) :: RO g :: L)) (fun z => e.versions.length - z.1) ?_ (0, 0) (by repeat (first | exact Fr.le_nil _ | refine Fr.le_cons rfl ?_)) ⟨by simp, by simp, fun _ => rfl, fun h => absurd h (by simp), fun h => absurd h (by simp), hw.xQ⟩
                  rintro ⟨i, last⟩ w ⟨hi1, heq, hl0, hl1, hl2, hw⟩ ih
                  dsimp only at hi1 heq hl0 hl1 hl2 hw ih ⊢
                  have hlp : (i = 0 ∧ last = 0) ∨ (0 < i ∧ 1 ≤ last) := by omega
                  refine g_seq ?_
                  refine g_region ?_
                  refine xV rfl rfl rfl (v_lss rfl rfl) ?_
                  refine rl_nil (g_le (xK (Fr.le_refl _)) ?_)
                  refine g_seq ?_
                  refine g_cond rfl (fun h5 => ?_) (fun h5 => ?_)
                  · try with_reducible exact ft_elim h5
                    all_goals
                      try replace h5 := of_decide_eq_true h5
                      refine g_skip (g_seq (g_block (g_seq ?_)))
                      have hz := hw
                      clear hw
                      obtain ⟨b4, o1, v, vcs, rfl, hv, hat1, hl9, rfl, hvok⟩ := gv (i : Nat) (by omega) (by omega)
                      rw [Int.toNat_natCast] at hv hat1
                      obtain ⟨hv1, hv2⟩ := List.getElem?_eq_some_iff.1 hv
                      rw [List.drop_eq_getElem_cons hv1, hv2] at heq
                      simp only [verBad] at heq
                      obtain ⟨_, hvv, hvn⟩ := id hvok
                      have hw := hz
                      refine g_region ?_
                      refine xV rfl rfl rfl (v_move rfl) ?_
                      refine xV rfl rfl rfl (v_indexAddr T.sl_38_113_3 rfl rfl (by omega) (by omega)) ?_
                      refine rl_v rfl rfl rfl (by exact ro_ats hw (by (repeat first | with_reducible exact xH | apply xT); first | done | fail) (by assumption)) (v_loadAgg (vs := [_, _, _]) T.agg_113_3 rfl rfl) ?_
                      refine rl_k rfl (k_alloc hw T.zero_113 rfl rfl (fun bk11_3 w hw => ?_))
                      refine xV rfl rfl rfl (v_assign rfl) ?_
                      refine rl_k rfl (k_storeWhole hw T.agg_113_3 rfl rfl (by simp [Value.oneCell']) rfl (by (repeat first | with_reducible exact xH | apply xT); first | done | fail) rfl (fun w hw => ?_))
                      refine rl_nil (g_le (xK (xK (xK (xK (xK (Fr.le_refl _)))))) ?_)
                      refine g_seq (g_seq ?_)
                      refine g_drawR ord_f46_r12_L17 (by kernel_rfl) T.mixed hw (fun w hw => ?_)
                      refine rs_kv 0 rfl rfl rfl rfl (S' := fun _ => True) trivial (v_fieldAddr0 T.fld_113_0_0 rfl) ?_
                      refine rs_kv 1 rfl rfl rfl rfl (by exact sat_cell hw (by (repeat first | with_reducible exact xH | apply xT); first | done | fail) rfl) (v_load T.scal_3 rfl) ?_
                      refine rs_kv 2 rfl rfl rfl rfl (S' := fun _ => True) trivial (v_lss rfl rfl) ?_
                      refine rs_kv 3 rfl rfl rfl rfl (S' := fun _ => True) trivial (v_move rfl) ?_
                      refine rs_split (s := 36) rfl (fun g12_3 => ?_) (fun g12_3 => ?_)
                      · try with_reducible exact ft_elim g12_3
                        all_goals
                          try replace g12_3 := of_decide_eq_true g12_3
                          refine rs_koff 4 rfl (met_off rfl rfl rfl rfl rfl) rfl rfl ?_
                          refine rs_koff 5 rfl (met_off rfl rfl rfl rfl rfl) rfl rfl ?_
                          refine rs_koff 6 rfl (met_off rfl rfl rfl rfl rfl) rfl rfl ?_
                          refine rs_kv 7 rfl rfl rfl rfl (S' := fun _ => True) trivial (v_pick_true rfl rfl) ?_
                          refine rs_kv 8 rfl rfl rfl rfl (S' := fun _ => True) trivial (v_move rfl) ?_
                          refine rs_koff 9 rfl (met_off rfl rfl rfl rfl rfl) rfl rfl ?_
                          refine rs_koff 10 rfl (met_off rfl rfl rfl rfl rfl) rfl rfl ?_
                          refine rs_koff 11 rfl (met_off rfl rfl rfl rfl rfl) rfl rfl ?_
                          refine rs_aoff 12 rfl (met_gone rfl rfl rfl rfl) rfl rfl ?_
                          refine rs_aoff 14 rfl (met_gone rfl rfl rfl rfl) rfl rfl ?_
                          refine rs_aoff 16 rfl (met_gone rfl rfl rfl rfl) rfl rfl ?_
                          refine rs_aoff 17 rfl (met_gone rfl rfl rfl rfl) rfl rfl ?_
                          refine rs_voff 13 rfl (met_gone rfl rfl rfl rfl) rfl rfl (by exact hw) ?_
                          refine rs_koff 15 rfl (met_gone rfl rfl rfl rfl) rfl rfl ?_
                          refine rs_koff 18 rfl (met_gone rfl rfl rfl rfl) rfl rfl ?_
                          refine rs_koff 19 rfl (met_gone rfl rfl rfl rfl) rfl rfl ?_
                          refine rs_koff 20 rfl (met_gone rfl rfl rfl rfl) rfl rfl ?_
                          refine rs_koff 21 rfl (met_gone rfl rfl rfl rfl) rfl rfl ?_
                          refine rs_koff 22 rfl (met_off rfl rfl rfl rfl rfl) rfl rfl ?_
                          refine rs_kv 23 rfl rfl rfl rfl (S' := fun _ => True) trivial (v_pick_true rfl rfl) ?_
                          refine rs_done (g_le (xK (xK (xK (xK (xK (xK (xK (xK (xK (xK (xK (xK (xK (xK (xK (xK (xK (xK (xK (xK (xK (xK (xK (xK (xK (Fr.le_refl _)))))))))))))))))))))))))) ?_)
                          refine g_cond_true rfl ?_
                          refine g_seq ?_
                          refine g_region ?_
                          refine xV rfl rfl rfl (v_assign rfl) ?_
                          refine rl_nil (g_le (xK (Fr.le_refl _)) ?_)
                          refine g_ret1 Try.func46 rfl rfl ?_
                          rw [if_pos (by omega)] at heq
                          rw [heq]
                          exact ⟨rfl, hw.xQ⟩
                      · try with_reducible exact tf_elim g12_3
                        all_goals
                          try replace g12_3 := of_decide_eq_false g12_3
                          refine rs_kvg 4 rfl (met_on rfl rfl rfl rfl) rfl rfl (S' := fun _ => True) trivial (v_fieldAddr0 T.fld_113_0_0 rfl) ?_
                          refine rs_kvg 5 rfl (met_on rfl rfl rfl rfl) rfl rfl (by exact sat_cell hw (by (repeat first | with_reducible exact xH | apply xT); first | done | fail) rfl) (v_load T.scal_3 rfl) ?_
                          refine rs_kvg 6 rfl (met_on rfl rfl rfl rfl) rfl rfl (S' := fun _ => True) trivial (v_gtr rfl rfl) ?_
                          refine rs_kv 7 rfl rfl rfl rfl (S' := fun _ => True) trivial (v_pick_false rfl rfl) ?_
                          refine rs_kv 8 rfl rfl rfl rfl (S' := fun _ => True) trivial (v_move rfl) ?_
                          refine rs_split (s := 41) rfl (fun g12_8 => ?_) (fun g12_8 => ?_)
                          · try with_reducible exact ft_elim g12_8
                            all_goals
                              try replace g12_8 := of_decide_eq_true g12_8
                              refine rs_koff 9 rfl (met_off rfl rfl rfl rfl rfl) rfl rfl ?_
                              refine rs_koff 10 rfl (met_off rfl rfl rfl rfl rfl) rfl rfl ?_
                              refine rs_koff 11 rfl (met_off rfl rfl rfl rfl rfl) rfl rfl ?_
                              refine rs_aoff 12 rfl (met_gone rfl rfl rfl rfl) rfl rfl ?_
                              refine rs_aoff 14 rfl (met_gone rfl rfl rfl rfl) rfl rfl ?_
                              refine rs_aoff 16 rfl (met_gone rfl rfl rfl rfl) rfl rfl ?_
                              refine rs_aoff 17 rfl (met_gone rfl rfl rfl rfl) rfl rfl ?_
                              refine rs_voff 13 rfl (met_gone rfl rfl rfl rfl) rfl rfl (by exact hw) ?_
                              refine rs_koff 15 rfl (met_gone rfl rfl rfl rfl) rfl rfl ?_
                              refine rs_koff 18 rfl (met_gone rfl rfl rfl rfl) rfl rfl ?_
                              refine rs_koff 19 rfl (met_gone rfl rfl rfl rfl) rfl rfl ?_
                              refine rs_koff 20 rfl (met_gone rfl rfl rfl rfl) rfl rfl ?_
                              refine rs_koff 21 rfl (met_gone rfl rfl rfl rfl) rfl rfl ?_
                              refine rs_koff 22 rfl (met_off rfl rfl rfl rfl rfl) rfl rfl ?_
                              refine rs_kv 23 rfl rfl rfl rfl (S' := fun _ => True) trivial (v_pick_true rfl rfl) ?_
                              refine rs_done (g_le (xK (xK (xK (xK (xK (xK (xK (xK (xK (xK (xK (xK (xK (xK (xK (xK (xK (xK (xK (xK (xK (xK (xK (xK (xK (xK (Fr.le_refl _))))))))))))))))))))))))))) ?_)
                              refine g_cond_true rfl ?_
                              refine g_seq ?_
                              refine g_region ?_
                              refine xV rfl rfl rfl (v_assign rfl) ?_
                              refine rl_nil (g_le (xK (Fr.le_refl _)) ?_)
                              refine g_ret1 Try.func46 rfl rfl ?_
                              rw [if_pos (by omega)] at heq
                              rw [heq]
                              exact ⟨rfl, hw.xQ⟩
                          · try with_reducible exact tf_elim g12_8
                            all_goals
                              try replace g12_8 := of_decide_eq_false g12_8
                              refine rs_kvg 9 rfl (met_on rfl rfl rfl rfl) rfl rfl (S' := fun _ => True) trivial (v_move rfl) ?_
                              refine rs_kvg 10 rfl (met_on rfl rfl rfl rfl) rfl rfl (S' := fun _ => True) trivial (v_gtr rfl rfl) ?_
                              refine rs_kvg 11 rfl (met_on rfl rfl rfl rfl) rfl rfl (S' := fun _ => True) trivial (v_move rfl) ?_
                              refine rs_split (s := 44) rfl (fun g12_11 => ?_) (fun g12_11 => ?_)
                              · try with_reducible exact ft_elim g12_11
                                all_goals
                                  try replace g12_11 := of_decide_eq_true g12_11
                                  obtain ⟨b7, o7, e7, ecs7, hz8, he7, hat7, hl7, rfl, hrd7⟩ := gv ((i : Int) - 1) (by omega) (by omega)
                                  simp only [Option.some.injEq, Addr.mk.injEq, and_true] at hz8
                                  obtain ⟨rfl, rfl⟩ := hz8
                                  rw [show ((i : Int) - 1).toNat = i - 1 by omega] at he7
                                  have hl3 := hl2 (by omega) _ he7
                                  dsimp only [Vn.cells] at hat7
                                  refine rs_ag 12 rfl (met_on rfl rfl rfl rfl) rfl rfl (v_fieldAddr0 T.fld_113_0_0 rfl) ?_
                                  refine rs_ag 14 rfl (met_on rfl rfl rfl rfl) rfl rfl (v_fieldAddr0 T.fld_40_1_1 rfl) ?_
                                  refine rs_ag 16 rfl (met_on rfl rfl rfl rfl) rfl rfl (v_move rfl) ?_
                                  refine rs_ag 17 rfl (met_on rfl rfl rfl rfl) rfl rfl (v_sub rfl rfl (by omega)) ?_
                                  refine rs_vg 13 rfl (met_on rfl rfl rfl rfl) rfl rfl (OpV.mono (v_load T.scal_3 rfl) (fun w hw => by exact sat_cell hw (by (repeat first | with_reducible exact xH | apply xT); first | done | fail) rfl)) (by exact hw) ?_
                                  refine rs_kvg 15 rfl (met_on rfl rfl rfl rfl) rfl rfl (by exact sat_cell hw (by (repeat first | with_reducible exact xH | apply xT); first | done | fail) rfl) (v_load T.scal_38 rfl) ?_
                                  refine rs_kvg 18 rfl (met_on rfl rfl rfl rfl) rfl rfl (S' := fun _ => True) trivial (v_indexAddr T.sl_38_113_3 rfl rfl (by omega) (by omega)) ?_
                                  refine rs_kvg 19 rfl (met_on rfl rfl rfl rfl) rfl rfl (S' := fun _ => True) trivial (v_fieldAddr T.fld_113_0_0 rfl) ?_
                                  refine rs_kvg 20 rfl (met_on rfl rfl rfl rfl) rfl rfl (by exact ro_at0 hw (by (repeat first | with_reducible exact xH | apply xT); first | done | fail) (by assumption) rfl) (v_load T.scal_3 rfl) ?_
                                  refine rs_kvg 21 rfl (met_on rfl rfl rfl rfl) rfl rfl (S' := fun _ => True) trivial (v_leq rfl rfl) ?_
                                  refine rs_kvg 22 rfl (met_on rfl rfl rfl rfl) rfl rfl (S' := fun _ => True) trivial (v_pick_true rfl rfl) ?_
                                  refine rs_kv 23 rfl rfl rfl rfl (S' := fun _ => True) trivial (v_pick_false rfl rfl) ?_
                                  refine rs_done (g_le (xK (xK (xK (xK (xK (xK (xK (xK (xK (xK (xK (xK (xK (xK (xK (xK (xK (xK (xK (xK (xK (xK (xK (xK (xK (xK (xK (Fr.le_refl _)))))))))))))))))))))))))))) ?_)
                                  refine g_cond rfl (fun h6 => ?_) (fun h6 => ?_)
                                  · try with_reducible exact ft_elim h6
                                    all_goals
                                      try replace h6 := of_decide_eq_true h6
                                      refine g_seq ?_
                                      refine g_region ?_
                                      refine xV rfl rfl rfl (v_assign rfl) ?_
                                      refine rl_nil (g_le (xK (Fr.le_refl _)) ?_)
                                      refine g_ret1 Try.func46 rfl rfl ?_
                                      rw [if_pos (by omega)] at heq
                                      rw [heq]
                                      exact ⟨rfl, hw.xQ⟩
                                  · try with_reducible exact tf_elim h6
                                    all_goals
                                      try replace h6 := of_decide_eq_false h6
                                      refine g_skip (g_seq ?_)
                                      have hl4 : ¬ (v.no ≤ last ∨ 1073741824 < v.no) := by omega
                                      rw [if_neg hl4] at heq
                                      refine g_region ?_
                                      refine xV rfl rfl rfl (v_fieldAddr0 T.fld_113_1_1 rfl) ?_
                                      refine rl_v rfl rfl rfl (by exact sat_cell hw (by (repeat first | with_reducible exact xH | apply xT); first | done | fail) rfl) (v_load T.scal_9 rfl) ?_
                                      refine xV rfl rfl rfl (v_lenStr T.str_9 rfl) ?_
                                      refine xV rfl rfl rfl (v_fieldAddr0 T.fld_23_2_2 rfl) ?_
                                      refine rl_v rfl rfl rfl (by exact sat_cell hw (by (repeat first | with_reducible exact xH | apply xT); first | done | fail) rfl) (v_load T.scal_3 rfl) ?_
                                      refine xV rfl rfl rfl (v_gtr rfl rfl) ?_
                                      refine xV rfl rfl rfl (v_move rfl) ?_
                                      refine rl_split (s := 63) rfl (fun g14_6 => ?_) (fun g14_6 => ?_)
                                      · try with_reducible exact ft_elim g14_6
                                        all_goals
                                          try replace g14_6 := of_decide_eq_true g14_6
                                          refine rl_off (met_off rfl rfl rfl rfl rfl) rfl rfl ?_
                                          refine rl_off (met_off rfl rfl rfl rfl rfl) rfl rfl ?_
                                          refine rl_off (met_off rfl rfl rfl rfl rfl) rfl rfl ?_
                                          refine rl_off (met_off rfl rfl rfl rfl rfl) rfl rfl ?_
                                          refine rl_off (met_off rfl rfl rfl rfl rfl) rfl rfl ?_
                                          refine rl_off (met_off rfl rfl rfl rfl rfl) rfl rfl ?_
                                          refine xV rfl rfl rfl (v_pick_true rfl rfl) ?_
                                          refine rl_nil (g_le (xK (xK (xK (xK (xK (xK (xK (xK (xK (xK (xK (xK (xK (xK (xK (Fr.le_refl _)))))))))))))))) ?_)
                                          refine g_cond_true rfl ?_
                                          refine g_seq ?_
                                          refine g_region ?_
                                          refine xV rfl rfl rfl (v_assign rfl) ?_
                                          refine rl_nil (g_le (xK (Fr.le_refl _)) ?_)
                                          refine g_ret1 Try.func46 rfl rfl ?_
                                          rw [if_pos (by omega)] at heq
                                          rw [heq]
                                          exact ⟨rfl, hw.xQ⟩
                                      · try with_reducible exact tf_elim g14_6
                                        all_goals
                                          try replace g14_6 := of_decide_eq_false g14_6
                                          refine rl_vg (met_on rfl rfl rfl rfl) rfl rfl (S := fun _ => True) trivial (v_fieldAddr0 T.fld_113_2_2 rfl) ?_
                                          refine rl_vg (met_on rfl rfl rfl rfl) rfl rfl (by exact sat_cell hw (by (repeat first | with_reducible exact xH | apply xT); first | done | fail) rfl) (v_load T.scal_9 rfl) ?_
                                          refine rl_vg (met_on rfl rfl rfl rfl) rfl rfl (S := fun _ => True) trivial (v_lenStr T.str_9 rfl) ?_
                                          refine rl_vg (met_on rfl rfl rfl rfl) rfl rfl (S := fun _ => True) trivial (v_fieldAddr0 T.fld_23_3_3 rfl) ?_
                                          refine rl_vg (met_on rfl rfl rfl rfl) rfl rfl (by exact sat_cell hw (by (repeat first | with_reducible exact xH | apply xT); first | done | fail) rfl) (v_load T.scal_3 rfl) ?_
                                          refine rl_vg (met_on rfl rfl rfl rfl) rfl rfl (S := fun _ => True) trivial (v_gtr rfl rfl) ?_
                                          refine xV rfl rfl rfl (v_pick_false rfl rfl) ?_
                                          refine rl_nil (g_le (xK (xK (xK (xK (xK (xK (xK (xK (xK (xK (xK (xK (xK (xK (xK (Fr.le_refl _)))))))))))))))) ?_)
                                          refine g_cond rfl (fun h7 => ?_) (fun h7 => ?_)
                                          · try with_reducible exact ft_elim h7
                                            all_goals
                                              try replace h7 := of_decide_eq_true h7
                                              refine g_seq ?_
                                              refine g_region ?_
                                              refine xV rfl rfl rfl (v_assign rfl) ?_
                                              refine rl_nil (g_le (xK (Fr.le_refl _)) ?_)
                                              refine g_ret1 Try.func46 rfl rfl ?_
                                              rw [if_pos (by omega)] at heq
                                              rw [heq]
                                              exact ⟨rfl, hw.xQ⟩
                                          · try with_reducible exact tf_elim h7
                                            all_goals
                                              try replace h7 := of_decide_eq_false h7
                                              rw [if_neg (by omega)] at heq
                                              refine g_skip (g_inBlock ?_)
                                              refine g_region ?_
                                              refine xV rfl rfl rfl (v_add rfl rfl (by omega)) ?_
                                              refine xV rfl rfl rfl (v_move rfl) ?_
                                              refine rl_nil (g_le (xK (xK (Fr.le_refl _))) ?_)
                                              exact g_le (by repeat (first | exact Fr.le_nil _ | refine Fr.le_cons rfl ?_)) (ih (i + 1, v.no) w ⟨by simp only; omega, heq, fun h => absurd h (by simp), fun _ => by simp only; omega, fun _ v' hv' => by simp only [Nat.add_sub_cancel] at hv'; rw [hv] at hv'; rw [Option.some.inj hv'], hw.xQ⟩ (by simp only; omega))
                              · try with_reducible exact tf_elim g12_11
                                all_goals
                                  try replace g12_11 := of_decide_eq_false g12_11
                                  refine rs_aoff 12 rfl (met_off rfl rfl rfl rfl rfl) rfl rfl ?_
                                  refine rs_aoff 14 rfl (met_off rfl rfl rfl rfl rfl) rfl rfl ?_
                                  refine rs_aoff 16 rfl (met_off rfl rfl rfl rfl rfl) rfl rfl ?_
                                  refine rs_aoff 17 rfl (met_off rfl rfl rfl rfl rfl) rfl rfl ?_
                                  refine rs_voff 13 rfl (met_off rfl rfl rfl rfl rfl) rfl rfl (by exact hw) ?_
                                  refine rs_koff 15 rfl (met_off rfl rfl rfl rfl rfl) rfl rfl ?_
                                  refine rs_koff 18 rfl (met_off rfl rfl rfl rfl rfl) rfl rfl ?_
                                  refine rs_koff 19 rfl (met_off rfl rfl rfl rfl rfl) rfl rfl ?_
                                  refine rs_koff 20 rfl (met_off rfl rfl rfl rfl rfl) rfl rfl ?_
                                  refine rs_koff 21 rfl (met_off rfl rfl rfl rfl rfl) rfl rfl ?_
                                  refine rs_kvg 22 rfl (met_on rfl rfl rfl rfl) rfl rfl (S' := fun _ => True) trivial (v_pick_false rfl rfl) ?_
                                  refine rs_kv 23 rfl rfl rfl rfl (S' := fun _ => True) trivial (v_pick_false rfl rfl) ?_
                                  refine rs_done (g_le (xK (xK (xK (xK (xK (xK (xK (xK (xK (xK (xK (xK (xK (xK (xK (xK (xK (xK (xK (xK (xK (xK (xK (xK (xK (xK (xK (Fr.le_refl _)))))))))))))))))))))))))))) ?_)
                                  refine g_cond_false rfl ?_
                                  refine g_skip (g_seq ?_)
                                  have hl4 : ¬ (v.no ≤ last ∨ 1073741824 < v.no) := by omega
                                  rw [if_neg hl4] at heq
                                  refine g_region ?_
                                  refine xV rfl rfl rfl (v_fieldAddr0 T.fld_113_1_1 rfl) ?_
                                  refine rl_v rfl rfl rfl (by exact sat_cell hw (by (repeat first | with_reducible exact xH | apply xT); first | done | fail) rfl) (v_load T.scal_9 rfl) ?_
                                  refine xV rfl rfl rfl (v_lenStr T.str_9 rfl) ?_
                                  refine xV rfl rfl rfl (v_fieldAddr0 T.fld_23_2_2 rfl) ?_
                                  refine rl_v rfl rfl rfl (by exact sat_cell hw (by (repeat first | with_reducible exact xH | apply xT); first | done | fail) rfl) (v_load T.scal_3 rfl) ?_
                                  refine xV rfl rfl rfl (v_gtr rfl rfl) ?_
                                  refine xV rfl rfl rfl (v_move rfl) ?_
                                  refine rl_split (s := 63) rfl (fun g14_6 => ?_) (fun g14_6 => ?_)
                                  · try with_reducible exact ft_elim g14_6
                                    all_goals
                                      try replace g14_6 := of_decide_eq_true g14_6
                                      refine rl_off (met_off rfl rfl rfl rfl rfl) rfl rfl ?_
                                      refine rl_off (met_off rfl rfl rfl rfl rfl) rfl rfl ?_
                                      refine rl_off (met_off rfl rfl rfl rfl rfl) rfl rfl ?_
                                      refine rl_off (met_off rfl rfl rfl rfl rfl) rfl rfl ?_
                                      refine rl_off (met_off rfl rfl rfl rfl rfl) rfl rfl ?_
                                      refine rl_off (met_off rfl rfl rfl rfl rfl) rfl rfl ?_
                                      refine xV rfl rfl rfl (v_pick_true rfl rfl) ?_
                                      refine rl_nil (g_le (xK (xK (xK (xK (xK (xK (xK (xK (xK (xK (xK (xK (xK (xK (xK (Fr.le_refl _)))))))))))))))) ?_)
                                      refine g_cond_true rfl ?_
                                      refine g_seq ?_
                                      refine g_region ?_
                                      refine xV rfl rfl rfl (v_assign rfl) ?_
                                      refine rl_nil (g_le (xK (Fr.le_refl _)) ?_)
                                      refine g_ret1 Try.func46 rfl rfl ?_
                                      rw [if_pos (by omega)] at heq
                                      rw [heq]
                                      exact ⟨rfl, hw.xQ⟩
                                  · try with_reducible exact tf_elim g14_6
                                    all_goals
                                      try replace g14_6 := of_decide_eq_false g14_6
                                      refine rl_vg (met_on rfl rfl rfl rfl) rfl rfl (S := fun _ => True) trivial (v_fieldAddr0 T.fld_113_2_2 rfl) ?_
                                      refine rl_vg (met_on rfl rfl rfl rfl) rfl rfl (by exact sat_cell hw (by (repeat first | with_reducible exact xH | apply xT); first | done | fail) rfl) (v_load T.scal_9 rfl) ?_
                                      refine rl_vg (met_on rfl rfl rfl rfl) rfl rfl (S := fun _ => True) trivial (v_lenStr T.str_9 rfl) ?_
                                      refine rl_vg (met_on rfl rfl rfl rfl) rfl rfl (S := fun _ => True) trivial (v_fieldAddr0 T.fld_23_3_3 rfl) ?_
                                      refine rl_vg (met_on rfl rfl rfl rfl) rfl rfl (by exact sat_cell hw (by (repeat first | with_reducible exact xH | apply xT); first | done | fail) rfl) (v_load T.scal_3 rfl) ?_
                                      refine rl_vg (met_on rfl rfl rfl rfl) rfl rfl (S := fun _ => True) trivial (v_gtr rfl rfl) ?_
                                      refine xV rfl rfl rfl (v_pick_false rfl rfl) ?_
                                      refine rl_nil (g_le (xK (xK (xK (xK (xK (xK (xK (xK (xK (xK (xK (xK (xK (xK (xK (Fr.le_refl _)))))))))))))))) ?_)
                                      refine g_cond rfl (fun h7 => ?_) (fun h7 => ?_)
                                      · try with_reducible exact ft_elim h7
                                        all_goals
                                          try replace h7 := of_decide_eq_true h7
                                          refine g_seq ?_
                                          refine g_region ?_
                                          refine xV rfl rfl rfl (v_assign rfl) ?_
                                          refine rl_nil (g_le (xK (Fr.le_refl _)) ?_)
                                          refine g_ret1 Try.func46 rfl rfl ?_
                                          rw [if_pos (by omega)] at heq
                                          rw [heq]
                                          exact ⟨rfl, hw.xQ⟩
                                      · try with_reducible exact tf_elim h7
                                        all_goals
                                          try replace h7 := of_decide_eq_false h7
                                          rw [if_neg (by omega)] at heq
                                          refine g_skip (g_inBlock ?_)
                                          refine g_region ?_
                                          refine xV rfl rfl rfl (v_add rfl rfl (by omega)) ?_
                                          refine xV rfl rfl rfl (v_move rfl) ?_
                                          refine rl_nil (g_le (xK (xK (Fr.le_refl _))) ?_)
                                          exact g_le (by repeat (first | exact Fr.le_nil _ | refine Fr.le_cons rfl ?_)) (ih (i + 1, v.no) w ⟨by simp only; omega, heq, fun h => absurd h (by simp), fun _ => by simp only; omega, fun _ v' hv' => by simp only [Nat.add_sub_cancel] at hv'; rw [hv] at hv'; rw [Option.some.inj hv'], hw.xQ⟩ (by simp only; omega))
                  · try with_reducible exact tf_elim h5
                    all_goals
                      try replace h5 := of_decide_eq_false h5
                      refine g_exit rfl (g_seq ?_)
                      refine g_region ?_
                      refine xV rfl rfl rfl (v_assign rfl) ?_
                      refine rl_nil (g_le (xK (Fr.le_refl _)) ?_)
                      refine g_ret1 Try.func46 rfl rfl ?_
                      rw [List.drop_eq_nil_of_le (by omega)] at heq
                      rw [heq]
                      exact ⟨rfl, hw.xQ⟩
theorem rrightE_calls {E : Env} {w : World} {L : List As} {g : Hp} {ecs : List Value} {e : En} (q : Qt) (he : rdEn g ecs e) (hw : Sat E w (RO g :: L)) :
    Calls Try.prog 26 #[q.v, .agg ecs.toArray] w fun v w' => v = .returned (.int .i64 (rightE q e)) ∧ Sat E w' (RO g :: L) := by
  obtain ⟨va, vn, vc, rfl, he⟩ := en_told he
  obtain ⟨q0, q1, hqq, ⟨p0, hns⟩, p1⟩ := id he
  simp only [List.cons.injEq, and_true] at hqq
  obtain ⟨rfl, rfl⟩ := hqq
  obtain ⟨rfl, hvb, _, _, gv⟩ := rdSl_get p1
  unfold rightE
  refine calls_of_g (n := 18) Try.func26 rfl rfl rfl ?_
  change G _ _ _ _ _ [(0, _), (1, _)] _
  refine g_seq ?_
  refine g_region ?_
  refine rl_k rfl (k_box hw rfl rfl rfl (fun bk0_0 w hw => ?_))
  refine rl_k rfl (k_box hw rfl rfl rfl (fun bk0_1 w hw => ?_))
  refine xV rfl rfl rfl (v_assign rfl) ?_
  refine rl_nil (g_le (xK (xK (xK (Fr.le_refl _)))) ?_)
  refine g_seq ?_
  refine g_region ?_
  refine rl_v rfl rfl rfl (by exact sat_cells hw (by (repeat first | with_reducible exact xH | apply xT); first | done | fail) ⟨rfl, rfl, rfl, rfl, rfl, rfl, rfl, trivial⟩) (v_loadAgg (vs := [_, _, _, _, _, _, _]) T.agg_23_7 rfl rfl) ?_
  refine rl_v rfl rfl rfl (by exact sat_cells hw (by (repeat first | with_reducible exact xH | apply xT); first | done | fail) ⟨rfl, rfl, trivial⟩) (v_loadAgg (vs := [_, _]) T.agg_40_2 rfl rfl) ?_
  refine rl_k rfl (k_callf Try.func46 rfl rfl rfl rfl ?_)
  refine Calls.mono (rnamed_calls q he (hw.xQ)) ?_
  rintro _ w ⟨rfl, hw⟩
  refine ⟨_, rfl, ?_⟩
  refine xV rfl rfl rfl (v_assign rfl) ?_
  refine rl_nil (g_le (xK (xS rfl (xS rfl (xS rfl (Fr.le_refl _))))) ?_)
  refine g_seq (g_seq ?_)
  refine g_region ?_
  refine xV rfl rfl rfl (v_move rfl) ?_
  refine xV rfl rfl rfl (v_eql rfl rfl) ?_
  refine xV rfl rfl rfl (v_move rfl) ?_
  refine rl_split (s := 11) rfl (fun g2_2 => ?_) (fun g2_2 => ?_)
  · try with_reducible exact ft_elim g2_2
    all_goals
      try replace g2_2 := of_decide_eq_true g2_2
      refine rl_vg (met_on rfl rfl rfl rfl) rfl rfl (S := fun _ => True) trivial (v_fieldAddr0 T.fld_40_1_1 rfl) ?_
      refine rl_vg (met_on rfl rfl rfl rfl) rfl rfl (by exact sat_cell hw (by (repeat first | with_reducible exact xH | apply xT); first | done | fail) rfl) (v_load T.scal_38 rfl) ?_
      refine rl_vg (met_on rfl rfl rfl rfl) rfl rfl (S := fun _ => True) trivial (v_lenSlice T.sl_38_113_3 rfl) ?_
      refine rl_vg (met_on rfl rfl rfl rfl) rfl rfl (S := fun _ => True) trivial (v_eql rfl rfl) ?_
      refine xV rfl rfl rfl (v_pick_true rfl rfl) ?_
      refine rl_nil (g_le (xK (xS rfl (xS rfl (xS rfl (xS rfl (xS rfl (xS rfl (xS rfl (xS rfl (Fr.le_refl _)))))))))) ?_)
      refine g_cond rfl (fun h1 => ?_) (fun h1 => ?_)
      · try with_reducible exact ft_elim h1
        all_goals
          try replace h1 := of_decide_eq_true h1
          refine g_seq ?_
          refine g_region ?_
          refine xV rfl rfl rfl (v_assign rfl) ?_
          refine rl_nil (g_le (xK (Fr.le_refl _)) ?_)
          refine g_ret1 Try.func26 rfl rfl ?_
          rw [if_pos (by omega)]
          exact ⟨rfl, hw.xQ⟩
      · try with_reducible exact tf_elim h1
        all_goals
          try replace h1 := of_decide_eq_false h1
          refine g_skip (g_seq ?_)
          refine g_region ?_
          refine xV rfl rfl rfl (v_move rfl) ?_
          refine xV rfl rfl rfl (v_assign rfl) ?_
          refine rl_nil (g_le (xK (xS rfl (Fr.le_refl _))) ?_)
          refine g_ret1 Try.func26 rfl rfl ?_
          rw [if_neg (by omega)]
          exact ⟨rfl, hw.xQ⟩
  · try with_reducible exact tf_elim g2_2
    all_goals
      try replace g2_2 := of_decide_eq_false g2_2
      refine rl_off (met_off rfl rfl rfl rfl rfl) rfl rfl ?_
      refine rl_off (met_off rfl rfl rfl rfl rfl) rfl rfl ?_
      refine rl_off (met_off rfl rfl rfl rfl rfl) rfl rfl ?_
      refine rl_off (met_off rfl rfl rfl rfl rfl) rfl rfl ?_
      refine xV rfl rfl rfl (v_pick_false rfl rfl) ?_
      refine rl_nil (g_le (xK (xS rfl (xS rfl (xS rfl (xS rfl (xS rfl (xS rfl (xS rfl (xS rfl (Fr.le_refl _)))))))))) ?_)
      refine g_cond_false rfl ?_
      refine g_skip (g_seq ?_)
      refine g_region ?_
      refine xV rfl rfl rfl (v_move rfl) ?_
      refine xV rfl rfl rfl (v_assign rfl) ?_
      refine rl_nil (g_le (xK (xS rfl (Fr.le_refl _))) ?_)
      refine g_ret1 Try.func26 rfl rfl ?_
      rw [if_neg (by omega)]
      exact ⟨rfl, hw.xQ⟩
theorem ord_f15_r17_L17 : orderOfB Try.f15 17 [16] (.a 0 (.a 2 (.v 1 (.k 3 (.k 4 (.k 5 (.a 6 (.v 7 (.k 8 (.k 9 (.k 10 (.k 11 (.k 12 (.a 13 (.k 14 (.k 15 (.k 16 (.k 17 (.k 18 .done))))))))))))))))))) = true := by kernel_rfl
set_option maxHeartbeats 2000000 in
theorem lshape_calls {E : Env} {w : World} {L : List As} {g : Hp} {h : Nat} {s : List Nd} {A : As} {root : Rf} {hh : Nat} {u : Un hh} (t : TreeAt s root hh u) (h8 : hh < 7) (hr : root.ok) (hI : HeapI h g s A) (q : Qt) (hq : q.ok) (hs : s.length ≤ 1000) (hrt : ∀ e ∈ entsU hh u, rightE q e = 0) (hsec : ((entsU hh u).length : Int) ≤ q.s) (hw : Sat E w (A :: RO g :: L)) :
    Calls Try.prog 15 #[q.v, .iface 27 (.pointer (some ⟨h, 0, none⟩)), .agg root.cells.toArray] w fun v w' => ∃ g' A', g.le g' ∧ HeapI h g' s A' ∧ v = .returned (.tuple #[.agg #[.int .i64 (hh + 1), .int .i64 (seenU hh 1 root u).length, .int .i64 (entsU hh u).length, .int .i64 (seenU hh 1 root u).length], .int .i64 0]) ∧ Sat E w' (A' :: RO g' :: L) := by
  have hrq := right_iff q
  have hq0 : q.s ≤ 64 := hq.1.2
  have hright := seen_right hq hs hh 1 root u t.ok t.most t.two t.laid hrt t.srt
  have hlen1 := seen_len1 hs hh 1 root u t.laid (pageAt_refR t.pg hs).2
  have hdle := seen_deep_le hh 1 root u
  have hdmax := seen_deep_max hh 1 root u t.ok t.two
  have hse := seen_ents hh 1 root u
  have hlv : (hh : Int) + 1 ≤ q.levels := by
    have h1 := ents_many hh u t.ok
    have h2 := Qt.leaves_bounds hq
    unfold Qt.levels
    rw [if_pos hq]
    refine lev_many (n := (entsU hh u).length) h8 (t.two.imp id fun h2 => ?_) (by omega) (by unfold Qt.leaves; omega) h2.1 h2.2
    exact Nat.le_trans (Nat.mul_le_mul_right _ h2) h1
  refine calls_of_g (n := 88) Try.func15 rfl rfl rfl ?_
  change G _ _ _ _ _ [(0, _), (1, _), (2, _)] _
  refine g_seq ?_
  refine g_region ?_
  refine rl_k rfl (k_box hw rfl rfl rfl (fun bk0_0 w hw => ?_))
  refine rl_k rfl (k_box hw rfl rfl rfl (fun bk0_1 w hw => ?_))
  refine rl_k rfl (k_alloc hw T.zero_45 rfl rfl (fun bk0_2 w hw => ?_))
  refine xV rfl rfl rfl (v_assign rfl) ?_
  refine rl_nil (g_le (xK (xK (xK (xK (Fr.le_refl _))))) ?_)
  refine g_seq (g_seq ?_)
  refine g_region ?_
  refine rl_v rfl rfl rfl (by exact sat_cells hw (by (repeat first | with_reducible exact xH | apply xT); first | done | fail) ⟨rfl, rfl, rfl, rfl, rfl, rfl, rfl, trivial⟩) (v_loadAgg (vs := [_, _, _, _, _, _, _]) T.agg_23_7 rfl rfl) ?_
  refine rl_k rfl (k_callf Try.func16 rfl rfl rfl rfl ?_)
  refine Calls.mono (right_calls q (hw.xQ)) ?_
  rintro _ w ⟨rfl, hw⟩
  refine ⟨_, rfl, ?_⟩
  refine xV rfl rfl rfl (v_neq rfl rfl) ?_
  refine rl_nil (g_le (xK (xS rfl (xS rfl (Fr.le_refl _)))) ?_)
  refine g_cond rfl (fun h1 => ?_) (fun h1 => ?_)
  · try with_reducible exact ft_elim h1
    all_goals
      try replace h1 := of_decide_eq_true h1
      exact absurd hq (hrq.1 h1)
  · try with_reducible exact tf_elim h1
    all_goals
      try replace h1 := of_decide_eq_false h1
      refine g_skip (g_seq ?_)
      refine g_region ?_
      refine xV rfl rfl rfl (v_move rfl) ?_
      refine rl_v rfl rfl rfl (by exact sat_cells hw (by (repeat first | with_reducible exact xH | apply xT); first | done | fail) ⟨rfl, rfl, rfl, rfl, trivial⟩) (v_loadAgg (vs := [_, _, _, _]) T.agg_26_4 rfl rfl) ?_
      refine rl_k rfl (k_callf Try.func38 rfl rfl rfl rfl ?_)
      refine Calls.mono (allR_calls (heapPg h) root hr hI (hw.xQ)) ?_
      rw [show (heapPg h).ops = heapO from rfl, all_tree t (by omega)]
      dsimp only
      rintro _ w ⟨g1, A1, la, ln, lc, hg1, hI1, rfl, _, hgd, hw⟩
      obtain ⟨hrd, hnl, _⟩ := hgd rfl
      refine ⟨_, rfl, ?_⟩
      refine xV rfl rfl rfl (v_move rfl) ?_
      refine xV rfl rfl rfl (v_extract rfl rfl) ?_
      refine xV rfl rfl rfl (v_extract rfl rfl) ?_
      refine xV rfl rfl rfl (v_assign rfl) ?_
      refine xV rfl rfl rfl (v_assign rfl) ?_
      refine rl_nil (g_le (xK (xK (xS rfl (xS rfl (xS rfl (xS rfl (xS rfl (xS rfl (Fr.le_refl _))))))))) ?_)
      refine g_seq (g_seq ?_)
      refine g_region ?_
      refine xV rfl rfl rfl (v_move rfl) ?_
      refine xV rfl rfl rfl (v_neqF rfl rfl (by omega)) ?_
      refine rl_nil (g_le (xK (xS rfl (Fr.le_refl _))) ?_)
      refine g_cond_false rfl ?_
      refine g_skip (g_seq ?_)
      obtain ⟨hln, hnb, _, _, gn⟩ := rdSl_get hrd
      have hsh := fun {E' : Env} {w' : World} {L' : List As} => shaped8_calls (E := E') (w := w') (L := L') t (by omega) hrd hnl
      generalize seenU hh 1 root u = now at *
      subst hln
      simp only [reachBytes] at hnb
      refine g_region ?_
      refine xV rfl rfl rfl (v_move rfl) ?_
      refine xV rfl rfl rfl (v_lenSlice T.sl_79_86_8 rfl) ?_
      refine xV rfl rfl rfl (v_build rfl (T.build_45_1 ..)) ?_
      refine rl_k rfl (k_alloc hw T.zero_45 rfl rfl (fun bk6_3 w hw => ?_))
      refine rl_k rfl (k_storeWhole hw T.agg_45_4 rfl rfl (by simp [Value.oneCell']) rfl (by (repeat first | with_reducible exact xH | apply xT); first | done | fail) rfl (fun w hw => ?_))
      refine rl_nil (g_le (xK (xS rfl (xS rfl (xS rfl (Fr.le_refl _))))) ?_)
      refine g_seq (g_seq ?_)
      refine g_region ?_
      refine xV rfl rfl rfl (v_move rfl) ?_
      refine xV rfl rfl rfl (v_lenSlice T.sl_79_86_8 rfl) ?_
      refine xV rfl rfl rfl (v_move rfl) ?_
      refine rl_nil (g_le (xK (xK (xK (Fr.le_refl _)))) ?_)
      refine g_block ?_
      refine g_loopC (σ := Nat × Int) (fun C x => (33, .int .i64 (x.1 : Nat)) :: C) [(3, _), (6, _), (7, _), (8, _), (10, _), (31, _), (32, _)] (by repeat (first | exact Fr.le_nil _ | refine Fr.le_cons rfl ?_)) (fun z w => z.1 ≤ now.length ∧ 0 ≤ z.2 ∧ z.2 ≤ (hh : Int) + 1 ∧ (∀ x ∈ now.take z.1, x.deep ≤ z.2) ∧ Sat E w (pt bk6_3 (.cells [.int .i64 z.2, .int .i64 now.length, .int .i64 ((preF now z.1).length : Nat), .int .i64 (z.1 : Nat)].toArray 45 (0, 0)) :: A1 :: QtAt bk0_0 q :: pt bk0_1 (.cells root.cells.toArray 26 (0, 0)) :: pt bk0_2 (.cells [.int .i64 0, .int .i64 0, .int .i64 0, .int .i64 0].toArray 45 (0, 0)) :: RO g1 :: L)) (fun z => now.length - z.1) ?_ (0, 0) (by repeat (first | exact Fr.le_nil _ | refine Fr.le_cons rfl ?_)) ⟨by simp, by simp, by simp only; omega, by simp, by dsimp only; rw [show (((preF now 0).length : Nat) : Int) = 0 by simp [preF], show (((0 : Nat)) : Int) = 0 from rfl]; exact hw.xQ⟩
      rintro ⟨i, lv⟩ w ⟨hi1, hlv0, hlv1, hlvm, hw⟩ ih
      dsimp only at hi1 hlv0 hlv1 hlvm hw ih ⊢
      refine g_seq ?_
      refine g_region ?_
      refine xV rfl rfl rfl (v_lss rfl rfl) ?_
      refine rl_nil (g_le (xK (Fr.le_refl _)) ?_)
      refine g_seq ?_
      refine g_cond rfl (fun h3 => ?_) (fun h3 => ?_)
      · try with_reducible exact ft_elim h3
        all_goals
          try replace h3 := of_decide_eq_true h3
          refine g_skip (g_seq (g_block (g_seq ?_)))
          have hz := hw
          clear hw
          obtain ⟨b5, o5, x, xcs, rfl, hx, hat5, hl5, hrdx⟩ := gn (i : Nat) (by omega) (by omega)
          rw [Int.toNat_natCast] at hx hat5
          have hmem := List.mem_of_getElem? hx
          have hx1 := hlen1 x hmem
          have hx2 := hdle x hmem
          have hx3 := hright x hmem
          have hpre := preF_succ hx
          have hpl := preF_len (now := now) (k := i)
          rw [hse] at hpl
          have htk : now.take (i + 1) = now.take i ++ [x] := by rw [List.take_add_one, hx]; rfl
          obtain ⟨xa, xn, xc, xk, xkn, xkc, rfl, hndx⟩ := sn_told hrdx
          obtain ⟨n0, n1, n2, hq9, _, hqe, hqk⟩ := id hndx
          simp only [List.cons.injEq, and_true] at hq9
          obtain ⟨_, rfl, rfl⟩ := hq9
          obtain ⟨rfl, heb, _, hem, _⟩ := rdSl_get hqe
          obtain ⟨rfl, hkb, _, hkm, _⟩ := rdSl_get hqk
          simp only [maxLen] at hem hkm
          have hpl2 := preF_len (now := now) (k := i + 1)
          rw [hse, hpre, List.length_append] at hpl2
          have hw := hz
          refine g_region ?_
          refine xV rfl rfl rfl (v_indexAddr T.sl_79_86_8 rfl rfl (by omega) (by omega)) ?_
          refine rl_v rfl rfl rfl (by exact ro_ats hw (by (repeat first | with_reducible exact xH | apply xT); first | done | fail) (by assumption)) (v_loadAgg (vs := [_, _, _, _, _, _, _, _]) T.agg_86_8 rfl rfl) ?_
          refine rl_k rfl (k_alloc hw T.zero_86 rfl rfl (fun bk9_2 w hw => ?_))
          refine rl_k rfl (k_storeWhole hw T.agg_86_8 rfl rfl (by simp [Value.oneCell']) rfl (by (repeat first | with_reducible exact xH | apply xT); first | done | fail) rfl (fun w hw => ?_))
          refine rl_nil (g_le (xK (xK (xK (Fr.le_refl _)))) ?_)
          refine g_seq (g_seq ?_)
          refine g_region ?_
          refine rl_v rfl rfl rfl (by exact sat_cells hw (by (repeat first | with_reducible exact xH | apply xT); first | done | fail) ⟨rfl, rfl, rfl, rfl, rfl, rfl, rfl, trivial⟩) (v_loadAgg (vs := [_, _, _, _, _, _, _]) T.agg_23_7 rfl rfl) ?_
          refine xV rfl rfl rfl (v_fieldAddr0 T.fld_86_2_5 rfl) ?_
          refine rl_v rfl rfl rfl (by exact sat_cells hw (by (repeat first | with_reducible exact xH | apply xT); first | done | fail) ⟨rfl, rfl, rfl, trivial⟩) (v_loadAgg (vs := [_, _, _]) T.agg_84_3 rfl rfl) ?_
          refine rl_k rfl (k_callf Try.func39 rfl rfl rfl rfl ?_)
          refine Calls.mono (rightN_calls q hndx (hw.xQ)) ?_
          rw [hx3]
          rintro _ w ⟨rfl, hw⟩
          refine ⟨_, rfl, ?_⟩
          refine xV rfl rfl rfl (v_assign rfl) ?_
          refine rl_nil (g_le (xK (xK (xK (xK (xK (Fr.le_refl _)))))) ?_)
          refine g_seq ?_
          refine g_region ?_
          refine xV rfl rfl rfl (v_move rfl) ?_
          refine xV rfl rfl rfl (v_neqF rfl rfl (by omega)) ?_
          refine rl_nil (g_le (xK (xK (Fr.le_refl _))) ?_)
          refine g_cond_false rfl ?_
          refine g_skip (g_seq ?_)
          refine g_region ?_
          refine xV rfl rfl rfl (v_fieldAddr0 T.fld_45_0_0 rfl) ?_
          refine rl_v rfl rfl rfl (by exact sat_cell hw (by (repeat first | with_reducible exact xH | apply xT); first | done | fail) rfl) (v_load T.scal_3 rfl) ?_
          refine xV rfl rfl rfl (v_fieldAddr0 T.fld_86_0_0 rfl) ?_
          refine rl_v rfl rfl rfl (by exact sat_cell hw (by (repeat first | with_reducible exact xH | apply xT); first | done | fail) rfl) (v_load T.scal_3 rfl) ?_
          refine xV rfl rfl rfl (v_max rfl rfl) ?_
          refine xV rfl rfl rfl (v_fieldAddr0 T.fld_45_0_0 rfl) ?_
          refine rl_k rfl (k_store hw T.scal_3 rfl rfl rfl (by (repeat first | with_reducible exact xH | apply xT); first | done | fail) rfl (by simp only [List.set, Int.reduceToNat, Nat.reduceMul, Nat.reduceAdd]; rfl) (fun w hw => ?_))
          refine rl_nil (g_le (xK (xK (xK (xK (xK (xK (Fr.le_refl _))))))) ?_)
          refine g_seq ?_
          refine g_region ?_
          refine xV rfl rfl rfl (v_fieldAddr0 T.fld_45_2_2 rfl) ?_
          refine rl_v rfl rfl rfl (by exact sat_cell hw (by (repeat first | with_reducible exact xH | apply xT); first | done | fail) rfl) (v_load T.scal_3 rfl) ?_
          refine xV rfl rfl rfl (v_fieldAddr0 T.fld_86_2_5 rfl) ?_
          refine xV rfl rfl rfl (v_fieldAddr T.fld_84_1_1 rfl) ?_
          refine rl_v rfl rfl rfl (by exact sat_cell hw (by (repeat first | with_reducible exact xH | apply xT); first | done | fail) rfl) (v_load T.scal_33 rfl) ?_
          refine xV rfl rfl rfl (v_lenSlice T.sl_33_40_2 rfl) ?_
          refine xV rfl rfl rfl (v_add rfl rfl (by omega)) ?_
          refine xV rfl rfl rfl (v_fieldAddr0 T.fld_45_2_2 rfl) ?_
          refine rl_k rfl (k_store hw T.scal_3 rfl rfl rfl (by (repeat first | with_reducible exact xH | apply xT); first | done | fail) rfl (by simp only [List.set, Int.reduceToNat, Nat.reduceMul, Nat.reduceAdd]; rfl) (fun w hw => ?_))
          refine rl_nil (g_le (xK (xK (xK (xK (xK (xK (xK (xK (Fr.le_refl _))))))))) ?_)
          refine g_region ?_
          refine xV rfl rfl rfl (v_fieldAddr0 T.fld_45_3_3 rfl) ?_
          refine rl_v rfl rfl rfl (by exact sat_cell hw (by (repeat first | with_reducible exact xH | apply xT); first | done | fail) rfl) (v_load T.scal_3 rfl) ?_
          refine xV rfl rfl rfl (v_fieldAddr0 T.fld_86_1_1 rfl) ?_
          refine xV rfl rfl rfl (v_fieldAddr T.fld_26_3_3 rfl) ?_
          refine rl_v rfl rfl rfl (by exact sat_cell hw (by (repeat first | with_reducible exact xH | apply xT); first | done | fail) rfl) (v_load T.scal_3 rfl) ?_
          refine xV rfl rfl rfl (v_add rfl rfl (by omega)) ?_
          refine xV rfl rfl rfl (v_fieldAddr0 T.fld_45_3_3 rfl) ?_
          refine rl_k rfl (k_store hw T.scal_3 rfl rfl rfl (by (repeat first | with_reducible exact xH | apply xT); first | done | fail) rfl (by simp only [List.set, Int.reduceToNat, Nat.reduceMul, Nat.reduceAdd]; rfl) (fun w hw => ?_))
          refine rl_nil (g_le (xK (xK (xK (xK (xK (xK (xK (Fr.le_refl _)))))))) ?_)
          refine g_inBlock ?_
          refine g_region ?_
          refine xV rfl rfl rfl (v_add rfl rfl (by omega)) ?_
          refine xV rfl rfl rfl (v_move rfl) ?_
          refine rl_nil (g_le (xK (xK (Fr.le_refl _))) ?_)
          have e1 : (((preF now (i + 1)).length : Nat) : Int) = ((preF now i).length : Int) + (x.node.entries.length : Int) := by rw [hpre, List.length_append]; omega
          have e2 : ((i + 1 : Nat) : Int) = (i : Int) + x.ref.len := by rw [hx1]; omega
          have e3 : ∀ y ∈ now.take (i + 1), y.deep ≤ max lv x.deep := by
            intro y hy
            rw [htk] at hy
            rcases List.mem_append.1 hy with hy | hy
            · have := hlvm y hy; omega
            · rw [List.mem_singleton.1 hy]; omega
          exact g_le (by repeat (first | exact Fr.le_nil _ | refine Fr.le_cons rfl ?_)) (ih (i + 1, max lv x.deep) w ⟨by simp only; omega, by simp only; omega, by simp only; omega, e3, by dsimp only; rw [e1, e2]; exact hw.xQ⟩ (by simp only; omega))
      · try with_reducible exact tf_elim h3
        all_goals
          try replace h3 := of_decide_eq_false h3
          refine g_exit rfl (g_seq (g_seq ?_))
          obtain rfl : i = now.length := by omega
          rw [preF_all (Nat.le_refl _), hse] at hw
          obtain ⟨y, hy, hyd⟩ := hdmax
          have hlvy := hlvm y (by rw [List.take_length]; exact hy)
          obtain rfl : lv = (hh : Int) + 1 := by omega
          refine g_drawR ord_f15_r17_L17 (by kernel_rfl) T.mixed hw (fun w hw => ?_)
          refine rs_a 0 rfl rfl rfl rfl (v_fieldAddr0 T.fld_45_2_2 rfl) ?_
          refine rs_a 2 rfl rfl rfl rfl (v_fieldAddr0 T.fld_23_0_0 rfl) ?_
          refine rs_v 1 rfl rfl rfl rfl (OpV.mono (v_load T.scal_3 rfl) (fun w hw => by exact sat_cell hw (by (repeat first | with_reducible exact xH | apply xT); first | done | fail) rfl)) (by exact hw) ?_
          refine rs_kv 3 rfl rfl rfl rfl (by exact sat_cell hw (by (repeat first | with_reducible exact xH | apply xT); first | done | fail) rfl) (v_load T.scal_3 rfl) ?_
          refine rs_kv 4 rfl rfl rfl rfl (S' := fun _ => True) trivial (v_gtrF rfl rfl (by omega)) ?_
          refine rs_kv 5 rfl rfl rfl rfl (S' := fun _ => True) trivial (v_move rfl) ?_
          refine rs_split (s := 72) rfl (fun g17_5 => ?_) (fun g17_5 => ?_)
          · try with_reducible exact ft_elim g17_5
            all_goals
              try replace g17_5 := of_decide_eq_true g17_5
              omega
          · try with_reducible exact tf_elim g17_5
            all_goals
              try replace g17_5 := of_decide_eq_false g17_5
              refine rs_ag 6 rfl (met_on rfl rfl rfl rfl) rfl rfl (v_fieldAddr0 T.fld_45_0_0 rfl) ?_
              refine rs_vg 7 rfl (met_on rfl rfl rfl rfl) rfl rfl (OpV.mono (v_load T.scal_3 rfl) (fun w hw => by exact sat_cell hw (by (repeat first | with_reducible exact xH | apply xT); first | done | fail) rfl)) (by exact hw) ?_
              refine rs_kvg 8 rfl (met_on rfl rfl rfl rfl) rfl rfl (by exact sat_cells hw (by (repeat first | with_reducible exact xH | apply xT); first | done | fail) ⟨rfl, rfl, rfl, rfl, rfl, rfl, rfl, trivial⟩) (v_loadAgg (vs := [_, _, _, _, _, _, _]) T.agg_23_7 rfl rfl) ?_
              refine rs_kg 9 rfl (met_on rfl rfl rfl rfl) (k_callf Try.func27 rfl rfl rfl rfl ?_)
              refine Calls.mono (levels_calls q (hw.xQ)) ?_
              rintro _ w ⟨rfl, hw⟩
              refine ⟨_, rfl, ?_⟩
              refine ⟨fun _ => (by exact hw), ?_⟩
              refine rs_kvg 10 rfl (met_on rfl rfl rfl rfl) rfl rfl (S' := fun _ => True) trivial (v_gtrF rfl rfl (by omega)) ?_
              refine rs_kv 11 rfl rfl rfl rfl (S' := fun _ => True) trivial (v_pick_false rfl rfl) ?_
              refine rs_kv 12 rfl rfl rfl rfl (S' := fun _ => True) trivial (v_move rfl) ?_
              refine rs_split (s := 79) rfl (fun g17_12 => ?_) (fun g17_12 => ?_)
              · try with_reducible exact ft_elim g17_12
                all_goals
                  try replace g17_12 := of_decide_eq_true g17_12
                  omega
              · try with_reducible exact tf_elim g17_12
                all_goals
                  try replace g17_12 := of_decide_eq_false g17_12
                  refine rs_ag 13 rfl (met_on rfl rfl rfl rfl) rfl rfl (v_move rfl) ?_
                  refine rs_kvg 14 rfl (met_on rfl rfl rfl rfl) rfl rfl (S' := fun _ => True) trivial (v_fieldAddr0 T.fld_45_0_0 rfl) ?_
                  refine rs_kvg 15 rfl (met_on rfl rfl rfl rfl) rfl rfl (by exact sat_cell hw (by (repeat first | with_reducible exact xH | apply xT); first | done | fail) rfl) (v_load T.scal_3 rfl) ?_
                  refine rs_kg 16 rfl (met_on rfl rfl rfl rfl) (k_callf Try.func40 rfl rfl rfl rfl ?_)
                  refine Calls.mono (hsh (hw.xQ)) ?_
                  rintro _ w ⟨rfl, hw⟩
                  refine ⟨_, rfl, ?_⟩
                  refine ⟨fun hn => absurd (by decide) hn, ?_⟩
                  refine rs_kvg 17 rfl (met_on rfl rfl rfl rfl) rfl rfl (S' := fun _ => True) trivial (v_not rfl) ?_
                  refine rs_kv 18 rfl rfl rfl rfl (S' := fun _ => True) trivial (v_pick_false rfl rfl) ?_
                  refine rs_done (g_le (xK (xS rfl (xS rfl (xS rfl (xS rfl (xS rfl (xS rfl (xS rfl (xS rfl (xS rfl (xS rfl (xS rfl (xS rfl (xS rfl (xS rfl (xS rfl (xS rfl (xS rfl (xS rfl (xS rfl (xS rfl (Fr.le_refl _)))))))))))))))))))))) ?_)
                  refine g_cond_false rfl ?_
                  refine g_skip (g_seq ?_)
                  refine g_region ?_
                  refine rl_v rfl rfl rfl (by exact sat_cells hw (by (repeat first | with_reducible exact xH | apply xT); first | done | fail) ⟨rfl, rfl, rfl, rfl, trivial⟩) (v_loadAgg (vs := [_, _, _, _]) T.agg_45_4 rfl rfl) ?_
                  refine rl_k rfl (k_storeWhole hw T.agg_45_4 rfl rfl (by simp [Value.oneCell']) rfl (by (repeat first | with_reducible exact xH | apply xT); first | done | fail) rfl (fun w hw => ?_))
                  refine xV rfl rfl rfl (v_assign rfl) ?_
                  refine rl_nil (g_le (xK (xS rfl (Fr.le_refl _))) ?_)
                  refine g_res2 Try.func15 rfl ⟨_, rfl, holds_agg (vs := [_, _, _, _]) T.agg_45_4 rfl (by exact sat_cells hw (by (repeat first | with_reducible exact xH | apply xT); first | done | fail) ⟨rfl, rfl, rfl, rfl, trivial⟩)⟩ rfl ?_
                  exact ⟨g1, A1, hg1, hI1, rfl, hw.xQ⟩
end Go.Proofs.Ytdiocmjhencbpaa
