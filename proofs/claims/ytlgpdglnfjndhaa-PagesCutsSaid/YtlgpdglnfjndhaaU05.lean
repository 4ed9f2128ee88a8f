/-
  What the reference says of a secret (layer 5) and of a node (layer 6).
-/
import Derived.Test.YtlgpdglnfjndhaaE05
namespace Go.Proofs.Ytlgpdglnfjndhaa
set_option maxRecDepth 8000
set_option linter.unusedSimpArgs false
set_option linter.unusedVariables false
open Go Xe
theorem ord_f77_r12_U05 : orderOfB Try.f77 12 [] (.k 0 (.k 1 (.k 2 (.k 3 (.k 4 (.k 5 (.k 6 (.k 7 (.k 8 (.k 9 (.k 10 (.k 11 (.a 12 (.a 14 (.a 16 (.a 17 (.v 13 (.k 15 (.k 18 (.k 19 (.k 20 (.k 21 (.k 22 (.k 23 .done)))))))))))))))))))))))) = true := by kernel_rfl
set_option maxHeartbeats 1000000 in
theorem rnamed_calls {E : Env} {w : World} {L : List As} {g : Hp} {ecs : List Value} {e : En} (q : Qt) (he : rdEn g ecs e) (hw : Sat E w (RO g :: L)) :
    Calls Try.prog 77 #[q.v, .agg ecs.toArray] w fun v w' => v = .returned (.int .i64 (namedE q e)) ∧ Sat E w' (RO g :: L) := by
  obtain ⟨va, vn, vc, rfl, he⟩ := en_told he
  obtain ⟨q0, q1, hqq, ⟨p0, hns⟩, p1⟩ := id he
  simp only [List.cons.injEq, and_true] at hqq
  obtain ⟨rfl, rfl⟩ := hqq
  simp only [reachBytes] at hns
  obtain ⟨rfl, hvb, _, _, gv⟩ := rdSl_get p1
  simp only [reachBytes] at hvb
  unfold namedE
  refine calls_of_g (n := 72) Try.func77 rfl rfl rfl ?_
  change G _ _ _ _ _ [(0, _), (1, _)] _
  refine g_seq ?_
  refine g_region ?_
  refine rl_k rfl (k_box hw rfl rfl rfl (fun bk0_0 w hw => ?_))
  refine rl_k rfl (k_box hw rfl rfl rfl (fun bk0_1 w hw => ?_))
  refine xV rfl rfl rfl (v_assign rfl) ?_
  refine rl_nil (g_le (xK (xK (xK (Fr.le_refl _)))) ?_)
  refine g_seq (g_seq ?_)
  refine g_region ?_
  refine rl_v rfl rfl rfl (by exact sat_cells hw (by (repeat first | with_reducible exact xH | apply xT); first | done | fail) ⟨rfl, rfl, rfl, rfl, rfl, rfl, rfl, trivial⟩) (v_loadAgg (vs := [_, _, _, _, _, _, _]) T.agg_23_7 rfl rfl) ?_
  refine rl_k rfl (k_callf Try.func8 rfl rfl rfl rfl ?_)
  refine Calls.mono (rright_calls q (hw.xQ)) ?_
  rintro _ w ⟨rfl, hw⟩
  refine ⟨_, rfl, ?_⟩
  refine xV rfl rfl rfl (v_not rfl) ?_
  refine rl_nil (g_le (xK (xS rfl (xS rfl (Fr.le_refl _)))) ?_)
  refine g_cond rfl (fun h1 => ?_) (fun h1 => ?_)
  · try with_reducible exact ft_elim h1
    all_goals
      try replace h1 := of_decide_eq_true h1
      refine g_seq ?_
      refine g_region ?_
      refine xV rfl rfl rfl (v_assign rfl) ?_
      refine rl_nil (g_le (xK (Fr.le_refl _)) ?_)
      refine g_ret1 Try.func77 rfl rfl ?_
      rw [if_pos (by simpa using h1)]
      exact ⟨rfl, hw.xQ⟩
  · try with_reducible exact tf_elim h1
    all_goals
      try replace h1 := of_decide_eq_false h1
      have hq : q.ok := by simpa using h1
      obtain ⟨_, hq2, _, _, hq5, _⟩ := id hq
      rw [if_neg (by simpa using hq)]
      refine g_skip (g_seq (g_seq ?_))
      refine g_region ?_
      refine xV rfl rfl rfl (v_fieldAddr0 T.fld_126_0_0 rfl) ?_
      refine rl_v rfl rfl rfl (by exact sat_cell hw (by (repeat first | with_reducible exact xH | apply xT); first | done | fail) rfl) (v_load T.scal_9 rfl) ?_
      refine xV rfl rfl rfl (v_eqlStr rfl rfl) ?_
      refine rl_nil (g_le (xK (xS rfl (xS rfl (Fr.le_refl _)))) ?_)
      refine g_cond rfl (fun h2 => ?_) (fun h2 => ?_)
      · try with_reducible exact ft_elim h2
        all_goals
          try replace h2 := of_decide_eq_true h2
          refine g_seq ?_
          refine g_region ?_
          refine xV rfl rfl rfl (v_assign rfl) ?_
          refine rl_nil (g_le (xK (Fr.le_refl _)) ?_)
          refine g_ret1 Try.func77 rfl rfl ?_
          rw [if_pos (show e.name = ByteArray.empty from h2)]
          exact ⟨rfl, hw.xQ⟩
      · try with_reducible exact tf_elim h2
        all_goals
          try replace h2 := of_decide_eq_false h2
          rw [if_neg (show ¬ e.name = ByteArray.empty from h2)]
          refine g_skip (g_seq (g_seq ?_))
          refine g_region ?_
          refine xV rfl rfl rfl (v_fieldAddr0 T.fld_126_0_0 rfl) ?_
          refine rl_v rfl rfl rfl (by exact sat_cell hw (by (repeat first | with_reducible exact xH | apply xT); first | done | fail) rfl) (v_load T.scal_9 rfl) ?_
          refine xV rfl rfl rfl (v_lenStr T.str_9 rfl) ?_
          refine xV rfl rfl rfl (v_fieldAddr0 T.fld_23_1_1 rfl) ?_
          refine rl_v rfl rfl rfl (by exact sat_cell hw (by (repeat first | with_reducible exact xH | apply xT); first | done | fail) rfl) (v_load T.scal_3 rfl) ?_
          refine xV rfl rfl rfl (v_gtr rfl rfl) ?_
          refine rl_nil (g_le (xK (xS rfl (xS rfl (xS rfl (xS rfl (xS rfl (Fr.le_refl _))))))) ?_)
          refine g_cond rfl (fun h3 => ?_) (fun h3 => ?_)
          · try with_reducible exact ft_elim h3
            all_goals
              try replace h3 := of_decide_eq_true h3
              refine g_seq ?_
              refine g_region ?_
              refine xV rfl rfl rfl (v_assign rfl) ?_
              refine rl_nil (g_le (xK (Fr.le_refl _)) ?_)
              refine g_ret1 Try.func77 rfl rfl ?_
              rw [if_pos (by omega)]
              exact ⟨rfl, hw.xQ⟩
          · try with_reducible exact tf_elim h3
            all_goals
              try replace h3 := of_decide_eq_false h3
              rw [if_neg (by omega)]
              refine g_skip (g_seq (g_seq ?_))
              refine g_region ?_
              refine xV rfl rfl rfl (v_fieldAddr0 T.fld_126_1_1 rfl) ?_
              refine rl_v rfl rfl rfl (by exact sat_cell hw (by (repeat first | with_reducible exact xH | apply xT); first | done | fail) rfl) (v_load T.scal_124 rfl) ?_
              refine xV rfl rfl rfl (v_lenSlice T.sl_124_136_3 rfl) ?_
              refine xV rfl rfl rfl (v_fieldAddr0 T.fld_23_4_4 rfl) ?_
              refine rl_v rfl rfl rfl (by exact sat_cell hw (by (repeat first | with_reducible exact xH | apply xT); first | done | fail) rfl) (v_load T.scal_3 rfl) ?_
              refine xV rfl rfl rfl (v_gtr rfl rfl) ?_
              refine rl_nil (g_le (xK (xS rfl (xS rfl (xS rfl (xS rfl (xS rfl (Fr.le_refl _))))))) ?_)
              refine g_cond rfl (fun h4 => ?_) (fun h4 => ?_)
              · try with_reducible exact ft_elim h4
                all_goals
                  try replace h4 := of_decide_eq_true h4
                  refine g_seq ?_
                  refine g_region ?_
                  refine xV rfl rfl rfl (v_assign rfl) ?_
                  refine rl_nil (g_le (xK (Fr.le_refl _)) ?_)
                  refine g_ret1 Try.func77 rfl rfl ?_
                  rw [if_pos (by omega)]
                  exact ⟨rfl, hw.xQ⟩
              · try with_reducible exact tf_elim h4
                all_goals
                  try replace h4 := of_decide_eq_false h4
                  rw [if_neg (by omega)]
                  refine g_skip (g_seq (g_seq ?_))
                  refine g_region ?_
                  refine xV rfl rfl rfl (v_fieldAddr0 T.fld_126_1_1 rfl) ?_
                  refine rl_v rfl rfl rfl (by exact sat_cell hw (by (repeat first | with_reducible exact xH | apply xT); first | done | fail) rfl) (v_load T.scal_124 rfl) ?_
                  refine xV rfl rfl rfl (v_lenSlice T.sl_124_136_3 rfl) ?_
                  refine xV rfl rfl rfl (v_move rfl) ?_
                  refine rl_nil (g_le (xK (xK (xK (xS rfl (Fr.le_refl _))))) ?_)
                  refine g_block ?_
                  refine g_loopC (σ := Nat × Int) (fun C x => (28, .int .i64 (x.1 : Nat)) :: C) [(2, _), (3, _), (4, _), (26, _), (27, _)] (by repeat (first | exact Fr.le_nil _ | refine Fr.le_cons rfl ?_)) (fun z w => z.1 ≤ e.versions.length ∧ verBad q 0 e.versions = verBad q z.2 (e.versions.drop z.1) ∧ (z.1 = 0 → z.2 = 0) ∧ (0 < z.1 → 1 ≤ z.2) ∧ (0 < z.1 → ∀ v, e.versions[z.1 - 1]? = some v → v.no = z.2) ∧ Sat E w (QtAt bk0_0 q :: pt bk0_1 (.cells [Value.string e.name, .slice va e.versions.length vc].toArray 126 (0, 0)) :: RO g :: L)) (fun z => e.versions.length - z.1) ?_ (0, 0) (by repeat (first | exact Fr.le_nil _ | refine Fr.le_cons rfl ?_)) ⟨by simp, by simp, fun _ => rfl, fun h => absurd h (by simp), fun h => absurd h (by simp), hw.xQ⟩
                  rintro ⟨i, last⟩ w ⟨hi1, heq, hl0, hl1, hl2, hw⟩ ih
                  dsimp only at hi1 heq hl0 hl1 hl2 hw ih ⊢
                  have hlp : (i = 0 ∧ last = 0) ∨ (0 < i ∧ 1 ≤ last) := by omega
                  refine g_seq ?_
                  refine g_region ?_
                  refine xV rfl rfl rfl (v_lss rfl rfl) ?_
                  refine rl_nil (g_le (xK (Fr.le_refl _)) ?_)
                  refine g_seq ?_
                  refine g_cond rfl (fun h5 => ?_) (fun h5 => ?_)
                  · try with_reducible exact ft_elim h5
                    all_goals
                      try replace h5 := of_decide_eq_true h5
                      refine g_skip (g_seq (g_block (g_seq ?_)))
                      have hz := hw
                      clear hw
                      obtain ⟨b4, o1, v, vcs, rfl, hv, hat1, hl9, rfl, hvok⟩ := gv (i : Nat) (by omega) (by omega)
                      rw [Int.toNat_natCast] at hv hat1
                      obtain ⟨hv1, hv2⟩ := List.getElem?_eq_some_iff.1 hv
                      rw [List.drop_eq_getElem_cons hv1, hv2] at heq
                      simp only [verBad] at heq
                      obtain ⟨_, hvv, hvn⟩ := id hvok
                      have hw := hz
                      refine g_region ?_
                      refine xV rfl rfl rfl (v_move rfl) ?_
                      refine xV rfl rfl rfl (v_indexAddr T.sl_124_136_3 rfl rfl (by omega) (by omega)) ?_
                      refine rl_v rfl rfl rfl (by exact ro_ats hw (by (repeat first | with_reducible exact xH | apply xT); first | done | fail) (by assumption)) (v_loadAgg (vs := [_, _, _]) T.agg_136_3 rfl rfl) ?_
                      refine rl_k rfl (k_alloc hw T.zero_136 rfl rfl (fun bk11_3 w hw => ?_))
                      refine xV rfl rfl rfl (v_assign rfl) ?_
                      refine rl_k rfl (k_storeWhole hw T.agg_136_3 rfl rfl (by simp [Value.oneCell']) rfl (by (repeat first | with_reducible exact xH | apply xT); first | done | fail) rfl (fun w hw => ?_))
                      refine rl_nil (g_le (xK (xK (xK (xK (xK (Fr.le_refl _)))))) ?_)
                      refine g_seq (g_seq ?_)
                      refine g_drawR ord_f77_r12_U05 (by kernel_rfl) T.mixed hw (fun w hw => ?_)
                      refine rs_kv 0 rfl rfl rfl rfl (S' := fun _ => True) trivial (v_fieldAddr0 T.fld_136_0_0 rfl) ?_
                      refine rs_kv 1 rfl rfl rfl rfl (by exact sat_cell hw (by (repeat first | with_reducible exact xH | apply xT); first | done | fail) rfl) (v_load T.scal_3 rfl) ?_
                      refine rs_kv 2 rfl rfl rfl rfl (S' := fun _ => True) trivial (v_lss rfl rfl) ?_
                      refine rs_kv 3 rfl rfl rfl rfl (S' := fun _ => True) trivial (v_move rfl) ?_
                      refine rs_split (s := 36) rfl (fun g12_3 => ?_) (fun g12_3 => ?_)
                      · try with_reducible exact ft_elim g12_3
                        all_goals
                          try replace g12_3 := of_decide_eq_true g12_3
                          refine rs_koff 4 rfl (met_off rfl rfl rfl rfl rfl) rfl rfl ?_
                          refine rs_koff 5 rfl (met_off rfl rfl rfl rfl rfl) rfl rfl ?_
                          refine rs_koff 6 rfl (met_off rfl rfl rfl rfl rfl) rfl rfl ?_
                          refine rs_kv 7 rfl rfl rfl rfl (S' := fun _ => True) trivial (v_pick_true rfl rfl) ?_
                          refine rs_kv 8 rfl rfl rfl rfl (S' := fun _ => True) trivial (v_move rfl) ?_
                          refine rs_koff 9 rfl (met_off rfl rfl rfl rfl rfl) rfl rfl ?_
                          refine rs_koff 10 rfl (met_off rfl rfl rfl rfl rfl) rfl rfl ?_
                          refine rs_koff 11 rfl (met_off rfl rfl rfl rfl rfl) rfl rfl ?_
                          refine rs_aoff 12 rfl (met_gone rfl rfl rfl rfl) rfl rfl ?_
                          refine rs_aoff 14 rfl (met_gone rfl rfl rfl rfl) rfl rfl ?_
                          refine rs_aoff 16 rfl (met_gone rfl rfl rfl rfl) rfl rfl ?_
                          refine rs_aoff 17 rfl (met_gone rfl rfl rfl rfl) rfl rfl ?_
                          refine rs_voff 13 rfl (met_gone rfl rfl rfl rfl) rfl rfl (by exact hw) ?_
                          refine rs_koff 15 rfl (met_gone rfl rfl rfl rfl) rfl rfl ?_
                          refine rs_koff 18 rfl (met_gone rfl rfl rfl rfl) rfl rfl ?_
                          refine rs_koff 19 rfl (met_gone rfl rfl rfl rfl) rfl rfl ?_
                          refine rs_koff 20 rfl (met_gone rfl rfl rfl rfl) rfl rfl ?_
                          refine rs_koff 21 rfl (met_gone rfl rfl rfl rfl) rfl rfl ?_
                          refine rs_koff 22 rfl (met_off rfl rfl rfl rfl rfl) rfl rfl ?_
                          refine rs_kv 23 rfl rfl rfl rfl (S' := fun _ => True) trivial (v_pick_true rfl rfl) ?_
                          refine rs_done (g_le (xK (xK (xK (xK (xK (xK (xK (xK (xK (xK (xK (xK (xK (xK (xK (xK (xK (xK (xK (xK (xK (xK (xK (xK (xK (Fr.le_refl _)))))))))))))))))))))))))) ?_)
                          refine g_cond_true rfl ?_
                          refine g_seq ?_
                          refine g_region ?_
                          refine xV rfl rfl rfl (v_assign rfl) ?_
                          refine rl_nil (g_le (xK (Fr.le_refl _)) ?_)
                          refine g_ret1 Try.func77 rfl rfl ?_
                          rw [if_pos (by omega)] at heq
                          rw [heq]
                          exact ⟨rfl, hw.xQ⟩
                      · try with_reducible exact tf_elim g12_3
                        all_goals
                          try replace g12_3 := of_decide_eq_false g12_3
                          refine rs_kvg 4 rfl (met_on rfl rfl rfl rfl) rfl rfl (S' := fun _ => True) trivial (v_fieldAddr0 T.fld_136_0_0 rfl) ?_
                          refine rs_kvg 5 rfl (met_on rfl rfl rfl rfl) rfl rfl (by exact sat_cell hw (by (repeat first | with_reducible exact xH | apply xT); first | done | fail) rfl) (v_load T.scal_3 rfl) ?_
                          refine rs_kvg 6 rfl (met_on rfl rfl rfl rfl) rfl rfl (S' := fun _ => True) trivial (v_gtr rfl rfl) ?_
                          refine rs_kv 7 rfl rfl rfl rfl (S' := fun _ => True) trivial (v_pick_false rfl rfl) ?_
                          refine rs_kv 8 rfl rfl rfl rfl (S' := fun _ => True) trivial (v_move rfl) ?_
                          refine rs_split (s := 41) rfl (fun g12_8 => ?_) (fun g12_8 => ?_)
                          · try with_reducible exact ft_elim g12_8
                            all_goals
                              try replace g12_8 := of_decide_eq_true g12_8
                              refine rs_koff 9 rfl (met_off rfl rfl rfl rfl rfl) rfl rfl ?_
                              refine rs_koff 10 rfl (met_off rfl rfl rfl rfl rfl) rfl rfl ?_
                              refine rs_koff 11 rfl (met_off rfl rfl rfl rfl rfl) rfl rfl ?_
                              refine rs_aoff 12 rfl (met_gone rfl rfl rfl rfl) rfl rfl ?_
                              refine rs_aoff 14 rfl (met_gone rfl rfl rfl rfl) rfl rfl ?_
                              refine rs_aoff 16 rfl (met_gone rfl rfl rfl rfl) rfl rfl ?_
                              refine rs_aoff 17 rfl (met_gone rfl rfl rfl rfl) rfl rfl ?_
                              refine rs_voff 13 rfl (met_gone rfl rfl rfl rfl) rfl rfl (by exact hw) ?_
                              refine rs_koff 15 rfl (met_gone rfl rfl rfl rfl) rfl rfl ?_
                              refine rs_koff 18 rfl (met_gone rfl rfl rfl rfl) rfl rfl ?_
                              refine rs_koff 19 rfl (met_gone rfl rfl rfl rfl) rfl rfl ?_
                              refine rs_koff 20 rfl (met_gone rfl rfl rfl rfl) rfl rfl ?_
                              refine rs_koff 21 rfl (met_gone rfl rfl rfl rfl) rfl rfl ?_
                              refine rs_koff 22 rfl (met_off rfl rfl rfl rfl rfl) rfl rfl ?_
                              refine rs_kv 23 rfl rfl rfl rfl (S' := fun _ => True) trivial (v_pick_true rfl rfl) ?_
                              refine rs_done (g_le (xK (xK (xK (xK (xK (xK (xK (xK (xK (xK (xK (xK (xK (xK (xK (xK (xK (xK (xK (xK (xK (xK (xK (xK (xK (xK (Fr.le_refl _))))))))))))))))))))))))))) ?_)
                              refine g_cond_true rfl ?_
                              refine g_seq ?_
                              refine g_region ?_
                              refine xV rfl rfl rfl (v_assign rfl) ?_
                              refine rl_nil (g_le (xK (Fr.le_refl _)) ?_)
                              refine g_ret1 Try.func77 rfl rfl ?_
                              rw [if_pos (by omega)] at heq
                              rw [heq]
                              exact ⟨rfl, hw.xQ⟩
                          · try with_reducible exact tf_elim g12_8
                            all_goals
                              try replace g12_8 := of_decide_eq_false g12_8
                              refine rs_kvg 9 rfl (met_on rfl rfl rfl rfl) rfl rfl (S' := fun _ => True) trivial (v_move rfl) ?_
                              refine rs_kvg 10 rfl (met_on rfl rfl rfl rfl) rfl rfl (S' := fun _ => True) trivial (v_gtr rfl rfl) ?_
                              refine rs_kvg 11 rfl (met_on rfl rfl rfl rfl) rfl rfl (S' := fun _ => True) trivial (v_move rfl) ?_
                              refine rs_split (s := 44) rfl (fun g12_11 => ?_) (fun g12_11 => ?_)
                              · try with_reducible exact ft_elim g12_11
                                all_goals
                                  try replace g12_11 := of_decide_eq_true g12_11
                                  obtain ⟨b7, o7, e7, ecs7, hz8, he7, hat7, hl7, rfl, hrd7⟩ := gv ((i : Int) - 1) (by omega) (by omega)
                                  simp only [Option.some.injEq, Addr.mk.injEq, and_true] at hz8
                                  obtain ⟨rfl, rfl⟩ := hz8
                                  rw [show ((i : Int) - 1).toNat = i - 1 by omega] at he7
                                  have hl3 := hl2 (by omega) _ he7
                                  dsimp only [Vn.cells] at hat7
                                  refine rs_ag 12 rfl (met_on rfl rfl rfl rfl) rfl rfl (v_fieldAddr0 T.fld_136_0_0 rfl) ?_
                                  refine rs_ag 14 rfl (met_on rfl rfl rfl rfl) rfl rfl (v_fieldAddr0 T.fld_126_1_1 rfl) ?_
                                  refine rs_ag 16 rfl (met_on rfl rfl rfl rfl) rfl rfl (v_move rfl) ?_
                                  refine rs_ag 17 rfl (met_on rfl rfl rfl rfl) rfl rfl (v_sub rfl rfl (by omega)) ?_
                                  refine rs_vg 13 rfl (met_on rfl rfl rfl rfl) rfl rfl (OpV.mono (v_load T.scal_3 rfl) (fun w hw => by exact sat_cell hw (by (repeat first | with_reducible exact xH | apply xT); first | done | fail) rfl)) (by exact hw) ?_
                                  refine rs_kvg 15 rfl (met_on rfl rfl rfl rfl) rfl rfl (by exact sat_cell hw (by (repeat first | with_reducible exact xH | apply xT); first | done | fail) rfl) (v_load T.scal_124 rfl) ?_
                                  refine rs_kvg 18 rfl (met_on rfl rfl rfl rfl) rfl rfl (S' := fun _ => True) trivial (v_indexAddr T.sl_124_136_3 rfl rfl (by omega) (by omega)) ?_
                                  refine rs_kvg 19 rfl (met_on rfl rfl rfl rfl) rfl rfl (S' := fun _ => True) trivial (v_fieldAddr T.fld_136_0_0 rfl) ?_
                                  refine rs_kvg 20 rfl (met_on rfl rfl rfl rfl) rfl rfl (by exact ro_at0 hw (by (repeat first | with_reducible exact xH | apply xT); first | done | fail) (by assumption) rfl) (v_load T.scal_3 rfl) ?_
                                  refine rs_kvg 21 rfl (met_on rfl rfl rfl rfl) rfl rfl (S' := fun _ => True) trivial (v_leq rfl rfl) ?_
                                  refine rs_kvg 22 rfl (met_on rfl rfl rfl rfl) rfl rfl (S' := fun _ => True) trivial (v_pick_true rfl rfl) ?_
                                  refine rs_kv 23 rfl rfl rfl rfl (S' := fun _ => True) trivial (v_pick_false rfl rfl) ?_
                                  refine rs_done (g_le (xK (xK (xK (xK (xK (xK (xK (xK (xK (xK (xK (xK (xK (xK (xK (xK (xK (xK (xK (xK (xK (xK (xK (xK (xK (xK (xK (Fr.le_refl _)))))))))))))))))))))))))))) ?_)
                                  refine g_cond rfl (fun h6 => ?_) (fun h6 => ?_)
                                  · try with_reducible exact ft_elim h6
                                    all_goals
                                      try replace h6 := of_decide_eq_true h6
                                      refine g_seq ?_
                                      refine g_region ?_
                                      refine xV rfl rfl rfl (v_assign rfl) ?_
                                      refine rl_nil (g_le (xK (Fr.le_refl _)) ?_)
                                      refine g_ret1 Try.func77 rfl rfl ?_
                                      rw [if_pos (by omega)] at heq
                                      rw [heq]
                                      exact ⟨rfl, hw.xQ⟩
                                  · try with_reducible exact tf_elim h6
                                    all_goals
                                      try replace h6 := of_decide_eq_false h6
                                      refine g_skip (g_seq ?_)
                                      have hl4 : ¬ (v.no ≤ last ∨ 1073741824 < v.no) := by omega
                                      rw [if_neg hl4] at heq
                                      refine g_region ?_
                                      refine xV rfl rfl rfl (v_fieldAddr0 T.fld_136_1_1 rfl) ?_
                                      refine rl_v rfl rfl rfl (by exact sat_cell hw (by (repeat first | with_reducible exact xH | apply xT); first | done | fail) rfl) (v_load T.scal_9 rfl) ?_
                                      refine xV rfl rfl rfl (v_lenStr T.str_9 rfl) ?_
                                      refine xV rfl rfl rfl (v_fieldAddr0 T.fld_23_2_2 rfl) ?_
                                      refine rl_v rfl rfl rfl (by exact sat_cell hw (by (repeat first | with_reducible exact xH | apply xT); first | done | fail) rfl) (v_load T.scal_3 rfl) ?_
                                      refine xV rfl rfl rfl (v_gtr rfl rfl) ?_
                                      refine xV rfl rfl rfl (v_move rfl) ?_
                                      refine rl_split (s := 63) rfl (fun g14_6 => ?_) (fun g14_6 => ?_)
                                      · try with_reducible exact ft_elim g14_6
                                        all_goals
                                          try replace g14_6 := of_decide_eq_true g14_6
                                          refine rl_off (met_off rfl rfl rfl rfl rfl) rfl rfl ?_
                                          refine rl_off (met_off rfl rfl rfl rfl rfl) rfl rfl ?_
                                          refine rl_off (met_off rfl rfl rfl rfl rfl) rfl rfl ?_
                                          refine rl_off (met_off rfl rfl rfl rfl rfl) rfl rfl ?_
                                          refine rl_off (met_off rfl rfl rfl rfl rfl) rfl rfl ?_
                                          refine rl_off (met_off rfl rfl rfl rfl rfl) rfl rfl ?_
                                          refine xV rfl rfl rfl (v_pick_true rfl rfl) ?_
                                          refine rl_nil (g_le (xK (xK (xK (xK (xK (xK (xK (xK (xK (xK (xK (xK (xK (xK (xK (Fr.le_refl _)))))))))))))))) ?_)
                                          refine g_cond_true rfl ?_
                                          refine g_seq ?_
                                          refine g_region ?_
                                          refine xV rfl rfl rfl (v_assign rfl) ?_
                                          refine rl_nil (g_le (xK (Fr.le_refl _)) ?_)
                                          refine g_ret1 Try.func77 rfl rfl ?_
                                          rw [if_pos (by omega)] at heq
                                          rw [heq]
                                          exact ⟨rfl, hw.xQ⟩
                                      · try with_reducible exact tf_elim g14_6
                                        all_goals
                                          try replace g14_6 := of_decide_eq_false g14_6
                                          refine rl_vg (met_on rfl rfl rfl rfl) rfl rfl (S := fun _ => True) trivial (v_fieldAddr0 T.fld_136_2_2 rfl) ?_
                                          refine rl_vg (met_on rfl rfl rfl rfl) rfl rfl (by exact sat_cell hw (by (repeat first | with_reducible exact xH | apply xT); first | done | fail) rfl) (v_load T.scal_9 rfl) ?_
                                          refine rl_vg (met_on rfl rfl rfl rfl) rfl rfl (S := fun _ => True) trivial (v_lenStr T.str_9 rfl) ?_
                                          refine rl_vg (met_on rfl rfl rfl rfl) rfl rfl (S := fun _ => True) trivial (v_fieldAddr0 T.fld_23_3_3 rfl) ?_
                                          refine rl_vg (met_on rfl rfl rfl rfl) rfl rfl (by exact sat_cell hw (by (repeat first | with_reducible exact xH | apply xT); first | done | fail) rfl) (v_load T.scal_3 rfl) ?_
                                          refine rl_vg (met_on rfl rfl rfl rfl) rfl rfl (S := fun _ => True) trivial (v_gtr rfl rfl) ?_
                                          refine xV rfl rfl rfl (v_pick_false rfl rfl) ?_
                                          refine rl_nil (g_le (xK (xK (xK (xK (xK (xK (xK (xK (xK (xK (xK (xK (xK (xK (xK (Fr.le_refl _)))))))))))))))) ?_)
                                          refine g_cond rfl (fun h7 => ?_) (fun h7 => ?_)
                                          · try with_reducible exact ft_elim h7
                                            all_goals
                                              try replace h7 := of_decide_eq_true h7
                                              refine g_seq ?_
                                              refine g_region ?_
                                              refine xV rfl rfl rfl (v_assign rfl) ?_
                                              refine rl_nil (g_le (xK (Fr.le_refl _)) ?_)
                                              refine g_ret1 Try.func77 rfl rfl ?_
                                              rw [if_pos (by omega)] at heq
                                              rw [heq]
                                              exact ⟨rfl, hw.xQ⟩
                                          · try with_reducible exact tf_elim h7
                                            all_goals
                                              try replace h7 := of_decide_eq_false h7
                                              rw [if_neg (by omega)] at heq
                                              refine g_skip (g_inBlock ?_)
                                              refine g_region ?_
                                              refine xV rfl rfl rfl (v_add rfl rfl (by omega)) ?_
                                              refine xV rfl rfl rfl (v_move rfl) ?_
                                              refine rl_nil (g_le (xK (xK (Fr.le_refl _))) ?_)
                                              exact g_le (by repeat (first | exact Fr.le_nil _ | refine Fr.le_cons rfl ?_)) (ih (i + 1, v.no) w ⟨by simp only; omega, heq, fun h => absurd h (by simp), fun _ => by simp only; omega, fun _ v' hv' => by simp only [Nat.add_sub_cancel] at hv'; rw [hv] at hv'; rw [Option.some.inj hv'], hw.xQ⟩ (by simp only; omega))
                              · try with_reducible exact tf_elim g12_11
                                all_goals
                                  try replace g12_11 := of_decide_eq_false g12_11
                                  refine rs_aoff 12 rfl (met_off rfl rfl rfl rfl rfl) rfl rfl ?_
                                  refine rs_aoff 14 rfl (met_off rfl rfl rfl rfl rfl) rfl rfl ?_
                                  refine rs_aoff 16 rfl (met_off rfl rfl rfl rfl rfl) rfl rfl ?_
                                  refine rs_aoff 17 rfl (met_off rfl rfl rfl rfl rfl) rfl rfl ?_
                                  refine rs_voff 13 rfl (met_off rfl rfl rfl rfl rfl) rfl rfl (by exact hw) ?_
                                  refine rs_koff 15 rfl (met_off rfl rfl rfl rfl rfl) rfl rfl ?_
                                  refine rs_koff 18 rfl (met_off rfl rfl rfl rfl rfl) rfl rfl ?_
                                  refine rs_koff 19 rfl (met_off rfl rfl rfl rfl rfl) rfl rfl ?_
                                  refine rs_koff 20 rfl (met_off rfl rfl rfl rfl rfl) rfl rfl ?_
                                  refine rs_koff 21 rfl (met_off rfl rfl rfl rfl rfl) rfl rfl ?_
                                  refine rs_kvg 22 rfl (met_on rfl rfl rfl rfl) rfl rfl (S' := fun _ => True) trivial (v_pick_false rfl rfl) ?_
                                  refine rs_kv 23 rfl rfl rfl rfl (S' := fun _ => True) trivial (v_pick_false rfl rfl) ?_
                                  refine rs_done (g_le (xK (xK (xK (xK (xK (xK (xK (xK (xK (xK (xK (xK (xK (xK (xK (xK (xK (xK (xK (xK (xK (xK (xK (xK (xK (xK (xK (Fr.le_refl _)))))))))))))))))))))))))))) ?_)
                                  refine g_cond_false rfl ?_
                                  refine g_skip (g_seq ?_)
                                  have hl4 : ¬ (v.no ≤ last ∨ 1073741824 < v.no) := by omega
                                  rw [if_neg hl4] at heq
                                  refine g_region ?_
                                  refine xV rfl rfl rfl (v_fieldAddr0 T.fld_136_1_1 rfl) ?_
                                  refine rl_v rfl rfl rfl (by exact sat_cell hw (by (repeat first | with_reducible exact xH | apply xT); first | done | fail) rfl) (v_load T.scal_9 rfl) ?_
                                  refine xV rfl rfl rfl (v_lenStr T.str_9 rfl) ?_
                                  refine xV rfl rfl rfl (v_fieldAddr0 T.fld_23_2_2 rfl) ?_
                                  refine rl_v rfl rfl rfl (by exact sat_cell hw (by (repeat first | with_reducible exact xH | apply xT); first | done | fail) rfl) (v_load T.scal_3 rfl) ?_
                                  refine xV rfl rfl rfl (v_gtr rfl rfl) ?_
                                  refine xV rfl rfl rfl (v_move rfl) ?_
                                  refine rl_split (s := 63) rfl (fun g14_6 => ?_) (fun g14_6 => ?_)
                                  · try with_reducible exact ft_elim g14_6
                                    all_goals
                                      try replace g14_6 := of_decide_eq_true g14_6
                                      refine rl_off (met_off rfl rfl rfl rfl rfl) rfl rfl ?_
                                      refine rl_off (met_off rfl rfl rfl rfl rfl) rfl rfl ?_
                                      refine rl_off (met_off rfl rfl rfl rfl rfl) rfl rfl ?_
                                      refine rl_off (met_off rfl rfl rfl rfl rfl) rfl rfl ?_
                                      refine rl_off (met_off rfl rfl rfl rfl rfl) rfl rfl ?_
                                      refine rl_off (met_off rfl rfl rfl rfl rfl) rfl rfl ?_
                                      refine xV rfl rfl rfl (v_pick_true rfl rfl) ?_
                                      refine rl_nil (g_le (xK (xK (xK (xK (xK (xK (xK (xK (xK (xK (xK (xK (xK (xK (xK (Fr.le_refl _)))))))))))))))) ?_)
                                      refine g_cond_true rfl ?_
                                      refine g_seq ?_
                                      refine g_region ?_
                                      refine xV rfl rfl rfl (v_assign rfl) ?_
                                      refine rl_nil (g_le (xK (Fr.le_refl _)) ?_)
                                      refine g_ret1 Try.func77 rfl rfl ?_
                                      rw [if_pos (by omega)] at heq
                                      rw [heq]
                                      exact ⟨rfl, hw.xQ⟩
                                  · try with_reducible exact tf_elim g14_6
                                    all_goals
                                      try replace g14_6 := of_decide_eq_false g14_6
                                      refine rl_vg (met_on rfl rfl rfl rfl) rfl rfl (S := fun _ => True) trivial (v_fieldAddr0 T.fld_136_2_2 rfl) ?_
                                      refine rl_vg (met_on rfl rfl rfl rfl) rfl rfl (by exact sat_cell hw (by (repeat first | with_reducible exact xH | apply xT); first | done | fail) rfl) (v_load T.scal_9 rfl) ?_
                                      refine rl_vg (met_on rfl rfl rfl rfl) rfl rfl (S := fun _ => True) trivial (v_lenStr T.str_9 rfl) ?_
                                      refine rl_vg (met_on rfl rfl rfl rfl) rfl rfl (S := fun _ => True) trivial (v_fieldAddr0 T.fld_23_3_3 rfl) ?_
                                      refine rl_vg (met_on rfl rfl rfl rfl) rfl rfl (by exact sat_cell hw (by (repeat first | with_reducible exact xH | apply xT); first | done | fail) rfl) (v_load T.scal_3 rfl) ?_
                                      refine rl_vg (met_on rfl rfl rfl rfl) rfl rfl (S := fun _ => True) trivial (v_gtr rfl rfl) ?_
                                      refine xV rfl rfl rfl (v_pick_false rfl rfl) ?_
                                      refine rl_nil (g_le (xK (xK (xK (xK (xK (xK (xK (xK (xK (xK (xK (xK (xK (xK (xK (Fr.le_refl _)))))))))))))))) ?_)
                                      refine g_cond rfl (fun h7 => ?_) (fun h7 => ?_)
                                      · try with_reducible exact ft_elim h7
                                        all_goals
                                          try replace h7 := of_decide_eq_true h7
                                          refine g_seq ?_
                                          refine g_region ?_
                                          refine xV rfl rfl rfl (v_assign rfl) ?_
                                          refine rl_nil (g_le (xK (Fr.le_refl _)) ?_)
                                          refine g_ret1 Try.func77 rfl rfl ?_
                                          rw [if_pos (by omega)] at heq
                                          rw [heq]
                                          exact ⟨rfl, hw.xQ⟩
                                      · try with_reducible exact tf_elim h7
                                        all_goals
                                          try replace h7 := of_decide_eq_false h7
                                          rw [if_neg (by omega)] at heq
                                          refine g_skip (g_inBlock ?_)
                                          refine g_region ?_
                                          refine xV rfl rfl rfl (v_add rfl rfl (by omega)) ?_
                                          refine xV rfl rfl rfl (v_move rfl) ?_
                                          refine rl_nil (g_le (xK (xK (Fr.le_refl _))) ?_)
                                          exact g_le (by repeat (first | exact Fr.le_nil _ | refine Fr.le_cons rfl ?_)) (ih (i + 1, v.no) w ⟨by simp only; omega, heq, fun h => absurd h (by simp), fun _ => by simp only; omega, fun _ v' hv' => by simp only [Nat.add_sub_cancel] at hv'; rw [hv] at hv'; rw [Option.some.inj hv'], hw.xQ⟩ (by simp only; omega))
                  · try with_reducible exact tf_elim h5
                    all_goals
                      try replace h5 := of_decide_eq_false h5
                      refine g_exit rfl (g_seq ?_)
                      refine g_region ?_
                      refine xV rfl rfl rfl (v_assign rfl) ?_
                      refine rl_nil (g_le (xK (Fr.le_refl _)) ?_)
                      refine g_ret1 Try.func77 rfl rfl ?_
                      rw [List.drop_eq_nil_of_le (by omega)] at heq
                      rw [heq]
                      exact ⟨rfl, hw.xQ⟩
theorem rrightE_calls {E : Env} {w : World} {L : List As} {g : Hp} {ecs : List Value} {e : En} (q : Qt) (he : rdEn g ecs e) (hw : Sat E w (RO g :: L)) :
    Calls Try.prog 55 #[q.v, .agg ecs.toArray] w fun v w' => v = .returned (.int .i64 (rightE q e)) ∧ Sat E w' (RO g :: L) := by
  obtain ⟨va, vn, vc, rfl, he⟩ := en_told he
  obtain ⟨q0, q1, hqq, ⟨p0, hns⟩, p1⟩ := id he
  simp only [List.cons.injEq, and_true] at hqq
  obtain ⟨rfl, rfl⟩ := hqq
  obtain ⟨rfl, hvb, _, _, gv⟩ := rdSl_get p1
  unfold rightE
  refine calls_of_g (n := 18) Try.func55 rfl rfl rfl ?_
  change G _ _ _ _ _ [(0, _), (1, _)] _
  refine g_seq ?_
  refine g_region ?_
  refine rl_k rfl (k_box hw rfl rfl rfl (fun bk0_0 w hw => ?_))
  refine rl_k rfl (k_box hw rfl rfl rfl (fun bk0_1 w hw => ?_))
  refine xV rfl rfl rfl (v_assign rfl) ?_
  refine rl_nil (g_le (xK (xK (xK (Fr.le_refl _)))) ?_)
  refine g_seq ?_
  refine g_region ?_
  refine rl_v rfl rfl rfl (by exact sat_cells hw (by (repeat first | with_reducible exact xH | apply xT); first | done | fail) ⟨rfl, rfl, rfl, rfl, rfl, rfl, rfl, trivial⟩) (v_loadAgg (vs := [_, _, _, _, _, _, _]) T.agg_23_7 rfl rfl) ?_
  refine rl_v rfl rfl rfl (by exact sat_cells hw (by (repeat first | with_reducible exact xH | apply xT); first | done | fail) ⟨rfl, rfl, trivial⟩) (v_loadAgg (vs := [_, _]) T.agg_126_2 rfl rfl) ?_
  refine rl_k rfl (k_callf Try.func77 rfl rfl rfl rfl ?_)
  refine Calls.mono (rnamed_calls q he (hw.xQ)) ?_
  rintro _ w ⟨rfl, hw⟩
  refine ⟨_, rfl, ?_⟩
  refine xV rfl rfl rfl (v_assign rfl) ?_
  refine rl_nil (g_le (xK (xS rfl (xS rfl (xS rfl (Fr.le_refl _))))) ?_)
  refine g_seq (g_seq ?_)
  refine g_region ?_
  refine xV rfl rfl rfl (v_move rfl) ?_
  refine xV rfl rfl rfl (v_eql rfl rfl) ?_
  refine xV rfl rfl rfl (v_move rfl) ?_
  refine rl_split (s := 11) rfl (fun g2_2 => ?_) (fun g2_2 => ?_)
  · try with_reducible exact ft_elim g2_2
    all_goals
      try replace g2_2 := of_decide_eq_true g2_2
      refine rl_vg (met_on rfl rfl rfl rfl) rfl rfl (S := fun _ => True) trivial (v_fieldAddr0 T.fld_126_1_1 rfl) ?_
      refine rl_vg (met_on rfl rfl rfl rfl) rfl rfl (by exact sat_cell hw (by (repeat first | with_reducible exact xH | apply xT); first | done | fail) rfl) (v_load T.scal_124 rfl) ?_
      refine rl_vg (met_on rfl rfl rfl rfl) rfl rfl (S := fun _ => True) trivial (v_lenSlice T.sl_124_136_3 rfl) ?_
      refine rl_vg (met_on rfl rfl rfl rfl) rfl rfl (S := fun _ => True) trivial (v_eql rfl rfl) ?_
      refine xV rfl rfl rfl (v_pick_true rfl rfl) ?_
      refine rl_nil (g_le (xK (xS rfl (xS rfl (xS rfl (xS rfl (xS rfl (xS rfl (xS rfl (xS rfl (Fr.le_refl _)))))))))) ?_)
      refine g_cond rfl (fun h1 => ?_) (fun h1 => ?_)
      · try with_reducible exact ft_elim h1
        all_goals
          try replace h1 := of_decide_eq_true h1
          refine g_seq ?_
          refine g_region ?_
          refine xV rfl rfl rfl (v_assign rfl) ?_
          refine rl_nil (g_le (xK (Fr.le_refl _)) ?_)
          refine g_ret1 Try.func55 rfl rfl ?_
          rw [if_pos (by omega)]
          exact ⟨rfl, hw.xQ⟩
      · try with_reducible exact tf_elim h1
        all_goals
          try replace h1 := of_decide_eq_false h1
          refine g_skip (g_seq ?_)
          refine g_region ?_
          refine xV rfl rfl rfl (v_move rfl) ?_
          refine xV rfl rfl rfl (v_assign rfl) ?_
          refine rl_nil (g_le (xK (xS rfl (Fr.le_refl _))) ?_)
          refine g_ret1 Try.func55 rfl rfl ?_
          rw [if_neg (by omega)]
          exact ⟨rfl, hw.xQ⟩
  · try with_reducible exact tf_elim g2_2
    all_goals
      try replace g2_2 := of_decide_eq_false g2_2
      refine rl_off (met_off rfl rfl rfl rfl rfl) rfl rfl ?_
      refine rl_off (met_off rfl rfl rfl rfl rfl) rfl rfl ?_
      refine rl_off (met_off rfl rfl rfl rfl rfl) rfl rfl ?_
      refine rl_off (met_off rfl rfl rfl rfl rfl) rfl rfl ?_
      refine xV rfl rfl rfl (v_pick_false rfl rfl) ?_
      refine rl_nil (g_le (xK (xS rfl (xS rfl (xS rfl (xS rfl (xS rfl (xS rfl (xS rfl (xS rfl (Fr.le_refl _)))))))))) ?_)
      refine g_cond_false rfl ?_
      refine g_skip (g_seq ?_)
      refine g_region ?_
      refine xV rfl rfl rfl (v_move rfl) ?_
      refine xV rfl rfl rfl (v_assign rfl) ?_
      refine rl_nil (g_le (xK (xS rfl (Fr.le_refl _))) ?_)
      refine g_ret1 Try.func55 rfl rfl ?_
      rw [if_neg (by omega)]
      exact ⟨rfl, hw.xQ⟩
theorem rrefRight_calls {E : Env} {w : World} {L : List As} (r : Rf) (hw : Sat E w L) :
    Calls Try.prog 56 #[.agg r.cells.toArray] w fun v w' => v = .returned (.bool (decide (refR r))) ∧ Sat E w' L := by
  refine calls_of_g (n := 31) Try.func56 rfl rfl rfl ?_
  change G _ _ _ _ _ [(0, _)] _
  refine g_seq ?_
  refine g_region ?_
  refine rl_k rfl (k_box hw rfl rfl rfl (fun bk0_0 w hw => ?_))
  refine xV rfl rfl rfl (v_assign rfl) ?_
  refine rl_nil (g_le (xK (xK (Fr.le_refl _))) ?_)
  refine g_seq ?_
  refine g_region ?_
  refine xV rfl rfl rfl (v_fieldAddr0 T.fld_51_1_1 rfl) ?_
  refine rl_v rfl rfl rfl (by exact sat_cell hw (by (repeat first | with_reducible exact xH | apply xT); first | done | fail) rfl) (v_load T.scal_3 rfl) ?_
  refine xV rfl rfl rfl (v_geq rfl rfl) ?_
  refine xV rfl rfl rfl (v_move rfl) ?_
  refine rl_split (s := 6) rfl (fun g1_3 => ?_) (fun g1_3 => ?_)
  · try with_reducible exact ft_elim g1_3
    all_goals
      try replace g1_3 := of_decide_eq_true g1_3
      refine rl_vg (met_on rfl rfl rfl rfl) rfl rfl (S := fun _ => True) trivial (v_fieldAddr0 T.fld_51_1_1 rfl) ?_
      refine rl_vg (met_on rfl rfl rfl rfl) rfl rfl (by exact sat_cell hw (by (repeat first | with_reducible exact xH | apply xT); first | done | fail) rfl) (v_load T.scal_3 rfl) ?_
      refine rl_vg (met_on rfl rfl rfl rfl) rfl rfl (S := fun _ => True) trivial (v_leq rfl rfl) ?_
      refine xV rfl rfl rfl (v_pick_true rfl rfl) ?_
      refine xV rfl rfl rfl (v_move rfl) ?_
      refine rl_split (s := 11) rfl (fun g1_8 => ?_) (fun g1_8 => ?_)
      · try with_reducible exact ft_elim g1_8
        all_goals
          try replace g1_8 := of_decide_eq_true g1_8
          refine rl_vg (met_on rfl rfl rfl rfl) rfl rfl (S := fun _ => True) trivial (v_fieldAddr0 T.fld_51_2_2 rfl) ?_
          refine rl_vg (met_on rfl rfl rfl rfl) rfl rfl (by exact sat_cell hw (by (repeat first | with_reducible exact xH | apply xT); first | done | fail) rfl) (v_load T.scal_3 rfl) ?_
          refine rl_vg (met_on rfl rfl rfl rfl) rfl rfl (S := fun _ => True) trivial (v_geq rfl rfl) ?_
          refine xV rfl rfl rfl (v_pick_true rfl rfl) ?_
          refine xV rfl rfl rfl (v_move rfl) ?_
          refine rl_split (s := 16) rfl (fun g1_13 => ?_) (fun g1_13 => ?_)
          · try with_reducible exact ft_elim g1_13
            all_goals
              try replace g1_13 := of_decide_eq_true g1_13
              refine rl_vg (met_on rfl rfl rfl rfl) rfl rfl (S := fun _ => True) trivial (v_fieldAddr0 T.fld_51_2_2 rfl) ?_
              refine rl_vg (met_on rfl rfl rfl rfl) rfl rfl (by exact sat_cell hw (by (repeat first | with_reducible exact xH | apply xT); first | done | fail) rfl) (v_load T.scal_3 rfl) ?_
              refine rl_vg (met_on rfl rfl rfl rfl) rfl rfl (S := fun _ => True) trivial (v_leq rfl rfl) ?_
              refine xV rfl rfl rfl (v_pick_true rfl rfl) ?_
              refine xV rfl rfl rfl (v_move rfl) ?_
              refine rl_split (s := 21) rfl (fun g1_18 => ?_) (fun g1_18 => ?_)
              · try with_reducible exact ft_elim g1_18
                all_goals
                  try replace g1_18 := of_decide_eq_true g1_18
                  refine rl_vg (met_on rfl rfl rfl rfl) rfl rfl (S := fun _ => True) trivial (v_fieldAddr0 T.fld_51_3_3 rfl) ?_
                  refine rl_vg (met_on rfl rfl rfl rfl) rfl rfl (by exact sat_cell hw (by (repeat first | with_reducible exact xH | apply xT); first | done | fail) rfl) (v_load T.scal_3 rfl) ?_
                  refine rl_vg (met_on rfl rfl rfl rfl) rfl rfl (S := fun _ => True) trivial (v_geq rfl rfl) ?_
                  refine xV rfl rfl rfl (v_pick_true rfl rfl) ?_
                  refine xV rfl rfl rfl (v_move rfl) ?_
                  refine rl_split (s := 26) rfl (fun g1_23 => ?_) (fun g1_23 => ?_)
                  · try with_reducible exact ft_elim g1_23
                    all_goals
                      try replace g1_23 := of_decide_eq_true g1_23
                      refine rl_vg (met_on rfl rfl rfl rfl) rfl rfl (S := fun _ => True) trivial (v_fieldAddr0 T.fld_51_3_3 rfl) ?_
                      refine rl_vg (met_on rfl rfl rfl rfl) rfl rfl (by exact sat_cell hw (by (repeat first | with_reducible exact xH | apply xT); first | done | fail) rfl) (v_load T.scal_3 rfl) ?_
                      refine rl_vg (met_on rfl rfl rfl rfl) rfl rfl (S := fun _ => True) trivial (v_leq rfl rfl) ?_
                      refine xV rfl rfl rfl (v_pick_true rfl rfl) ?_
                      refine xV rfl rfl rfl (v_assign rfl) ?_
                      refine rl_nil (g_le (xK (xS rfl (xS rfl (xS rfl (xS rfl (xS rfl (xS rfl (xS rfl (xS rfl (xS rfl (xS rfl (xS rfl (xS rfl (xS rfl (xS rfl (xS rfl (xS rfl (xS rfl (xS rfl (xS rfl (xS rfl (xS rfl (xS rfl (xS rfl (xS rfl (xS rfl (xS rfl (xS rfl (xS rfl (xS rfl (xS rfl (xS rfl (xS rfl (xS rfl (Fr.le_refl _))))))))))))))))))))))))))))))))))) ?_)
                      refine g_ret1 Try.func56 rfl rfl ?_
                      refine ⟨?_, hw.xQ⟩
                      rw [show decide (refR r) = decide (r.len ≤ 1048576) from decide_eq_decide.2 ⟨fun h => by unfold refR at h; omega, fun h => by unfold refR; omega⟩]
                  · try with_reducible exact tf_elim g1_23
                    all_goals
                      try replace g1_23 := of_decide_eq_false g1_23
                      refine rl_off (met_off rfl rfl rfl rfl rfl) rfl rfl ?_
                      refine rl_off (met_off rfl rfl rfl rfl rfl) rfl rfl ?_
                      refine rl_off (met_off rfl rfl rfl rfl rfl) rfl rfl ?_
                      refine xV rfl rfl rfl (v_pick_false rfl rfl) ?_
                      refine xV rfl rfl rfl (v_assign rfl) ?_
                      refine rl_nil (g_le (xK (xS rfl (xS rfl (xS rfl (xS rfl (xS rfl (xS rfl (xS rfl (xS rfl (xS rfl (xS rfl (xS rfl (xS rfl (xS rfl (xS rfl (xS rfl (xS rfl (xS rfl (xS rfl (xS rfl (xS rfl (xS rfl (xS rfl (xS rfl (xS rfl (xS rfl (xS rfl (xS rfl (xS rfl (xS rfl (xS rfl (xS rfl (xS rfl (xS rfl (Fr.le_refl _))))))))))))))))))))))))))))))))))) ?_)
                      refine g_ret1 Try.func56 rfl rfl ?_
                      refine ⟨?_, hw.xQ⟩
                      rw [decide_eq_false (by unfold refR; omega)]
              · try with_reducible exact tf_elim g1_18
                all_goals
                  try replace g1_18 := of_decide_eq_false g1_18
                  refine rl_off (met_off rfl rfl rfl rfl rfl) rfl rfl ?_
                  refine rl_off (met_off rfl rfl rfl rfl rfl) rfl rfl ?_
                  refine rl_off (met_off rfl rfl rfl rfl rfl) rfl rfl ?_
                  refine xV rfl rfl rfl (v_pick_false rfl rfl) ?_
                  refine xV rfl rfl rfl (v_move rfl) ?_
                  refine rl_off (met_off rfl rfl rfl rfl rfl) rfl rfl ?_
                  refine rl_off (met_off rfl rfl rfl rfl rfl) rfl rfl ?_
                  refine rl_off (met_off rfl rfl rfl rfl rfl) rfl rfl ?_
                  refine xV rfl rfl rfl (v_pick_false rfl rfl) ?_
                  refine xV rfl rfl rfl (v_assign rfl) ?_
                  refine rl_nil (g_le (xK (xS rfl (xS rfl (xS rfl (xS rfl (xS rfl (xS rfl (xS rfl (xS rfl (xS rfl (xS rfl (xS rfl (xS rfl (xS rfl (xS rfl (xS rfl (xS rfl (xS rfl (xS rfl (xS rfl (xS rfl (xS rfl (xS rfl (xS rfl (xS rfl (xS rfl (xS rfl (xS rfl (xS rfl (xS rfl (xS rfl (xS rfl (xS rfl (Fr.le_refl _)))))))))))))))))))))))))))))))))) ?_)
                  refine g_ret1 Try.func56 rfl rfl ?_
                  refine ⟨?_, hw.xQ⟩
                  rw [decide_eq_false (by unfold refR; omega)]
          · try with_reducible exact tf_elim g1_13
            all_goals
              try replace g1_13 := of_decide_eq_false g1_13
              refine rl_off (met_off rfl rfl rfl rfl rfl) rfl rfl ?_
              refine rl_off (met_off rfl rfl rfl rfl rfl) rfl rfl ?_
              refine rl_off (met_off rfl rfl rfl rfl rfl) rfl rfl ?_
              refine xV rfl rfl rfl (v_pick_false rfl rfl) ?_
              refine xV rfl rfl rfl (v_move rfl) ?_
              refine rl_off (met_off rfl rfl rfl rfl rfl) rfl rfl ?_
              refine rl_off (met_off rfl rfl rfl rfl rfl) rfl rfl ?_
              refine rl_off (met_off rfl rfl rfl rfl rfl) rfl rfl ?_
              refine xV rfl rfl rfl (v_pick_false rfl rfl) ?_
              refine xV rfl rfl rfl (v_move rfl) ?_
              refine rl_off (met_off rfl rfl rfl rfl rfl) rfl rfl ?_
              refine rl_off (met_off rfl rfl rfl rfl rfl) rfl rfl ?_
              refine rl_off (met_off rfl rfl rfl rfl rfl) rfl rfl ?_
              refine xV rfl rfl rfl (v_pick_false rfl rfl) ?_
              refine xV rfl rfl rfl (v_assign rfl) ?_
              refine rl_nil (g_le (xK (xS rfl (xS rfl (xS rfl (xS rfl (xS rfl (xS rfl (xS rfl (xS rfl (xS rfl (xS rfl (xS rfl (xS rfl (xS rfl (xS rfl (xS rfl (xS rfl (xS rfl (xS rfl (xS rfl (xS rfl (xS rfl (xS rfl (xS rfl (xS rfl (xS rfl (xS rfl (xS rfl (xS rfl (xS rfl (xS rfl (xS rfl (Fr.le_refl _))))))))))))))))))))))))))))))))) ?_)
              refine g_ret1 Try.func56 rfl rfl ?_
              refine ⟨?_, hw.xQ⟩
              rw [decide_eq_false (by unfold refR; omega)]
      · try with_reducible exact tf_elim g1_8
        all_goals
          try replace g1_8 := of_decide_eq_false g1_8
          refine rl_off (met_off rfl rfl rfl rfl rfl) rfl rfl ?_
          refine rl_off (met_off rfl rfl rfl rfl rfl) rfl rfl ?_
          refine rl_off (met_off rfl rfl rfl rfl rfl) rfl rfl ?_
          refine xV rfl rfl rfl (v_pick_false rfl rfl) ?_
          refine xV rfl rfl rfl (v_move rfl) ?_
          refine rl_off (met_off rfl rfl rfl rfl rfl) rfl rfl ?_
          refine rl_off (met_off rfl rfl rfl rfl rfl) rfl rfl ?_
          refine rl_off (met_off rfl rfl rfl rfl rfl) rfl rfl ?_
          refine xV rfl rfl rfl (v_pick_false rfl rfl) ?_
          refine xV rfl rfl rfl (v_move rfl) ?_
          refine rl_off (met_off rfl rfl rfl rfl rfl) rfl rfl ?_
          refine rl_off (met_off rfl rfl rfl rfl rfl) rfl rfl ?_
          refine rl_off (met_off rfl rfl rfl rfl rfl) rfl rfl ?_
          refine xV rfl rfl rfl (v_pick_false rfl rfl) ?_
          refine xV rfl rfl rfl (v_move rfl) ?_
          refine rl_off (met_off rfl rfl rfl rfl rfl) rfl rfl ?_
          refine rl_off (met_off rfl rfl rfl rfl rfl) rfl rfl ?_
          refine rl_off (met_off rfl rfl rfl rfl rfl) rfl rfl ?_
          refine xV rfl rfl rfl (v_pick_false rfl rfl) ?_
          refine xV rfl rfl rfl (v_assign rfl) ?_
          refine rl_nil (g_le (xK (xS rfl (xS rfl (xS rfl (xS rfl (xS rfl (xS rfl (xS rfl (xS rfl (xS rfl (xS rfl (xS rfl (xS rfl (xS rfl (xS rfl (xS rfl (xS rfl (xS rfl (xS rfl (xS rfl (xS rfl (xS rfl (xS rfl (xS rfl (xS rfl (xS rfl (xS rfl (xS rfl (xS rfl (xS rfl (xS rfl (Fr.le_refl _)))))))))))))))))))))))))))))))) ?_)
          refine g_ret1 Try.func56 rfl rfl ?_
          refine ⟨?_, hw.xQ⟩
          rw [decide_eq_false (by unfold refR; omega)]
  · try with_reducible exact tf_elim g1_3
    all_goals
      try replace g1_3 := of_decide_eq_false g1_3
      refine rl_off (met_off rfl rfl rfl rfl rfl) rfl rfl ?_
      refine rl_off (met_off rfl rfl rfl rfl rfl) rfl rfl ?_
      refine rl_off (met_off rfl rfl rfl rfl rfl) rfl rfl ?_
      refine xV rfl rfl rfl (v_pick_false rfl rfl) ?_
      refine xV rfl rfl rfl (v_move rfl) ?_
      refine rl_off (met_off rfl rfl rfl rfl rfl) rfl rfl ?_
      refine rl_off (met_off rfl rfl rfl rfl rfl) rfl rfl ?_
      refine rl_off (met_off rfl rfl rfl rfl rfl) rfl rfl ?_
      refine xV rfl rfl rfl (v_pick_false rfl rfl) ?_
      refine xV rfl rfl rfl (v_move rfl) ?_
      refine rl_off (met_off rfl rfl rfl rfl rfl) rfl rfl ?_
      refine rl_off (met_off rfl rfl rfl rfl rfl) rfl rfl ?_
      refine rl_off (met_off rfl rfl rfl rfl rfl) rfl rfl ?_
      refine xV rfl rfl rfl (v_pick_false rfl rfl) ?_
      refine xV rfl rfl rfl (v_move rfl) ?_
      refine rl_off (met_off rfl rfl rfl rfl rfl) rfl rfl ?_
      refine rl_off (met_off rfl rfl rfl rfl rfl) rfl rfl ?_
      refine rl_off (met_off rfl rfl rfl rfl rfl) rfl rfl ?_
      refine xV rfl rfl rfl (v_pick_false rfl rfl) ?_
      refine xV rfl rfl rfl (v_move rfl) ?_
      refine rl_off (met_off rfl rfl rfl rfl rfl) rfl rfl ?_
      refine rl_off (met_off rfl rfl rfl rfl rfl) rfl rfl ?_
      refine rl_off (met_off rfl rfl rfl rfl rfl) rfl rfl ?_
      refine xV rfl rfl rfl (v_pick_false rfl rfl) ?_
      refine xV rfl rfl rfl (v_assign rfl) ?_
      refine rl_nil (g_le (xK (xS rfl (xS rfl (xS rfl (xS rfl (xS rfl (xS rfl (xS rfl (xS rfl (xS rfl (xS rfl (xS rfl (xS rfl (xS rfl (xS rfl (xS rfl (xS rfl (xS rfl (xS rfl (xS rfl (xS rfl (xS rfl (xS rfl (xS rfl (xS rfl (xS rfl (xS rfl (xS rfl (xS rfl (xS rfl (Fr.le_refl _))))))))))))))))))))))))))))))) ?_)
      refine g_ret1 Try.func56 rfl rfl ?_
      refine ⟨?_, hw.xQ⟩
      rw [decide_eq_false (by unfold refR; omega)]
theorem ord_f31_r9_U05 : orderOfB Try.f31 9 [] (.k 0 (.k 1 (.k 2 (.a 3 (.a 5 (.a 7 (.a 8 (.v 4 (.k 6 (.k 9 (.k 10 (.k 11 (.k 12 (.k 13 .done)))))))))))))) = true := by kernel_rfl
set_option maxHeartbeats 1000000 in
theorem rleaf_calls {E : Env} {w : World} {L : List As} {g : Hp} {ncs : List Value} {x : Nd} (q : Qt) (hn : rdNd g ncs x) (hw : Sat E w (RO g :: L)) :
    Calls Try.prog 31 #[q.v, .agg ncs.toArray] w fun v w' => v = .returned (.int .i64 (if 0 < x.kids.length ∨ 4 < x.entries.length then 60 else entsBad q none x.entries)) ∧ Sat E w' (RO g :: L) := by
  obtain ⟨ea, en, ec, ka, kn, kc, rfl, hnd⟩ := nd_told hn
  obtain ⟨n0, n1, n2, hq9, _, hqe, hqk⟩ := id hnd
  simp only [List.cons.injEq, and_true] at hq9
  obtain ⟨_, rfl, rfl⟩ := hq9
  obtain ⟨rfl, heb, _, hem, ge⟩ := rdSl_get hqe
  obtain ⟨rfl, hkb, _, hkm, _⟩ := rdSl_get hqk
  simp only [maxLen] at hem hkm
  refine calls_of_g (n := 47) Try.func31 rfl rfl rfl ?_
  change G _ _ _ _ _ [(0, _), (1, _)] _
  refine g_seq ?_
  refine g_region ?_
  refine rl_k rfl (k_box hw rfl rfl rfl (fun bk0_0 w hw => ?_))
  refine rl_k rfl (k_box hw rfl rfl rfl (fun bk0_1 w hw => ?_))
  refine xV rfl rfl rfl (v_assign rfl) ?_
  refine rl_nil (g_le (xK (xK (xK (Fr.le_refl _)))) ?_)
  refine g_seq (g_seq ?_)
  refine g_region ?_
  refine xV rfl rfl rfl (v_fieldAddr0 T.fld_48_2_2 rfl) ?_
  refine rl_v rfl rfl rfl (by exact sat_cell hw (by (repeat first | with_reducible exact xH | apply xT); first | done | fail) rfl) (v_load T.scal_46 rfl) ?_
  refine xV rfl rfl rfl (v_lenSlice T.sl_46_101_5 rfl) ?_
  refine xV rfl rfl rfl (v_gtr rfl rfl) ?_
  refine xV rfl rfl rfl (v_move rfl) ?_
  refine rl_split (s := 12) rfl (fun g1_4 => ?_) (fun g1_4 => ?_)
  · try with_reducible exact ft_elim g1_4
    all_goals
      try replace g1_4 := of_decide_eq_true g1_4
      refine rl_off (met_off rfl rfl rfl rfl rfl) rfl rfl ?_
      refine rl_off (met_off rfl rfl rfl rfl rfl) rfl rfl ?_
      refine rl_off (met_off rfl rfl rfl rfl rfl) rfl rfl ?_
      refine rl_off (met_off rfl rfl rfl rfl rfl) rfl rfl ?_
      refine xV rfl rfl rfl (v_pick_true rfl rfl) ?_
      refine rl_nil (g_le (xK (xS rfl (xS rfl (xS rfl (xS rfl (xS rfl (xS rfl (xS rfl (xS rfl (xS rfl (xS rfl (Fr.le_refl _)))))))))))) ?_)
      refine g_cond_true rfl ?_
      refine g_seq ?_
      refine g_region ?_
      refine xV rfl rfl rfl (v_assign rfl) ?_
      refine rl_nil (g_le (xK (Fr.le_refl _)) ?_)
      refine g_ret1 Try.func31 rfl rfl ?_
      rw [if_pos (by omega)]
      exact ⟨rfl, hw.xQ⟩
  · try with_reducible exact tf_elim g1_4
    all_goals
      try replace g1_4 := of_decide_eq_false g1_4
      refine rl_vg (met_on rfl rfl rfl rfl) rfl rfl (S := fun _ => True) trivial (v_fieldAddr0 T.fld_48_1_1 rfl) ?_
      refine rl_vg (met_on rfl rfl rfl rfl) rfl rfl (by exact sat_cell hw (by (repeat first | with_reducible exact xH | apply xT); first | done | fail) rfl) (v_load T.scal_45 rfl) ?_
      refine rl_vg (met_on rfl rfl rfl rfl) rfl rfl (S := fun _ => True) trivial (v_lenSlice T.sl_45_126_2 rfl) ?_
      refine rl_vg (met_on rfl rfl rfl rfl) rfl rfl (S := fun _ => True) trivial (v_gtr rfl rfl) ?_
      refine xV rfl rfl rfl (v_pick_false rfl rfl) ?_
      refine rl_nil (g_le (xK (xS rfl (xS rfl (xS rfl (xS rfl (xS rfl (xS rfl (xS rfl (xS rfl (xS rfl (xS rfl (Fr.le_refl _)))))))))))) ?_)
      refine g_cond rfl (fun h1 => ?_) (fun h1 => ?_)
      · try with_reducible exact ft_elim h1
        all_goals
          try replace h1 := of_decide_eq_true h1
          refine g_seq ?_
          refine g_region ?_
          refine xV rfl rfl rfl (v_assign rfl) ?_
          refine rl_nil (g_le (xK (Fr.le_refl _)) ?_)
          refine g_ret1 Try.func31 rfl rfl ?_
          rw [if_pos (by omega)]
          exact ⟨rfl, hw.xQ⟩
      · try with_reducible exact tf_elim h1
        all_goals
          try replace h1 := of_decide_eq_false h1
          rw [if_neg (by omega)]
          refine g_skip (g_seq (g_seq ?_))
          refine g_region ?_
          refine xV rfl rfl rfl (v_fieldAddr0 T.fld_48_1_1 rfl) ?_
          refine rl_v rfl rfl rfl (by exact sat_cell hw (by (repeat first | with_reducible exact xH | apply xT); first | done | fail) rfl) (v_load T.scal_45 rfl) ?_
          refine xV rfl rfl rfl (v_lenSlice T.sl_45_126_2 rfl) ?_
          refine xV rfl rfl rfl (v_move rfl) ?_
          refine rl_nil (g_le (xK (xK (xK (xS rfl (Fr.le_refl _))))) ?_)
          refine g_block ?_
          refine g_loopC (σ := Nat) (fun C x => (21, .int .i64 (x : Nat)) :: C) [(2, _), (3, _), (4, _), (19, _), (20, _)] (by repeat (first | exact Fr.le_nil _ | refine Fr.le_cons rfl ?_)) (fun z w => z ≤ x.entries.length ∧ entsBad q none x.entries = entsBad q (if z = 0 then none else (x.entries[z - 1]?).map (·.name)) (x.entries.drop z) ∧ Sat E w (QtAt bk0_0 q :: pt bk0_1 (.cells [Value.bool x.leaf, .slice ea x.entries.length ec, .slice ka x.kids.length kc].toArray 48 (0, 0)) :: RO g :: L)) (fun z => x.entries.length - z) ?_ 0 (by repeat (first | exact Fr.le_nil _ | refine Fr.le_cons rfl ?_)) ⟨by simp, by simp, hw.xQ⟩
          rintro i w ⟨hi1, heq, hw⟩ ih
          refine g_seq ?_
          refine g_region ?_
          refine xV rfl rfl rfl (v_lss rfl rfl) ?_
          refine rl_nil (g_le (xK (Fr.le_refl _)) ?_)
          refine g_seq ?_
          refine g_cond rfl (fun h2 => ?_) (fun h2 => ?_)
          · try with_reducible exact ft_elim h2
            all_goals
              try replace h2 := of_decide_eq_true h2
              refine g_skip (g_seq (g_block (g_seq ?_)))
              have hz := hw
              clear hw
              obtain ⟨b4, o1, e, ecs, rfl, he, hat1, hl1, hrde⟩ := ge (i : Nat) (by omega) (by omega)
              rw [Int.toNat_natCast] at he hat1
              obtain ⟨va, vn, vc, rfl, hrde⟩ := en_told hrde
              obtain ⟨he1, he2⟩ := List.getElem?_eq_some_iff.1 he
              rw [List.drop_eq_getElem_cons he1, he2] at heq
              simp only [entsBad] at heq
              have hw := hz
              refine g_region ?_
              refine xV rfl rfl rfl (v_move rfl) ?_
              refine xV rfl rfl rfl (v_indexAddr T.sl_45_126_2 rfl rfl (by omega) (by omega)) ?_
              refine rl_v rfl rfl rfl (by exact ro_ats hw (by (repeat first | with_reducible exact xH | apply xT); first | done | fail) (by assumption)) (v_loadAgg (vs := [_, _]) T.agg_126_2 rfl rfl) ?_
              refine rl_k rfl (k_alloc hw T.zero_126 rfl rfl (fun bk5_3 w hw => ?_))
              refine xV rfl rfl rfl (v_assign rfl) ?_
              refine rl_k rfl (k_storeWhole hw T.agg_126_2 rfl rfl (by simp [Value.oneCell']) rfl (by (repeat first | with_reducible exact xH | apply xT); first | done | fail) rfl (fun w hw => ?_))
              refine rl_nil (g_le (xK (xK (xK (xK (xK (Fr.le_refl _)))))) ?_)
              refine g_seq ?_
              refine g_region ?_
              refine rl_v rfl rfl rfl (by exact sat_cells hw (by (repeat first | with_reducible exact xH | apply xT); first | done | fail) ⟨rfl, rfl, rfl, rfl, rfl, rfl, rfl, trivial⟩) (v_loadAgg (vs := [_, _, _, _, _, _, _]) T.agg_23_7 rfl rfl) ?_
              refine rl_v rfl rfl rfl (by exact sat_cells hw (by (repeat first | with_reducible exact xH | apply xT); first | done | fail) ⟨rfl, rfl, trivial⟩) (v_loadAgg (vs := [_, _]) T.agg_126_2 rfl rfl) ?_
              refine rl_k rfl (k_callf Try.func55 rfl rfl rfl rfl ?_)
              refine Calls.mono (rrightE_calls q hrde (hw.xQ)) ?_
              rintro _ w ⟨rfl, hw⟩
              refine ⟨_, rfl, ?_⟩
              refine xV rfl rfl rfl (v_assign rfl) ?_
              refine rl_nil (g_le (xK (xK (xK (xK (Fr.le_refl _))))) ?_)
              refine g_seq (g_seq ?_)
              refine g_region ?_
              refine xV rfl rfl rfl (v_move rfl) ?_
              refine xV rfl rfl rfl (v_neq rfl rfl) ?_
              refine rl_nil (g_le (xK (xK (Fr.le_refl _))) ?_)
              refine g_cond rfl (fun h3 => ?_) (fun h3 => ?_)
              · try with_reducible exact ft_elim h3
                all_goals
                  try replace h3 := of_decide_eq_true h3
                  refine g_seq ?_
                  refine g_region ?_
                  refine xV rfl rfl rfl (v_move rfl) ?_
                  refine xV rfl rfl rfl (v_assign rfl) ?_
                  refine rl_nil (g_le (xK (xK (Fr.le_refl _))) ?_)
                  refine g_ret1 Try.func31 rfl rfl ?_
                  rw [if_pos h3] at heq
                  rw [heq]
                  exact ⟨rfl, hw.xQ⟩
              · try with_reducible exact tf_elim h3
                all_goals
                  try replace h3 := of_decide_eq_false h3
                  rw [if_neg h3] at heq
                  refine g_skip (g_seq ?_)
                  refine g_drawR ord_f31_r9_U05 (by kernel_rfl) T.mixed hw (fun w hw => ?_)
                  refine rs_kv 0 rfl rfl rfl rfl (S' := fun _ => True) trivial (v_move rfl) ?_
                  refine rs_kv 1 rfl rfl rfl rfl (S' := fun _ => True) trivial (v_gtr rfl rfl) ?_
                  refine rs_kv 2 rfl rfl rfl rfl (S' := fun _ => True) trivial (v_move rfl) ?_
                  refine rs_split (s := 34) rfl (fun g9_2 => ?_) (fun g9_2 => ?_)
                  · try with_reducible exact ft_elim g9_2
                    all_goals
                      try replace g9_2 := of_decide_eq_true g9_2
                      obtain ⟨b7, o7, e7, ecs7, hz8, he7, hat7, hl7, hrd7⟩ := ge ((i : Int) - 1) (by omega) (by omega)
                      simp only [Option.some.injEq, Addr.mk.injEq, and_true] at hz8
                      obtain ⟨rfl, rfl⟩ := hz8
                      obtain ⟨va7, vn7, vc7, rfl, hrd7⟩ := en_told hrd7
                      rw [show ((i : Int) - 1).toNat = i - 1 by omega] at he7
                      rw [if_neg (show ¬ i = 0 by omega), he7] at heq
                      simp only [Option.map_some] at heq
                      refine rs_ag 3 rfl (met_on rfl rfl rfl rfl) rfl rfl (v_fieldAddr0 T.fld_126_0_0 rfl) ?_
                      refine rs_ag 5 rfl (met_on rfl rfl rfl rfl) rfl rfl (v_fieldAddr0 T.fld_48_1_1 rfl) ?_
                      refine rs_ag 7 rfl (met_on rfl rfl rfl rfl) rfl rfl (v_move rfl) ?_
                      refine rs_ag 8 rfl (met_on rfl rfl rfl rfl) rfl rfl (v_sub rfl rfl (by omega)) ?_
                      refine rs_vg 4 rfl (met_on rfl rfl rfl rfl) rfl rfl (OpV.mono (v_load T.scal_9 rfl) (fun w hw => by exact sat_cell hw (by (repeat first | with_reducible exact xH | apply xT); first | done | fail) rfl)) (by exact hw) ?_
                      refine rs_kvg 6 rfl (met_on rfl rfl rfl rfl) rfl rfl (by exact sat_cell hw (by (repeat first | with_reducible exact xH | apply xT); first | done | fail) rfl) (v_load T.scal_45 rfl) ?_
                      refine rs_kvg 9 rfl (met_on rfl rfl rfl rfl) rfl rfl (S' := fun _ => True) trivial (v_indexAddr T.sl_45_126_2 rfl rfl (by omega) (by omega)) ?_
                      refine rs_kvg 10 rfl (met_on rfl rfl rfl rfl) rfl rfl (S' := fun _ => True) trivial (v_fieldAddr T.fld_126_0_0 rfl) ?_
                      refine rs_kvg 11 rfl (met_on rfl rfl rfl rfl) rfl rfl (by exact ro_at0 hw (by (repeat first | with_reducible exact xH | apply xT); first | done | fail) (by assumption) rfl) (v_load T.scal_9 rfl) ?_
                      refine rs_kvg 12 rfl (met_on rfl rfl rfl rfl) rfl rfl (S' := fun _ => True) trivial (v_leqStr rfl rfl) ?_
                      refine rs_kv 13 rfl rfl rfl rfl (S' := fun _ => True) trivial (v_pick_true rfl rfl) ?_
                      refine rs_done (g_le (xK (xK (xK (xK (xK (xK (xK (xK (xK (xK (xK (xK (xK (xK (xK (Fr.le_refl _)))))))))))))))) ?_)
                      refine g_cond rfl (fun h4 => ?_) (fun h4 => ?_)
                      · try with_reducible exact ft_elim h4
                        all_goals
                          try replace h4 := of_decide_eq_true h4
                          refine g_seq ?_
                          refine g_region ?_
                          refine xV rfl rfl rfl (v_assign rfl) ?_
                          refine rl_nil (g_le (xK (Fr.le_refl _)) ?_)
                          refine g_ret1 Try.func31 rfl rfl ?_
                          rw [if_pos h4] at heq
                          rw [heq]
                          exact ⟨rfl, hw.xQ⟩
                      · try with_reducible exact tf_elim h4
                        all_goals
                          try replace h4 := of_decide_eq_false h4
                          refine g_skip (g_inBlock ?_)
                          refine g_region ?_
                          refine xV rfl rfl rfl (v_add rfl rfl (by omega)) ?_
                          refine xV rfl rfl rfl (v_move rfl) ?_
                          refine rl_nil (g_le (xK (xK (Fr.le_refl _))) ?_)
                          rw [if_neg (by simp [h4])] at heq
                          exact g_le (by repeat (first | exact Fr.le_nil _ | refine Fr.le_cons rfl ?_)) (ih (i + 1) w ⟨by omega, by rw [if_neg (by omega), Nat.add_sub_cancel, he]; exact heq, hw.xQ⟩ (by omega))
                  · try with_reducible exact tf_elim g9_2
                    all_goals
                      try replace g9_2 := of_decide_eq_false g9_2
                      obtain rfl : i = 0 := by omega
                      simp only [if_true] at heq
                      refine rs_aoff 3 rfl (met_off rfl rfl rfl rfl rfl) rfl rfl ?_
                      refine rs_aoff 5 rfl (met_off rfl rfl rfl rfl rfl) rfl rfl ?_
                      refine rs_aoff 7 rfl (met_off rfl rfl rfl rfl rfl) rfl rfl ?_
                      refine rs_aoff 8 rfl (met_off rfl rfl rfl rfl rfl) rfl rfl ?_
                      refine rs_voff 4 rfl (met_off rfl rfl rfl rfl rfl) rfl rfl (by exact hw) ?_
                      refine rs_koff 6 rfl (met_off rfl rfl rfl rfl rfl) rfl rfl ?_
                      refine rs_koff 9 rfl (met_off rfl rfl rfl rfl rfl) rfl rfl ?_
                      refine rs_koff 10 rfl (met_off rfl rfl rfl rfl rfl) rfl rfl ?_
                      refine rs_koff 11 rfl (met_off rfl rfl rfl rfl rfl) rfl rfl ?_
                      refine rs_koff 12 rfl (met_off rfl rfl rfl rfl rfl) rfl rfl ?_
                      refine rs_kv 13 rfl rfl rfl rfl (S' := fun _ => True) trivial (v_pick_false rfl rfl) ?_
                      refine rs_done (g_le (xK (xK (xK (xK (xK (xK (xK (xK (xK (xK (xK (xK (xK (xK (xK (Fr.le_refl _)))))))))))))))) ?_)
                      refine g_cond_false rfl ?_
                      refine g_skip (g_inBlock ?_)
                      refine g_region ?_
                      refine xV rfl rfl rfl (v_add rfl rfl (by omega)) ?_
                      refine xV rfl rfl rfl (v_move rfl) ?_
                      refine rl_nil (g_le (xK (xK (Fr.le_refl _))) ?_)
                      rw [if_neg (by simp)] at heq
                      exact g_le (by repeat (first | exact Fr.le_nil _ | refine Fr.le_cons rfl ?_)) (ih (0 + 1) w ⟨by omega, by rw [if_neg (by omega), Nat.add_sub_cancel, he]; exact heq, hw.xQ⟩ (by omega))
          · try with_reducible exact tf_elim h2
            all_goals
              try replace h2 := of_decide_eq_false h2
              refine g_exit rfl (g_seq ?_)
              refine g_region ?_
              refine xV rfl rfl rfl (v_assign rfl) ?_
              refine rl_nil (g_le (xK (Fr.le_refl _)) ?_)
              refine g_ret1 Try.func31 rfl rfl ?_
              rw [List.drop_eq_nil_of_le (by omega)] at heq
              refine ⟨?_, hw.xQ⟩
              rw [heq]
              rfl
theorem ord_f32_r12_U05 : orderOfB Try.f32 12 [] (.k 0 (.k 1 (.k 2 (.a 3 (.a 5 (.a 7 (.a 8 (.v 4 (.k 6 (.k 9 (.k 10 (.k 11 (.k 12 (.k 13 .done)))))))))))))) = true := by kernel_rfl
set_option maxHeartbeats 2000000 in
theorem rinner_calls {E : Env} {w : World} {L : List As} {g : Hp} {ncs : List Value} {x : Nd} (q : Qt) (hq : q.ok) (hn : rdNd g ncs x) (hw : Sat E w (RO g :: L)) :
    Calls Try.prog 32 #[q.v, .agg ncs.toArray] w fun v w' => v = .returned (.int .i64 (if 0 < x.entries.length ∨ x.kids.length < 2 ∨ 4 < x.kids.length then 60 else kidsBad q none x.kids)) ∧ Sat E w' (RO g :: L) := by
  obtain ⟨ea, en, ec, ka, kn, kc, rfl, hnd⟩ := nd_told hn
  obtain ⟨n0, n1, n2, hq9, _, hqe, hqk⟩ := id hnd
  simp only [List.cons.injEq, and_true] at hq9
  obtain ⟨_, rfl, rfl⟩ := hq9
  obtain ⟨rfl, heb, _, hem, ge⟩ := rdSl_get hqe
  obtain ⟨rfl, hkb, _, hkm, gk⟩ := rdSl_get hqk
  simp only [maxLen] at hem hkm
  obtain ⟨_, hq2, _⟩ := id hq
  refine calls_of_g (n := 59) Try.func32 rfl rfl rfl ?_
  change G _ _ _ _ _ [(0, _), (1, _)] _
  refine g_seq ?_
  refine g_region ?_
  refine rl_k rfl (k_box hw rfl rfl rfl (fun bk0_0 w hw => ?_))
  refine rl_k rfl (k_box hw rfl rfl rfl (fun bk0_1 w hw => ?_))
  refine xV rfl rfl rfl (v_assign rfl) ?_
  refine rl_nil (g_le (xK (xK (xK (Fr.le_refl _)))) ?_)
  refine g_seq (g_seq ?_)
  refine g_region ?_
  refine xV rfl rfl rfl (v_fieldAddr0 T.fld_48_1_1 rfl) ?_
  refine rl_v rfl rfl rfl (by exact sat_cell hw (by (repeat first | with_reducible exact xH | apply xT); first | done | fail) rfl) (v_load T.scal_45 rfl) ?_
  refine xV rfl rfl rfl (v_lenSlice T.sl_45_126_2 rfl) ?_
  refine xV rfl rfl rfl (v_gtr rfl rfl) ?_
  refine xV rfl rfl rfl (v_move rfl) ?_
  refine rl_split (s := 11) rfl (fun g1_4 => ?_) (fun g1_4 => ?_)
  · try with_reducible exact ft_elim g1_4
    all_goals
      try replace g1_4 := of_decide_eq_true g1_4
      refine rl_off (met_off rfl rfl rfl rfl rfl) rfl rfl ?_
      refine rl_off (met_off rfl rfl rfl rfl rfl) rfl rfl ?_
      refine rl_off (met_off rfl rfl rfl rfl rfl) rfl rfl ?_
      refine rl_off (met_off rfl rfl rfl rfl rfl) rfl rfl ?_
      refine xV rfl rfl rfl (v_pick_true rfl rfl) ?_
      refine xV rfl rfl rfl (v_move rfl) ?_
      refine rl_off (met_off rfl rfl rfl rfl rfl) rfl rfl ?_
      refine rl_off (met_off rfl rfl rfl rfl rfl) rfl rfl ?_
      refine rl_off (met_off rfl rfl rfl rfl rfl) rfl rfl ?_
      refine rl_off (met_off rfl rfl rfl rfl rfl) rfl rfl ?_
      refine xV rfl rfl rfl (v_pick_true rfl rfl) ?_
      refine rl_nil (g_le (xK (xS rfl (xS rfl (xS rfl (xS rfl (xS rfl (xS rfl (xS rfl (xS rfl (xS rfl (xS rfl (xS rfl (xS rfl (xS rfl (xS rfl (xS rfl (xS rfl (Fr.le_refl _)))))))))))))))))) ?_)
      refine g_cond_true rfl ?_
      refine g_seq ?_
      refine g_region ?_
      refine xV rfl rfl rfl (v_assign rfl) ?_
      refine rl_nil (g_le (xK (Fr.le_refl _)) ?_)
      refine g_ret1 Try.func32 rfl rfl ?_
      rw [if_pos (by omega)]
      exact ⟨rfl, hw.xQ⟩
  · try with_reducible exact tf_elim g1_4
    all_goals
      try replace g1_4 := of_decide_eq_false g1_4
      refine rl_vg (met_on rfl rfl rfl rfl) rfl rfl (S := fun _ => True) trivial (v_fieldAddr0 T.fld_48_2_2 rfl) ?_
      refine rl_vg (met_on rfl rfl rfl rfl) rfl rfl (by exact sat_cell hw (by (repeat first | with_reducible exact xH | apply xT); first | done | fail) rfl) (v_load T.scal_46 rfl) ?_
      refine rl_vg (met_on rfl rfl rfl rfl) rfl rfl (S := fun _ => True) trivial (v_lenSlice T.sl_46_101_5 rfl) ?_
      refine rl_vg (met_on rfl rfl rfl rfl) rfl rfl (S := fun _ => True) trivial (v_lss rfl rfl) ?_
      refine xV rfl rfl rfl (v_pick_false rfl rfl) ?_
      refine xV rfl rfl rfl (v_move rfl) ?_
      refine rl_split (s := 17) rfl (fun g1_10 => ?_) (fun g1_10 => ?_)
      · try with_reducible exact ft_elim g1_10
        all_goals
          try replace g1_10 := of_decide_eq_true g1_10
          refine rl_off (met_off rfl rfl rfl rfl rfl) rfl rfl ?_
          refine rl_off (met_off rfl rfl rfl rfl rfl) rfl rfl ?_
          refine rl_off (met_off rfl rfl rfl rfl rfl) rfl rfl ?_
          refine rl_off (met_off rfl rfl rfl rfl rfl) rfl rfl ?_
          refine xV rfl rfl rfl (v_pick_true rfl rfl) ?_
          refine rl_nil (g_le (xK (xS rfl (xS rfl (xS rfl (xS rfl (xS rfl (xS rfl (xS rfl (xS rfl (xS rfl (xS rfl (xS rfl (xS rfl (xS rfl (xS rfl (xS rfl (xS rfl (xS rfl (Fr.le_refl _))))))))))))))))))) ?_)
          refine g_cond_true rfl ?_
          refine g_seq ?_
          refine g_region ?_
          refine xV rfl rfl rfl (v_assign rfl) ?_
          refine rl_nil (g_le (xK (Fr.le_refl _)) ?_)
          refine g_ret1 Try.func32 rfl rfl ?_
          rw [if_pos (by omega)]
          exact ⟨rfl, hw.xQ⟩
      · try with_reducible exact tf_elim g1_10
        all_goals
          try replace g1_10 := of_decide_eq_false g1_10
          refine rl_vg (met_on rfl rfl rfl rfl) rfl rfl (S := fun _ => True) trivial (v_fieldAddr0 T.fld_48_2_2 rfl) ?_
          refine rl_vg (met_on rfl rfl rfl rfl) rfl rfl (by exact sat_cell hw (by (repeat first | with_reducible exact xH | apply xT); first | done | fail) rfl) (v_load T.scal_46 rfl) ?_
          refine rl_vg (met_on rfl rfl rfl rfl) rfl rfl (S := fun _ => True) trivial (v_lenSlice T.sl_46_101_5 rfl) ?_
          refine rl_vg (met_on rfl rfl rfl rfl) rfl rfl (S := fun _ => True) trivial (v_gtr rfl rfl) ?_
          refine xV rfl rfl rfl (v_pick_false rfl rfl) ?_
          refine rl_nil (g_le (xK (xS rfl (xS rfl (xS rfl (xS rfl (xS rfl (xS rfl (xS rfl (xS rfl (xS rfl (xS rfl (xS rfl (xS rfl (xS rfl (xS rfl (xS rfl (xS rfl (xS rfl (Fr.le_refl _))))))))))))))))))) ?_)
          refine g_cond rfl (fun h1 => ?_) (fun h1 => ?_)
          · try with_reducible exact ft_elim h1
            all_goals
              try replace h1 := of_decide_eq_true h1
              refine g_seq ?_
              refine g_region ?_
              refine xV rfl rfl rfl (v_assign rfl) ?_
              refine rl_nil (g_le (xK (Fr.le_refl _)) ?_)
              refine g_ret1 Try.func32 rfl rfl ?_
              rw [if_pos (by omega)]
              exact ⟨rfl, hw.xQ⟩
          · try with_reducible exact tf_elim h1
            all_goals
              try replace h1 := of_decide_eq_false h1
              rw [if_neg (by omega)]
              refine g_skip (g_seq (g_seq ?_))
              refine g_region ?_
              refine xV rfl rfl rfl (v_fieldAddr0 T.fld_48_2_2 rfl) ?_
              refine rl_v rfl rfl rfl (by exact sat_cell hw (by (repeat first | with_reducible exact xH | apply xT); first | done | fail) rfl) (v_load T.scal_46 rfl) ?_
              refine xV rfl rfl rfl (v_lenSlice T.sl_46_101_5 rfl) ?_
              refine xV rfl rfl rfl (v_move rfl) ?_
              refine rl_nil (g_le (xK (xK (xK (xS rfl (Fr.le_refl _))))) ?_)
              refine g_block ?_
              refine g_loopC (σ := Nat) (fun C x => (26, .int .i64 (x : Nat)) :: C) [(2, _), (3, _), (4, _), (24, _), (25, _)] (by repeat (first | exact Fr.le_nil _ | refine Fr.le_cons rfl ?_)) (fun z w => z ≤ x.kids.length ∧ kidsBad q none x.kids = kidsBad q (if z = 0 then none else (x.kids[z - 1]?).map (·.low)) (x.kids.drop z) ∧ Sat E w (QtAt bk0_0 q :: pt bk0_1 (.cells [Value.bool x.leaf, .slice ea x.entries.length ec, .slice ka x.kids.length kc].toArray 48 (0, 0)) :: RO g :: L)) (fun z => x.kids.length - z) ?_ 0 (by repeat (first | exact Fr.le_nil _ | refine Fr.le_cons rfl ?_)) ⟨by simp, by simp, hw.xQ⟩
              rintro i w ⟨hi1, heq, hw⟩ ih
              refine g_seq ?_
              refine g_region ?_
              refine xV rfl rfl rfl (v_lss rfl rfl) ?_
              refine rl_nil (g_le (xK (Fr.le_refl _)) ?_)
              refine g_seq ?_
              refine g_cond rfl (fun h2 => ?_) (fun h2 => ?_)
              · try with_reducible exact ft_elim h2
                all_goals
                  try replace h2 := of_decide_eq_true h2
                  refine g_skip (g_seq (g_block (g_seq ?_)))
                  have hz := hw
                  clear hw
                  obtain ⟨b4, o1, k, kcs, rfl, hk, hat1, hl1, rfl, hkok⟩ := gk (i : Nat) (by omega) (by omega)
                  rw [Int.toNat_natCast] at hk hat1
                  obtain ⟨hk1, hk2⟩ := List.getElem?_eq_some_iff.1 hk
                  have hks := hkok.1
                  simp only [reachBytes] at hks
                  rw [List.drop_eq_getElem_cons hk1, hk2] at heq
                  simp only [kidsBad] at heq
                  have hw := hz
                  refine g_region ?_
                  refine xV rfl rfl rfl (v_move rfl) ?_
                  refine xV rfl rfl rfl (v_indexAddr T.sl_46_101_5 rfl rfl (by omega) (by omega)) ?_
                  refine rl_v rfl rfl rfl (by exact ro_ats hw (by (repeat first | with_reducible exact xH | apply xT); first | done | fail) (by assumption)) (v_loadAgg (vs := [_, _, _, _, _]) T.agg_101_5 rfl rfl) ?_
                  refine rl_k rfl (k_alloc hw T.zero_101 rfl rfl (fun bk5_3 w hw => ?_))
                  refine xV rfl rfl rfl (v_assign rfl) ?_
                  refine rl_k rfl (k_storeWhole hw T.agg_101_5 rfl rfl (by simp [Value.oneCell']) rfl (by (repeat first | with_reducible exact xH | apply xT); first | done | fail) rfl (fun w hw => ?_))
                  refine rl_nil (g_le (xK (xK (xK (xK (xK (Fr.le_refl _)))))) ?_)
                  refine g_seq (g_seq ?_)
                  refine g_region ?_
                  refine xV rfl rfl rfl (v_fieldAddr0 T.fld_101_0_0 rfl) ?_
                  refine rl_v rfl rfl rfl (by exact sat_cell hw (by (repeat first | with_reducible exact xH | apply xT); first | done | fail) rfl) (v_load T.scal_9 rfl) ?_
                  refine xV rfl rfl rfl (v_eqlStr rfl rfl) ?_
                  refine rl_nil (g_le (xK (xK (xK (Fr.le_refl _)))) ?_)
                  refine g_cond rfl (fun h3 => ?_) (fun h3 => ?_)
                  · try with_reducible exact ft_elim h3
                    all_goals
                      try replace h3 := of_decide_eq_true h3
                      refine g_seq ?_
                      refine g_region ?_
                      refine xV rfl rfl rfl (v_assign rfl) ?_
                      refine rl_nil (g_le (xK (Fr.le_refl _)) ?_)
                      refine g_ret1 Try.func32 rfl rfl ?_
                      rw [if_pos (show k.low = ByteArray.empty from h3)] at heq
                      rw [heq]
                      exact ⟨rfl, hw.xQ⟩
                  · try with_reducible exact tf_elim h3
                    all_goals
                      try replace h3 := of_decide_eq_false h3
                      rw [if_neg (show ¬ k.low = ByteArray.empty from h3)] at heq
                      refine g_skip (g_seq (g_seq ?_))
                      refine g_region ?_
                      refine xV rfl rfl rfl (v_fieldAddr0 T.fld_101_0_0 rfl) ?_
                      refine rl_v rfl rfl rfl (by exact sat_cell hw (by (repeat first | with_reducible exact xH | apply xT); first | done | fail) rfl) (v_load T.scal_9 rfl) ?_
                      refine xV rfl rfl rfl (v_lenStr T.str_9 rfl) ?_
                      refine xV rfl rfl rfl (v_fieldAddr0 T.fld_23_1_1 rfl) ?_
                      refine rl_v rfl rfl rfl (by exact sat_cell hw (by (repeat first | with_reducible exact xH | apply xT); first | done | fail) rfl) (v_load T.scal_3 rfl) ?_
                      refine xV rfl rfl rfl (v_gtr rfl rfl) ?_
                      refine rl_nil (g_le (xK (xK (xK (xK (xK (xK (Fr.le_refl _))))))) ?_)
                      refine g_cond rfl (fun h4 => ?_) (fun h4 => ?_)
                      · try with_reducible exact ft_elim h4
                        all_goals
                          try replace h4 := of_decide_eq_true h4
                          refine g_seq ?_
                          refine g_region ?_
                          refine xV rfl rfl rfl (v_assign rfl) ?_
                          refine rl_nil (g_le (xK (Fr.le_refl _)) ?_)
                          refine g_ret1 Try.func32 rfl rfl ?_
                          rw [if_pos (by omega)] at heq
                          rw [heq]
                          exact ⟨rfl, hw.xQ⟩
                      · try with_reducible exact tf_elim h4
                        all_goals
                          try replace h4 := of_decide_eq_false h4
                          rw [if_neg (show ¬ q.nm < k.low.size by omega)] at heq
                          refine g_skip (g_seq (g_seq ?_))
                          refine g_region ?_
                          refine xV rfl rfl rfl (v_fieldAddr0 T.fld_101_1_1 rfl) ?_
                          refine rl_v rfl rfl rfl (by exact sat_cells hw (by (repeat first | with_reducible exact xH | apply xT); first | done | fail) ⟨rfl, rfl, rfl, rfl, trivial⟩) (v_loadAgg (vs := [_, _, _, _]) T.agg_51_4 rfl rfl) ?_
                          refine rl_k rfl (k_callf Try.func56 rfl rfl rfl rfl ?_)
                          refine Calls.mono (rrefRight_calls k.ref (hw.xQ)) ?_
                          rintro _ w ⟨rfl, hw⟩
                          refine ⟨_, rfl, ?_⟩
                          refine xV rfl rfl rfl (v_not rfl) ?_
                          refine rl_nil (g_le (xK (xK (xK (xK (Fr.le_refl _))))) ?_)
                          refine g_cond rfl (fun h5 => ?_) (fun h5 => ?_)
                          · try with_reducible exact ft_elim h5
                            all_goals
                              try replace h5 := of_decide_eq_true h5
                              refine g_seq ?_
                              refine g_region ?_
                              refine xV rfl rfl rfl (v_assign rfl) ?_
                              refine rl_nil (g_le (xK (Fr.le_refl _)) ?_)
                              refine g_ret1 Try.func32 rfl rfl ?_
                              rw [if_pos (show ¬ refR k.ref by simpa using h5)] at heq
                              rw [heq]
                              exact ⟨rfl, hw.xQ⟩
                          · try with_reducible exact tf_elim h5
                            all_goals
                              try replace h5 := of_decide_eq_false h5
                              rw [if_neg (show ¬ ¬ refR k.ref by simpa using h5)] at heq
                              refine g_skip (g_seq ?_)
                              refine g_drawR ord_f32_r12_U05 (by kernel_rfl) T.mixed hw (fun w hw => ?_)
                              refine rs_kv 0 rfl rfl rfl rfl (S' := fun _ => True) trivial (v_move rfl) ?_
                              refine rs_kv 1 rfl rfl rfl rfl (S' := fun _ => True) trivial (v_gtr rfl rfl) ?_
                              refine rs_kv 2 rfl rfl rfl rfl (S' := fun _ => True) trivial (v_move rfl) ?_
                              refine rs_split (s := 46) rfl (fun g12_2 => ?_) (fun g12_2 => ?_)
                              · try with_reducible exact ft_elim g12_2
                                all_goals
                                  try replace g12_2 := of_decide_eq_true g12_2
                                  obtain ⟨b7, o7, k7, ecs7, hz8, hk7, hat7, hl7, rfl, _⟩ := gk ((i : Int) - 1) (by omega) (by omega)
                                  simp only [Option.some.injEq, Addr.mk.injEq, and_true] at hz8
                                  obtain ⟨rfl, rfl⟩ := hz8
                                  rw [show ((i : Int) - 1).toNat = i - 1 by omega] at hk7
                                  rw [if_neg (show ¬ i = 0 by omega), hk7] at heq
                                  simp only [Option.map_some] at heq
                                  refine rs_ag 3 rfl (met_on rfl rfl rfl rfl) rfl rfl (v_fieldAddr0 T.fld_101_0_0 rfl) ?_
                                  refine rs_ag 5 rfl (met_on rfl rfl rfl rfl) rfl rfl (v_fieldAddr0 T.fld_48_2_2 rfl) ?_
                                  refine rs_ag 7 rfl (met_on rfl rfl rfl rfl) rfl rfl (v_move rfl) ?_
                                  refine rs_ag 8 rfl (met_on rfl rfl rfl rfl) rfl rfl (v_sub rfl rfl (by omega)) ?_
                                  refine rs_vg 4 rfl (met_on rfl rfl rfl rfl) rfl rfl (OpV.mono (v_load T.scal_9 rfl) (fun w hw => by exact sat_cell hw (by (repeat first | with_reducible exact xH | apply xT); first | done | fail) rfl)) (by exact hw) ?_
                                  refine rs_kvg 6 rfl (met_on rfl rfl rfl rfl) rfl rfl (by exact sat_cell hw (by (repeat first | with_reducible exact xH | apply xT); first | done | fail) rfl) (v_load T.scal_46 rfl) ?_
                                  refine rs_kvg 9 rfl (met_on rfl rfl rfl rfl) rfl rfl (S' := fun _ => True) trivial (v_indexAddr T.sl_46_101_5 rfl rfl (by omega) (by omega)) ?_
                                  refine rs_kvg 10 rfl (met_on rfl rfl rfl rfl) rfl rfl (S' := fun _ => True) trivial (v_fieldAddr T.fld_101_0_0 rfl) ?_
                                  refine rs_kvg 11 rfl (met_on rfl rfl rfl rfl) rfl rfl (by exact ro_at0 hw (by (repeat first | with_reducible exact xH | apply xT); first | done | fail) (by assumption) rfl) (v_load T.scal_9 rfl) ?_
                                  refine rs_kvg 12 rfl (met_on rfl rfl rfl rfl) rfl rfl (S' := fun _ => True) trivial (v_leqStr rfl rfl) ?_
                                  refine rs_kv 13 rfl rfl rfl rfl (S' := fun _ => True) trivial (v_pick_true rfl rfl) ?_
                                  refine rs_done (g_le (xK (xK (xK (xK (xK (xK (xK (xK (xK (xK (xK (xK (xK (xK (xK (Fr.le_refl _)))))))))))))))) ?_)
                                  refine g_cond rfl (fun h6 => ?_) (fun h6 => ?_)
                                  · try with_reducible exact ft_elim h6
                                    all_goals
                                      try replace h6 := of_decide_eq_true h6
                                      refine g_seq ?_
                                      refine g_region ?_
                                      refine xV rfl rfl rfl (v_assign rfl) ?_
                                      refine rl_nil (g_le (xK (Fr.le_refl _)) ?_)
                                      refine g_ret1 Try.func32 rfl rfl ?_
                                      rw [if_pos h6] at heq
                                      rw [heq]
                                      exact ⟨rfl, hw.xQ⟩
                                  · try with_reducible exact tf_elim h6
                                    all_goals
                                      try replace h6 := of_decide_eq_false h6
                                      refine g_skip (g_inBlock ?_)
                                      refine g_region ?_
                                      refine xV rfl rfl rfl (v_add rfl rfl (by omega)) ?_
                                      refine xV rfl rfl rfl (v_move rfl) ?_
                                      refine rl_nil (g_le (xK (xK (Fr.le_refl _))) ?_)
                                      rw [if_neg (by simp [h6])] at heq
                                      exact g_le (by repeat (first | exact Fr.le_nil _ | refine Fr.le_cons rfl ?_)) (ih (i + 1) w ⟨by omega, by rw [if_neg (by omega), Nat.add_sub_cancel, hk]; exact heq, hw.xQ⟩ (by omega))
                              · try with_reducible exact tf_elim g12_2
                                all_goals
                                  try replace g12_2 := of_decide_eq_false g12_2
                                  obtain rfl : i = 0 := by omega
                                  simp only [if_true] at heq
                                  refine rs_aoff 3 rfl (met_off rfl rfl rfl rfl rfl) rfl rfl ?_
                                  refine rs_aoff 5 rfl (met_off rfl rfl rfl rfl rfl) rfl rfl ?_
                                  refine rs_aoff 7 rfl (met_off rfl rfl rfl rfl rfl) rfl rfl ?_
                                  refine rs_aoff 8 rfl (met_off rfl rfl rfl rfl rfl) rfl rfl ?_
                                  refine rs_voff 4 rfl (met_off rfl rfl rfl rfl rfl) rfl rfl (by exact hw) ?_
                                  refine rs_koff 6 rfl (met_off rfl rfl rfl rfl rfl) rfl rfl ?_
                                  refine rs_koff 9 rfl (met_off rfl rfl rfl rfl rfl) rfl rfl ?_
                                  refine rs_koff 10 rfl (met_off rfl rfl rfl rfl rfl) rfl rfl ?_
                                  refine rs_koff 11 rfl (met_off rfl rfl rfl rfl rfl) rfl rfl ?_
                                  refine rs_koff 12 rfl (met_off rfl rfl rfl rfl rfl) rfl rfl ?_
                                  refine rs_kv 13 rfl rfl rfl rfl (S' := fun _ => True) trivial (v_pick_false rfl rfl) ?_
                                  refine rs_done (g_le (xK (xK (xK (xK (xK (xK (xK (xK (xK (xK (xK (xK (xK (xK (xK (Fr.le_refl _)))))))))))))))) ?_)
                                  refine g_cond_false rfl ?_
                                  refine g_skip (g_inBlock ?_)
                                  refine g_region ?_
                                  refine xV rfl rfl rfl (v_add rfl rfl (by omega)) ?_
                                  refine xV rfl rfl rfl (v_move rfl) ?_
                                  refine rl_nil (g_le (xK (xK (Fr.le_refl _))) ?_)
                                  rw [if_neg (by simp)] at heq
                                  exact g_le (by repeat (first | exact Fr.le_nil _ | refine Fr.le_cons rfl ?_)) (ih (0 + 1) w ⟨by omega, by rw [if_neg (by omega), Nat.add_sub_cancel, hk]; exact heq, hw.xQ⟩ (by omega))
              · try with_reducible exact tf_elim h2
                all_goals
                  try replace h2 := of_decide_eq_false h2
                  refine g_exit rfl (g_seq ?_)
                  refine g_region ?_
                  refine xV rfl rfl rfl (v_assign rfl) ?_
                  refine rl_nil (g_le (xK (Fr.le_refl _)) ?_)
                  refine g_ret1 Try.func32 rfl rfl ?_
                  rw [List.drop_eq_nil_of_le (by omega)] at heq
                  refine ⟨?_, hw.xQ⟩
                  rw [heq]
                  rfl
theorem rrightN_calls {E : Env} {w : World} {L : List As} {g : Hp} {ncs : List Value} {x : Nd} (q : Qt) (hn : rdNd g ncs x) (hw : Sat E w (RO g :: L)) :
    Calls Try.prog 11 #[q.v, .agg ncs.toArray] w fun v w' => v = .returned (.int .i64 (rightN q x)) ∧ Sat E w' (RO g :: L) := by
  obtain ⟨ea, en, ec, ka, kn, kc, rfl, hnd⟩ := nd_told hn
  unfold rightN
  refine calls_of_g (n := 16) Try.func11 rfl rfl rfl ?_
  change G _ _ _ _ _ [(0, _), (1, _)] _
  refine g_seq ?_
  refine g_region ?_
  refine rl_k rfl (k_box hw rfl rfl rfl (fun bk0_0 w hw => ?_))
  refine rl_k rfl (k_box hw rfl rfl rfl (fun bk0_1 w hw => ?_))
  refine xV rfl rfl rfl (v_assign rfl) ?_
  refine rl_nil (g_le (xK (xK (xK (Fr.le_refl _)))) ?_)
  refine g_seq (g_seq ?_)
  refine g_region ?_
  refine rl_v rfl rfl rfl (by exact sat_cells hw (by (repeat first | with_reducible exact xH | apply xT); first | done | fail) ⟨rfl, rfl, rfl, rfl, rfl, rfl, rfl, trivial⟩) (v_loadAgg (vs := [_, _, _, _, _, _, _]) T.agg_23_7 rfl rfl) ?_
  refine rl_k rfl (k_callf Try.func8 rfl rfl rfl rfl ?_)
  refine Calls.mono (rright_calls q (hw.xQ)) ?_
  rintro _ w ⟨rfl, hw⟩
  refine ⟨_, rfl, ?_⟩
  refine xV rfl rfl rfl (v_not rfl) ?_
  refine rl_nil (g_le (xK (xS rfl (xS rfl (Fr.le_refl _)))) ?_)
  refine g_cond rfl (fun h1 => ?_) (fun h1 => ?_)
  · try with_reducible exact ft_elim h1
    all_goals
      try replace h1 := of_decide_eq_true h1
      refine g_seq ?_
      refine g_region ?_
      refine xV rfl rfl rfl (v_assign rfl) ?_
      refine rl_nil (g_le (xK (Fr.le_refl _)) ?_)
      refine g_ret1 Try.func11 rfl rfl ?_
      rw [if_pos (by simpa using h1)]
      exact ⟨rfl, hw.xQ⟩
  · try with_reducible exact tf_elim h1
    all_goals
      try replace h1 := of_decide_eq_false h1
      have hq : q.ok := by simpa using h1
      rw [if_neg (by simpa using hq)]
      refine g_skip (g_seq (g_seq ?_))
      refine g_region ?_
      refine xV rfl rfl rfl (v_fieldAddr0 T.fld_48_0_0 rfl) ?_
      refine rl_v rfl rfl rfl (by exact sat_cell hw (by (repeat first | with_reducible exact xH | apply xT); first | done | fail) rfl) (v_load T.scal_4 rfl) ?_
      refine rl_nil (g_le (xK (xS rfl (Fr.le_refl _))) ?_)
      refine g_cond rfl (fun h2 => ?_) (fun h2 => ?_)
      · try with_reducible exact ft_elim h2
        all_goals
          try replace h2 := of_decide_eq_true h2
          refine g_seq ?_
          refine g_region ?_
          refine rl_v rfl rfl rfl (by exact sat_cells hw (by (repeat first | with_reducible exact xH | apply xT); first | done | fail) ⟨rfl, rfl, rfl, rfl, rfl, rfl, rfl, trivial⟩) (v_loadAgg (vs := [_, _, _, _, _, _, _]) T.agg_23_7 rfl rfl) ?_
          refine rl_v rfl rfl rfl (by exact sat_cells hw (by (repeat first | with_reducible exact xH | apply xT); first | done | fail) ⟨rfl, rfl, rfl, trivial⟩) (v_loadAgg (vs := [_, _, _]) T.agg_48_3 rfl rfl) ?_
          refine rl_k rfl (k_callf Try.func31 rfl rfl rfl rfl ?_)
          refine Calls.mono (rleaf_calls q hnd (hw.xQ)) ?_
          rintro _ w ⟨rfl, hw⟩
          refine ⟨_, rfl, ?_⟩
          refine xV rfl rfl rfl (v_assign rfl) ?_
          refine rl_nil (g_le (xK (xS rfl (xS rfl (xS rfl (Fr.le_refl _))))) ?_)
          refine g_ret1 Try.func11 rfl rfl ?_
          rw [if_pos h2]
          exact ⟨rfl, hw.xQ⟩
      · try with_reducible exact tf_elim h2
        all_goals
          try replace h2 := of_decide_eq_false h2
          refine g_skip (g_seq ?_)
          refine g_region ?_
          refine rl_v rfl rfl rfl (by exact sat_cells hw (by (repeat first | with_reducible exact xH | apply xT); first | done | fail) ⟨rfl, rfl, rfl, rfl, rfl, rfl, rfl, trivial⟩) (v_loadAgg (vs := [_, _, _, _, _, _, _]) T.agg_23_7 rfl rfl) ?_
          refine rl_v rfl rfl rfl (by exact sat_cells hw (by (repeat first | with_reducible exact xH | apply xT); first | done | fail) ⟨rfl, rfl, rfl, trivial⟩) (v_loadAgg (vs := [_, _, _]) T.agg_48_3 rfl rfl) ?_
          refine rl_k rfl (k_callf Try.func32 rfl rfl rfl rfl ?_)
          refine Calls.mono (rinner_calls q hq hnd (hw.xQ)) ?_
          rintro _ w ⟨rfl, hw⟩
          refine ⟨_, rfl, ?_⟩
          refine xV rfl rfl rfl (v_assign rfl) ?_
          refine rl_nil (g_le (xK (xS rfl (xS rfl (xS rfl (Fr.le_refl _))))) ?_)
          refine g_ret1 Try.func11 rfl rfl ?_
          rw [if_neg (show ¬ x.leaf = true by simp [h2])]
          exact ⟨rfl, hw.xQ⟩
end Go.Proofs.Ytlgpdglnfjndhaa
