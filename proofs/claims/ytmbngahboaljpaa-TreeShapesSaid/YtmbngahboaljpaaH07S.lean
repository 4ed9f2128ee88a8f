/-
  TreeShapes: behind each call the tree may be, and no more pages were laid down than said.
-/
import Derived.Test.YtmbngahboaljpaaH13
import Derived.Test.YtmbngahboaljpaaRows
namespace Go.Proofs.Ytmbngahboaljpaa
set_option maxRecDepth 8000
set_option linter.unusedSimpArgs false
set_option linter.unusedVariables false
open Go Xe Go.Lib Go.RowKit Go.ChangeShapes Go.WideShapes Go.ChangeAt
theorem ord_f6_r23_H07S : orderOfB Try.f6 23 [5, 10] (.a 0 (.a 1 (.v 2 (.v 3 (.b2 4 9 (.b2 5 9 (.a 6 (.a 7 (.a 8 (.k 9 (.k 10 (.k 11 .done)))))) (.k 5 (.k 6 (.a 7 (.a 8 (.k 10 (.k 11 .done))))))) (.k 4 (.k 5 (.k 6 (.a 7 (.a 8 (.k 10 (.k 11 .done)))))))))))) = true := by kernel_rfl
set_option maxHeartbeats 4000000 in
theorem TreeShapes_law {w : World} {a : Option Addr} {len cap : Nat} {xs : List Op7} (hr : rdArg (rdSl 72 5 rdOp7) w (.slice a len cap) xs) :
    Law Try.prog 6 [.slice a len cap] w := by
  unfold Law
  have hw := Sat.old w
  generalize w = W at hr hw ⊢
  have hr : (rdSl 72 5 rdOp7) (hpOf W) [.slice a len cap] xs := hr
  obtain ⟨rfl, hlb, hlc, hlm, _⟩ := rdSl_get hr
  simp only [reachBytes] at hlb
  refine calls_of_g (n := 136) Try.func6 rfl rfl rfl ?_
  change G _ _ _ _ _ [(0, _)] _
  refine g_seq ?_
  refine g_region ?_
  refine xV rfl rfl rfl (v_assign rfl) ?_
  refine rl_nil (g_le (xK (Fr.le_refl _)) ?_)
  refine g_seq ?_
  refine g_region ?_
  refine rl_k rfl (k_callf Try.func12 rfl rfl rfl rfl ?_)
  refine Calls.mono (tnew_calls (g := hpOf W) (hw.xQ)) ?_
  rintro _ w ⟨h, A, rfl, hI, hw⟩
  refine ⟨_, rfl, ?_⟩
  refine xV rfl rfl rfl (v_assign rfl) ?_
  refine rl_nil (g_le (xK (xS rfl (Fr.le_refl _))) ?_)
  refine g_seq (g_seq ?_)
  refine g_region ?_
  refine xV rfl rfl rfl (v_move rfl) ?_
  refine xV rfl rfl rfl (v_eqlNil T.ptr_26 rfl rfl) ?_
  refine rl_nil (g_le (xK (xS rfl (Fr.le_refl _))) ?_)
  refine g_cond_false rfl ?_
  refine g_skip (g_seq ?_)
  refine g_region ?_
  refine xV rfl rfl rfl (v_move rfl) ?_
  refine xV rfl rfl rfl (v_mkIface T.ptr_26 rfl) ?_
  refine rl_k rfl (k_callf Try.func17 rfl rfl rfl rfl ?_)
  refine Calls.mono (tempty_calls hI (hw.xQ)) ?_
  rintro _ w ⟨g1, A1, hg1, hI1, rfl, ht1, hok1, hw⟩
  refine ⟨_, rfl, ?_⟩
  refine xV rfl rfl rfl (v_move rfl) ?_
  refine xV rfl rfl rfl (v_extract rfl rfl) ?_
  refine xV rfl rfl rfl (v_extract rfl rfl) ?_
  refine rl_k rfl (k_alloc hw T.zero_25 rfl rfl (fun bk4_6 w hw => ?_))
  refine rl_k rfl (k_storeWhole hw T.agg_25_4 rfl rfl (by simp [Value.oneCell']) rfl (by (repeat first | with_reducible exact xH | apply xT); first | done | fail) rfl (fun w hw => ?_))
  refine xV rfl rfl rfl (v_assign rfl) ?_
  refine rl_nil (g_le (xK (xK (xS rfl (xS rfl (xS rfl (xS rfl (xS rfl (xS rfl (Fr.le_refl _))))))))) ?_)
  refine g_seq (g_seq ?_)
  refine g_region ?_
  refine xV rfl rfl rfl (v_move rfl) ?_
  refine xV rfl rfl rfl (v_neqF rfl rfl (by omega)) ?_
  refine rl_nil (g_le (xK (xS rfl (Fr.le_refl _))) ?_)
  refine g_cond_false rfl ?_
  refine g_skip (g_seq ?_)
  refine g_region ?_
  refine xV rfl rfl rfl (v_move rfl) ?_
  refine rl_v rfl rfl rfl (by exact sat_cells hw (by (repeat first | with_reducible exact xH | apply xT); first | done | fail) ⟨rfl, rfl, rfl, rfl, trivial⟩) (v_loadAgg (vs := [_, _, _, _]) T.agg_25_4 rfl rfl) ?_
  refine rl_k rfl (k_callf Try.func29 rfl rfl rfl rfl ?_)
  refine Calls.mono (shaped_calls ht1 (by omega) hok1 hI1 (hw.xQ)) ?_
  rintro _ w ⟨g2, A2, hg2, hI2, rfl, hw⟩
  refine ⟨_, rfl, ?_⟩
  refine xV rfl rfl rfl (v_move rfl) ?_
  refine xV rfl rfl rfl (v_extract rfl rfl) ?_
  refine xV rfl rfl rfl (v_extract rfl rfl) ?_
  refine xV rfl rfl rfl (v_assign rfl) ?_
  refine xV rfl rfl rfl (v_assign rfl) ?_
  refine rl_nil (g_le (xK (xK (xS rfl (xS rfl (xS rfl (xS rfl (xS rfl (xS rfl (Fr.le_refl _))))))))) ?_)
  refine g_seq (g_seq ?_)
  refine g_region ?_
  refine xV rfl rfl rfl (v_move rfl) ?_
  refine xV rfl rfl rfl (v_not rfl) ?_
  refine xV rfl rfl rfl (v_move rfl) ?_
  refine rl_vg (met_on rfl rfl rfl rfl) rfl rfl (S := fun _ => True) trivial (v_move rfl) ?_
  refine rl_vg (met_on rfl rfl rfl rfl) rfl rfl (S := fun _ => True) trivial (v_neqF rfl rfl (by omega)) ?_
  refine xV rfl rfl rfl (v_pick_false rfl rfl) ?_
  refine rl_nil (g_le (xK (xS rfl (xS rfl (xS rfl (xS rfl (xS rfl (Fr.le_refl _))))))) ?_)
  refine g_cond_false rfl ?_
  refine g_skip (g_seq (g_seq ?_))
  refine g_region ?_
  refine xV rfl rfl rfl (v_move rfl) ?_
  refine rl_k rfl (k_callf Try.func18 rfl rfl rfl rfl ?_)
  refine Calls.mono (short7_calls a xs.length cap 80 (by omega) (by omega) hw) ?_
  rintro _ w ⟨rfl, hw⟩
  refine ⟨_, rfl, ?_⟩
  refine xV rfl rfl rfl (v_lenSlice T.sl_41_46_5 rfl) ?_
  refine xV rfl rfl rfl (v_move rfl) ?_
  refine rl_nil (g_le (xK (xK (xK (xS rfl (Fr.le_refl _))))) ?_)
  refine g_block ?_
  refine g_loopC (σ := Int × Hp × List Nd × As × Rf × Nat) (fun C x => (45, .int .i64 x.1) :: (6, .int .i64 ((x.2.2.2.2.2 : Nat) + 1)) :: C) [(2, _), (3, _), (4, _), (43, _), (44, _)] (by repeat (first | exact Fr.le_nil _ | refine Fr.le_cons rfl ?_)) (fun z w => 0 ≤ z.1 ∧ z.1 ≤ min xs.length 80 ∧ (hpOf W).le z.2.1 ∧ HeapI h z.2.1 z.2.2.1 z.2.2.2.1 ∧ z.2.2.2.2.1.ok ∧ (∃ u, TreeAt z.2.2.1 z.2.2.2.2.1 z.2.2.2.2.2 u ∧ ((entsU z.2.2.2.2.2 u).length : Int) ≤ z.1) ∧ (z.2.2.1.length : Int) ≤ 1 + 17 * z.1 ∧ Sat (envOf W) w (z.2.2.2.1 :: pt bk4_6 (.cells z.2.2.2.2.1.cells.toArray 25 (0, 0)) :: RO z.2.1 :: [])) (fun z => (xs.length - z.1).toNat) ?_ (0, g2, [nodeU 0 ([] : List En)], A2, refO 0, 0) (by repeat (first | exact Fr.le_nil _ | refine Fr.le_cons rfl ?_)) ⟨by simp, by simp only; omega, hg1.trans hg2, hI2, hok1, ⟨_, ht1, by simp [entsU]⟩, by simp, hw.xQ⟩
  rintro ⟨i, g, s, A, root, hh⟩ w ⟨hi0, hi1, hg, hI, hrk, ⟨u, ht, hes⟩, hsl, hw⟩ ih
  dsimp only at hi0 hi1 hg hI hrk ht hes hsl hw ih ⊢
  refine g_seq ?_
  refine g_region ?_
  refine xV rfl rfl rfl (v_lss rfl rfl) ?_
  refine rl_nil (g_le (xK (Fr.le_refl _)) ?_)
  refine g_seq ?_
  refine g_cond rfl (fun h4 => ?_) (fun h4 => ?_)
  · try with_reducible exact ft_elim h4
    all_goals
      try replace h4 := of_decide_eq_true h4
      refine g_skip (g_seq (g_block (g_seq ?_)))
      have hz := hw
      clear hw
      obtain ⟨_, _, _, _, gl⟩ := rdSl_get (mono_sl mono_Op7 hg hr)
      obtain ⟨b4, o1, o, ecs, rfl, ho, hat1, hl1, hrd⟩ := gl i hi0 (by omega)
      obtain ⟨sa, sn, sc, rfl, hns, hvs, hsegs, hdw, hbw⟩ := op7_told hrd
      have hw := hz
      have h7 := ht.low (by omega)
      refine g_region ?_
      refine xV rfl rfl rfl (v_indexAddr T.sl_41_46_5 rfl rfl (by omega) (by omega)) ?_
      refine rl_v rfl rfl rfl (by exact ro_ats hw (by (repeat first | with_reducible exact xH | apply xT); first | done | fail) (by assumption)) (v_loadAgg (vs := [_, _, _, _, _]) T.agg_46_5 rfl rfl) ?_
      refine rl_k rfl (k_alloc hw T.zero_46 rfl rfl (fun bk12_2 w hw => ?_))
      refine rl_k rfl (k_storeWhole hw T.agg_46_5 rfl rfl (by simp [Value.oneCell']) rfl (by (repeat first | with_reducible exact xH | apply xT); first | done | fail) rfl (fun w hw => ?_))
      refine rl_nil (g_le (xK (xK (xK (Fr.le_refl _)))) ?_)
      refine g_seq ?_
      refine g_region ?_
      refine xV rfl rfl rfl (v_move rfl) ?_
      refine rl_k rfl (k_callf Try.func14 rfl rfl rfl rfl ?_)
      refine Calls.mono (tlen_calls hI (hw.xQ)) ?_
      rintro _ w ⟨rfl, hw⟩
      refine ⟨_, rfl, ?_⟩
      refine xV rfl rfl rfl (v_assign rfl) ?_
      refine rl_nil (g_le (xK (xK (xK (Fr.le_refl _)))) ?_)
      refine g_seq ?_
      refine g_region ?_
      refine xV rfl rfl rfl (v_move rfl) ?_
      refine xV rfl rfl rfl (v_mul rfl rfl (by omega)) ?_
      refine xV rfl rfl rfl (v_add rfl rfl (by omega)) ?_
      refine xV rfl rfl rfl (v_assign rfl) ?_
      refine rl_nil (g_le (xK (xK (xK (xK (Fr.le_refl _))))) ?_)
      refine g_seq (g_seq ?_)
      refine g_region ?_
      refine xV rfl rfl rfl (v_fieldAddr0 T.fld_46_0_0 rfl) ?_
      refine rl_v rfl rfl rfl (by exact sat_cell hw (by (repeat first | with_reducible exact xH | apply xT); first | done | fail) rfl) (v_load T.scal_3 rfl) ?_
      refine xV rfl rfl rfl (v_eql rfl rfl) ?_
      refine rl_nil (g_le (xK (xK (xK (Fr.le_refl _)))) ?_)
      refine g_cutc (σ := Hp × As × List Nd × Rf × Nat × Int) (fun C x => (11, .int .i64 x.2.2.2.2.2) :: C) [(2, _), (3, _), (4, _), (6, _), (9, _), (10, _), (43, _), (44, _), (45, _), (46, _), (47, _), (48, _), (49, _), (50, _), (51, _), (52, _), (53, _), (54, _), (55, _), (56, _)] (by repeat (first | exact Fr.le_nil _ | refine Fr.le_cons rfl ?_)) (fun z w => g.le z.1 ∧ HeapI h z.1 z.2.2.1 z.2.1 ∧ z.2.2.2.1.ok ∧ (∃ u', TreeAt z.2.2.1 z.2.2.2.1 z.2.2.2.2.1 u' ∧ ((entsU z.2.2.2.2.1 u').length : Int) ≤ i + 1) ∧ (z.2.2.1.length : Int) - s.length ≤ z.2.2.2.2.2 ∧ z.2.2.2.2.2 ≤ 17 ∧ s.length ≤ z.2.2.1.length ∧ (o.do_ = 1 → z.2.2.2.2.1 ≤ hh) ∧ (o.do_ ≠ 1 → hh ≤ z.2.2.2.2.1) ∧ z.2.2.2.2.1 ≤ hh + 1 ∧ hh ≤ z.2.2.2.2.1 + 1 ∧ Sat (envOf W) w (z.2.1 :: pt bk4_6 (.cells z.2.2.2.1.cells.toArray 25 (0, 0)) :: pt bk12_2 (.cells [.int .i64 o.do_, .string o.name, .string o.value, .slice sa sn sc, .int .i64 o.back].toArray 46 (0, 0)) :: RO z.1 :: [])) ?_ ?_
      · skip
        rintro ⟨g3, A3, s3, root3, h3, m3⟩ w ⟨hg3, hI3, hrk3, ⟨u3, ht3, hes3⟩, hsm, hm17, hss, hd1, hd2, hu1, hu2, hw⟩
        dsimp only at hg3 hI3 hrk3 ht3 hes3 hsm hm17 hss hd1 hd2 hu1 hu2 hw ⊢
        have h73 := ht3.low (by omega)
        all_goals
          refine g_seq ?_
          refine g_region ?_
          refine xV rfl rfl rfl (v_move rfl) ?_
          refine rl_v rfl rfl rfl (by exact sat_cells hw (by (repeat first | with_reducible exact xH | apply xT); first | done | fail) ⟨rfl, rfl, rfl, rfl, trivial⟩) (v_loadAgg (vs := [_, _, _, _]) T.agg_25_4 rfl rfl) ?_
          refine rl_k rfl (k_callf Try.func29 rfl rfl rfl rfl ?_)
          refine Calls.mono (shaped_calls ht3 (by omega) hrk3 hI3 (hw.xQ)) ?_
          rintro _ w ⟨g5, A5, hg5, hI5, rfl, hw⟩
          refine ⟨_, rfl, ?_⟩
          refine xV rfl rfl rfl (v_move rfl) ?_
          refine xV rfl rfl rfl (v_extract rfl rfl) ?_
          refine xV rfl rfl rfl (v_extract rfl rfl) ?_
          refine xV rfl rfl rfl (v_assign rfl) ?_
          refine xV rfl rfl rfl (v_assign rfl) ?_
          refine rl_nil (g_le (xK (xK (xK (xK (xK (xK (xK (xK (Fr.le_refl _))))))))) ?_)
          refine g_seq (g_seq ?_)
          refine g_region ?_
          refine xV rfl rfl rfl (v_move rfl) ?_
          refine xV rfl rfl rfl (v_not rfl) ?_
          refine xV rfl rfl rfl (v_move rfl) ?_
          refine rl_split (s := 94) rfl (fun g28_2 => ?_) (fun g28_2 => ?_)
          · try with_reducible exact ft_elim g28_2
            all_goals
              try replace g28_2 := of_decide_eq_true g28_2
              simp at g28_2
          · try with_reducible exact tf_elim g28_2
            all_goals
              try replace g28_2 := of_decide_eq_false g28_2
              refine rl_vg (met_on rfl rfl rfl rfl) rfl rfl (S := fun _ => True) trivial (v_move rfl) ?_
              refine rl_kg (met_on rfl rfl rfl rfl) (k_callf Try.func14 rfl rfl rfl rfl ?_)
              refine Calls.mono (tlen_calls hI5 (hw.xQ)) ?_
              rintro _ w ⟨rfl, hw⟩
              refine ⟨_, rfl, ?_⟩
              refine rl_vg (met_on rfl rfl rfl rfl) rfl rfl (S := fun _ => True) trivial (v_move rfl) ?_
              refine rl_vg (met_on rfl rfl rfl rfl) rfl rfl (S := fun _ => True) trivial (v_sub rfl rfl (by omega)) ?_
              refine rl_vg (met_on rfl rfl rfl rfl) rfl rfl (S := fun _ => True) trivial (v_move rfl) ?_
              refine rl_vg (met_on rfl rfl rfl rfl) rfl rfl (S := fun _ => True) trivial (v_gtrF rfl rfl (by omega)) ?_
              refine xV rfl rfl rfl (v_pick_false rfl rfl) ?_
              refine xV rfl rfl rfl (v_move rfl) ?_
              refine rl_split (s := 102) rfl (fun g28_10 => ?_) (fun g28_10 => ?_)
              · try with_reducible exact ft_elim g28_10
                all_goals
                  try replace g28_10 := of_decide_eq_true g28_10
                  refine rl_off (met_off rfl rfl rfl rfl rfl) rfl rfl ?_
                  refine rl_off (met_off rfl rfl rfl rfl rfl) rfl rfl ?_
                  refine rl_off (met_off rfl rfl rfl rfl rfl) rfl rfl ?_
                  refine rl_off (met_off rfl rfl rfl rfl rfl) rfl rfl ?_
                  first | (refine xV rfl rfl rfl (v_pick_true rfl rfl) ?_) | (refine xV rfl rfl rfl (v_pick_false rfl rfl) ?_) | (refine xV rfl rfl rfl (v_pick rfl rfl rfl) ?_)
                  refine xV rfl rfl rfl (v_move rfl) ?_
                  refine rl_off (met_off rfl rfl rfl rfl rfl) rfl rfl ?_
                  refine rl_off (met_off rfl rfl rfl rfl rfl) rfl rfl ?_
                  refine rl_off (met_off rfl rfl rfl rfl rfl) rfl rfl ?_
                  refine rl_off (met_off rfl rfl rfl rfl rfl) rfl rfl ?_
                  first | (refine xV rfl rfl rfl (v_pick_true rfl rfl) ?_) | (refine xV rfl rfl rfl (v_pick_false rfl rfl) ?_) | (refine xV rfl rfl rfl (v_pick rfl rfl rfl) ?_)
                  refine xV rfl rfl rfl (v_move rfl) ?_
                  refine rl_off (met_off rfl rfl rfl rfl rfl) rfl rfl ?_
                  refine rl_off (met_off rfl rfl rfl rfl rfl) rfl rfl ?_
                  refine rl_off (met_off rfl rfl rfl rfl rfl) rfl rfl ?_
                  refine rl_off (met_off rfl rfl rfl rfl rfl) rfl rfl ?_
                  refine rl_off (met_gone rfl rfl rfl rfl) rfl rfl ?_
                  refine rl_off (met_gone rfl rfl rfl rfl) rfl rfl ?_
                  refine rl_off (met_gone rfl rfl rfl rfl) rfl rfl ?_
                  refine rl_off (met_off rfl rfl rfl rfl rfl) rfl rfl ?_
                  first | (refine xV rfl rfl rfl (v_pick_true rfl rfl) ?_) | (refine xV rfl rfl rfl (v_pick_false rfl rfl) ?_) | (refine xV rfl rfl rfl (v_pick rfl rfl rfl) ?_)
                  refine xV rfl rfl rfl (v_move rfl) ?_
                  refine rl_off (met_off rfl rfl rfl rfl rfl) rfl rfl ?_
                  refine rl_off (met_off rfl rfl rfl rfl rfl) rfl rfl ?_
                  refine rl_off (met_off rfl rfl rfl rfl rfl) rfl rfl ?_
                  refine rl_off (met_off rfl rfl rfl rfl rfl) rfl rfl ?_
                  refine rl_off (met_gone rfl rfl rfl rfl) rfl rfl ?_
                  refine rl_off (met_gone rfl rfl rfl rfl) rfl rfl ?_
                  refine rl_off (met_gone rfl rfl rfl rfl) rfl rfl ?_
                  refine rl_off (met_off rfl rfl rfl rfl rfl) rfl rfl ?_
                  first | (refine xV rfl rfl rfl (v_pick_true rfl rfl) ?_) | (refine xV rfl rfl rfl (v_pick_false rfl rfl) ?_) | (refine xV rfl rfl rfl (v_pick rfl rfl rfl) ?_)
                  refine rl_nil (g_le (xK (xK (xK (xK (xK (xK (xK (xK (xK (xK (xK (xK (xK (xK (xK (xK (xK (xK (xK (xK (xK (xK (xK (xK (xK (xK (xK (xK (xK (xK (xK (xK (xK (xK (xK (xK (xK (xK (xK (xK (xK (xK (xK (xK (Fr.le_refl _))))))))))))))))))))))))))))))))))))))))))))) ?_)
                  refine g_cond_true rfl ?_
                  refine g_seq ?_
                  refine g_region ?_
                  refine xV rfl rfl rfl (v_assign rfl) ?_
                  refine rl_nil (g_le (xK (Fr.le_refl _)) ?_)
                  refine g_ret1 Try.func6 rfl rfl ?_
                  exact ⟨rfl, hw⟩
              · try with_reducible exact tf_elim g28_10
                all_goals
                  try replace g28_10 := of_decide_eq_false g28_10
                  refine rl_vg (met_on rfl rfl rfl rfl) rfl rfl (S := fun _ => True) trivial (v_move rfl) ?_
                  refine rl_vg (met_on rfl rfl rfl rfl) rfl rfl (S := fun _ => True) trivial (v_move rfl) ?_
                  refine rl_vg (met_on rfl rfl rfl rfl) rfl rfl (S := fun _ => True) trivial (v_add rfl rfl (by omega)) ?_
                  refine rl_vg (met_on rfl rfl rfl rfl) rfl rfl (S := fun _ => True) trivial (v_gtrF rfl rfl (by omega)) ?_
                  refine xV rfl rfl rfl (v_pick_false rfl rfl) ?_
                  refine xV rfl rfl rfl (v_move rfl) ?_
                  refine rl_split (s := 108) rfl (fun g28_16 => ?_) (fun g28_16 => ?_)
                  · try with_reducible exact ft_elim g28_16
                    all_goals
                      try replace g28_16 := of_decide_eq_true g28_16
                      refine rl_off (met_off rfl rfl rfl rfl rfl) rfl rfl ?_
                      refine rl_off (met_off rfl rfl rfl rfl rfl) rfl rfl ?_
                      refine rl_off (met_off rfl rfl rfl rfl rfl) rfl rfl ?_
                      refine rl_off (met_off rfl rfl rfl rfl rfl) rfl rfl ?_
                      first | (refine xV rfl rfl rfl (v_pick_true rfl rfl) ?_) | (refine xV rfl rfl rfl (v_pick_false rfl rfl) ?_) | (refine xV rfl rfl rfl (v_pick rfl rfl rfl) ?_)
                      refine xV rfl rfl rfl (v_move rfl) ?_
                      refine rl_off (met_off rfl rfl rfl rfl rfl) rfl rfl ?_
                      refine rl_off (met_off rfl rfl rfl rfl rfl) rfl rfl ?_
                      refine rl_off (met_off rfl rfl rfl rfl rfl) rfl rfl ?_
                      refine rl_off (met_off rfl rfl rfl rfl rfl) rfl rfl ?_
                      refine rl_off (met_gone rfl rfl rfl rfl) rfl rfl ?_
                      refine rl_off (met_gone rfl rfl rfl rfl) rfl rfl ?_
                      refine rl_off (met_gone rfl rfl rfl rfl) rfl rfl ?_
                      refine rl_off (met_off rfl rfl rfl rfl rfl) rfl rfl ?_
                      first | (refine xV rfl rfl rfl (v_pick_true rfl rfl) ?_) | (refine xV rfl rfl rfl (v_pick_false rfl rfl) ?_) | (refine xV rfl rfl rfl (v_pick rfl rfl rfl) ?_)
                      refine xV rfl rfl rfl (v_move rfl) ?_
                      refine rl_off (met_off rfl rfl rfl rfl rfl) rfl rfl ?_
                      refine rl_off (met_off rfl rfl rfl rfl rfl) rfl rfl ?_
                      refine rl_off (met_off rfl rfl rfl rfl rfl) rfl rfl ?_
                      refine rl_off (met_off rfl rfl rfl rfl rfl) rfl rfl ?_
                      refine rl_off (met_gone rfl rfl rfl rfl) rfl rfl ?_
                      refine rl_off (met_gone rfl rfl rfl rfl) rfl rfl ?_
                      refine rl_off (met_gone rfl rfl rfl rfl) rfl rfl ?_
                      refine rl_off (met_off rfl rfl rfl rfl rfl) rfl rfl ?_
                      first | (refine xV rfl rfl rfl (v_pick_true rfl rfl) ?_) | (refine xV rfl rfl rfl (v_pick_false rfl rfl) ?_) | (refine xV rfl rfl rfl (v_pick rfl rfl rfl) ?_)
                      refine rl_nil (g_le (xK (xK (xK (xK (xK (xK (xK (xK (xK (xK (xK (xK (xK (xK (xK (xK (xK (xK (xK (xK (xK (xK (xK (xK (xK (xK (xK (xK (xK (xK (xK (xK (xK (xK (xK (xK (xK (xK (xK (xK (xK (xK (xK (xK (xK (Fr.le_refl _)))))))))))))))))))))))))))))))))))))))))))))) ?_)
                      refine g_cond_true rfl ?_
                      refine g_seq ?_
                      refine g_region ?_
                      refine xV rfl rfl rfl (v_assign rfl) ?_
                      refine rl_nil (g_le (xK (Fr.le_refl _)) ?_)
                      refine g_ret1 Try.func6 rfl rfl ?_
                      exact ⟨rfl, hw⟩
                  · try with_reducible exact tf_elim g28_16
                    all_goals
                      try replace g28_16 := of_decide_eq_false g28_16
                      refine rl_vg (met_on rfl rfl rfl rfl) rfl rfl (S := fun _ => True) trivial (v_move rfl) ?_
                      refine rl_vg (met_on rfl rfl rfl rfl) rfl rfl (S := fun _ => True) trivial (v_move rfl) ?_
                      refine rl_vg (met_on rfl rfl rfl rfl) rfl rfl (S := fun _ => True) trivial (v_sub rfl rfl (by omega)) ?_
                      refine rl_vg (met_on rfl rfl rfl rfl) rfl rfl (S := fun _ => True) trivial (v_lssF rfl rfl (by omega)) ?_
                      refine xV rfl rfl rfl (v_pick_false rfl rfl) ?_
                      refine xV rfl rfl rfl (v_move rfl) ?_
                      refine rl_split (s := 114) rfl (fun g28_22 => ?_) (fun g28_22 => ?_)
                      · try with_reducible exact ft_elim g28_22
                        all_goals
                          try replace g28_22 := of_decide_eq_true g28_22
                          refine rl_off (met_off rfl rfl rfl rfl rfl) rfl rfl ?_
                          refine rl_off (met_off rfl rfl rfl rfl rfl) rfl rfl ?_
                          refine rl_off (met_off rfl rfl rfl rfl rfl) rfl rfl ?_
                          refine rl_off (met_off rfl rfl rfl rfl rfl) rfl rfl ?_
                          refine rl_off (met_gone rfl rfl rfl rfl) rfl rfl ?_
                          refine rl_off (met_gone rfl rfl rfl rfl) rfl rfl ?_
                          refine rl_off (met_gone rfl rfl rfl rfl) rfl rfl ?_
                          refine rl_off (met_off rfl rfl rfl rfl rfl) rfl rfl ?_
                          first | (refine xV rfl rfl rfl (v_pick_true rfl rfl) ?_) | (refine xV rfl rfl rfl (v_pick_false rfl rfl) ?_) | (refine xV rfl rfl rfl (v_pick rfl rfl rfl) ?_)
                          refine xV rfl rfl rfl (v_move rfl) ?_
                          refine rl_off (met_off rfl rfl rfl rfl rfl) rfl rfl ?_
                          refine rl_off (met_off rfl rfl rfl rfl rfl) rfl rfl ?_
                          refine rl_off (met_off rfl rfl rfl rfl rfl) rfl rfl ?_
                          refine rl_off (met_off rfl rfl rfl rfl rfl) rfl rfl ?_
                          refine rl_off (met_gone rfl rfl rfl rfl) rfl rfl ?_
                          refine rl_off (met_gone rfl rfl rfl rfl) rfl rfl ?_
                          refine rl_off (met_gone rfl rfl rfl rfl) rfl rfl ?_
                          refine rl_off (met_off rfl rfl rfl rfl rfl) rfl rfl ?_
                          first | (refine xV rfl rfl rfl (v_pick_true rfl rfl) ?_) | (refine xV rfl rfl rfl (v_pick_false rfl rfl) ?_) | (refine xV rfl rfl rfl (v_pick rfl rfl rfl) ?_)
                          refine rl_nil (g_le (xK (xK (xK (xK (xK (xK (xK (xK (xK (xK (xK (xK (xK (xK (xK (xK (xK (xK (xK (xK (xK (xK (xK (xK (xK (xK (xK (xK (xK (xK (xK (xK (xK (xK (xK (xK (xK (xK (xK (xK (xK (xK (xK (xK (xK (xK (Fr.le_refl _))))))))))))))))))))))))))))))))))))))))))))))) ?_)
                          refine g_cond_true rfl ?_
                          refine g_seq ?_
                          refine g_region ?_
                          refine xV rfl rfl rfl (v_assign rfl) ?_
                          refine rl_nil (g_le (xK (Fr.le_refl _)) ?_)
                          refine g_ret1 Try.func6 rfl rfl ?_
                          exact ⟨rfl, hw⟩
                      · try with_reducible exact tf_elim g28_22
                        all_goals
                          try replace g28_22 := of_decide_eq_false g28_22
                          refine rl_vg (met_on rfl rfl rfl rfl) rfl rfl (S := fun _ => True) trivial (v_fieldAddr0 T.fld_46_0_0 rfl) ?_
                          refine rl_vg (met_on rfl rfl rfl rfl) rfl rfl (by exact sat_cell hw (by (repeat first | with_reducible exact xH | apply xT); first | done | fail) rfl) (v_load T.scal_3 rfl) ?_
                          refine rl_vg (met_on rfl rfl rfl rfl) rfl rfl (S := fun _ => True) trivial (v_eql rfl rfl) ?_
                          refine rl_vg (met_on rfl rfl rfl rfl) rfl rfl (S := fun _ => True) trivial (v_move rfl) ?_
                          refine rl_split (s := 118) rfl (fun g28_26 => ?_) (fun g28_26 => ?_)
                          · try with_reducible exact ft_elim g28_26
                            all_goals
                              try replace g28_26 := of_decide_eq_true g28_26
                              refine rl_vg (met_on rfl rfl rfl rfl) rfl rfl (S := fun _ => True) trivial (v_move rfl) ?_
                              refine rl_vg (met_on rfl rfl rfl rfl) rfl rfl (S := fun _ => True) trivial (v_move rfl) ?_
                              refine rl_vg (met_on rfl rfl rfl rfl) rfl rfl (S := fun _ => True) trivial (v_gtrF rfl rfl (by omega)) ?_
                              refine rl_vg (met_on rfl rfl rfl rfl) rfl rfl (S := fun _ => True) trivial (v_pick_true rfl rfl) ?_
                              refine xV rfl rfl rfl (v_pick_false rfl rfl) ?_
                              refine xV rfl rfl rfl (v_move rfl) ?_
                              refine rl_split (s := 124) rfl (fun g28_32 => ?_) (fun g28_32 => ?_)
                              · try with_reducible exact ft_elim g28_32
                                all_goals
                                  try replace g28_32 := of_decide_eq_true g28_32
                                  refine rl_off (met_off rfl rfl rfl rfl rfl) rfl rfl ?_
                                  refine rl_off (met_off rfl rfl rfl rfl rfl) rfl rfl ?_
                                  refine rl_off (met_off rfl rfl rfl rfl rfl) rfl rfl ?_
                                  refine rl_off (met_off rfl rfl rfl rfl rfl) rfl rfl ?_
                                  refine rl_off (met_gone rfl rfl rfl rfl) rfl rfl ?_
                                  refine rl_off (met_gone rfl rfl rfl rfl) rfl rfl ?_
                                  refine rl_off (met_gone rfl rfl rfl rfl) rfl rfl ?_
                                  refine rl_off (met_off rfl rfl rfl rfl rfl) rfl rfl ?_
                                  first | (refine xV rfl rfl rfl (v_pick_true rfl rfl) ?_) | (refine xV rfl rfl rfl (v_pick_false rfl rfl) ?_) | (refine xV rfl rfl rfl (v_pick rfl rfl rfl) ?_)
                                  refine rl_nil (g_le (xK (xK (xK (xK (xK (xK (xK (xK (xK (xK (xK (xK (xK (xK (xK (xK (xK (xK (xK (xK (xK (xK (xK (xK (xK (xK (xK (xK (xK (xK (xK (xK (xK (xK (xK (xK (xK (xK (xK (xK (xK (xK (xK (xK (xK (xK (xK (xK (Fr.le_refl _))))))))))))))))))))))))))))))))))))))))))))))))) ?_)
                                  refine g_cond_true rfl ?_
                                  refine g_seq ?_
                                  refine g_region ?_
                                  refine xV rfl rfl rfl (v_assign rfl) ?_
                                  refine rl_nil (g_le (xK (Fr.le_refl _)) ?_)
                                  refine g_ret1 Try.func6 rfl rfl ?_
                                  exact ⟨rfl, hw⟩
                              · try with_reducible exact tf_elim g28_32
                                all_goals
                                  try replace g28_32 := of_decide_eq_false g28_32
                                  refine rl_vg (met_on rfl rfl rfl rfl) rfl rfl (S := fun _ => True) trivial (v_fieldAddr0 T.fld_46_0_0 rfl) ?_
                                  refine rl_vg (met_on rfl rfl rfl rfl) rfl rfl (by exact sat_cell hw (by (repeat first | with_reducible exact xH | apply xT); first | done | fail) rfl) (v_load T.scal_3 rfl) ?_
                                  refine rl_vg (met_on rfl rfl rfl rfl) rfl rfl (S := fun _ => True) trivial (v_neqF rfl rfl (by omega)) ?_
                                  refine rl_vg (met_on rfl rfl rfl rfl) rfl rfl (S := fun _ => True) trivial (v_move rfl) ?_
                                  refine rl_split (s := 128) rfl (fun g28_36 => ?_) (fun g28_36 => ?_)
                                  · try with_reducible exact ft_elim g28_36
                                    all_goals
                                      try replace g28_36 := of_decide_eq_true g28_36
                                      refine rl_vg (met_on rfl rfl rfl rfl) rfl rfl (S := fun _ => True) trivial (v_move rfl) ?_
                                      refine rl_vg (met_on rfl rfl rfl rfl) rfl rfl (S := fun _ => True) trivial (v_move rfl) ?_
                                      first | (refine rl_vg (met_on rfl rfl rfl rfl) rfl rfl (S := fun _ => True) trivial (v_lssT rfl rfl (by omega)) ?_) | (refine rl_vg (met_on rfl rfl rfl rfl) rfl rfl (S := fun _ => True) trivial (v_lssF rfl rfl (by omega)) ?_) | (refine rl_vg (met_on rfl rfl rfl rfl) rfl rfl (S := fun _ => True) trivial (v_lss rfl rfl) ?_)
                                      first | (refine rl_vg (met_on rfl rfl rfl rfl) rfl rfl (S := fun _ => True) trivial (v_pick_true rfl rfl) ?_) | (refine rl_vg (met_on rfl rfl rfl rfl) rfl rfl (S := fun _ => True) trivial (v_pick_false rfl rfl) ?_) | (refine rl_vg (met_on rfl rfl rfl rfl) rfl rfl (S := fun _ => True) trivial (v_pick rfl rfl rfl) ?_)
                                      first | (refine xV rfl rfl rfl (v_pick_true rfl rfl) ?_) | (refine xV rfl rfl rfl (v_pick_false rfl rfl) ?_) | (refine xV rfl rfl rfl (v_pick rfl rfl rfl) ?_)
                                      refine rl_nil (g_le (xK (xK (xK (xK (xK (xK (xK (xK (xK (xK (xK (xK (xK (xK (xK (xK (xK (xK (xK (xK (xK (xK (xK (xK (xK (xK (xK (xK (xK (xK (xK (xK (xK (xK (xK (xK (xK (xK (xK (xK (xK (xK (xK (xK (xK (xK (xK (xK (xK (Fr.le_refl _)))))))))))))))))))))))))))))))))))))))))))))))))) ?_)
                                      refine g_cond rfl (fun h9 => ?_) (fun h9 => ?_)
                                      · try with_reducible exact ft_elim h9
                                        all_goals
                                          try replace h9 := of_decide_eq_true h9
                                          simp at h9
                                      · try with_reducible exact tf_elim h9
                                        all_goals
                                          try replace h9 := of_decide_eq_false h9
                                          refine g_skip ?_
                                          refine g_region ?_
                                          refine xV rfl rfl rfl (v_move rfl) ?_
                                          refine xV rfl rfl rfl (v_assign rfl) ?_
                                          refine rl_nil (g_le (xK (xK (Fr.le_refl _))) ?_)
                                          refine g_inBlock ?_
                                          refine g_region ?_
                                          first | (refine xV rfl rfl rfl (v_add rfl rfl (by omega)) ?_) | (refine xV rfl rfl rfl (v_addW rfl rfl) ?_)
                                          refine xV rfl rfl rfl (v_move rfl) ?_
                                          refine rl_nil (g_le (xK (xK (Fr.le_refl _))) ?_)
                                          exact g_le (by repeat (first | exact Fr.le_nil _ | refine Fr.le_cons rfl ?_)) (ih (i + 1, g5, s3, A5, root3, h3) w ⟨by simp only; omega, by simp only; omega, hg.trans (hg3.trans hg5), hI5, hrk3, ⟨u3, ht3, hes3⟩, by simp only; omega, hw.xQ⟩ (by simp only; omega))
                                  · try with_reducible exact tf_elim g28_36
                                    all_goals
                                      try replace g28_36 := of_decide_eq_false g28_36
                                      refine rl_off (met_off rfl rfl rfl rfl rfl) rfl rfl ?_
                                      refine rl_off (met_off rfl rfl rfl rfl rfl) rfl rfl ?_
                                      refine rl_off (met_off rfl rfl rfl rfl rfl) rfl rfl ?_
                                      refine rl_vg (met_on rfl rfl rfl rfl) rfl rfl (S := fun _ => True) trivial (v_pick_false rfl rfl) ?_
                                      refine xV rfl rfl rfl (v_pick_false rfl rfl) ?_
                                      refine rl_nil (g_le (xK (xK (xK (xK (xK (xK (xK (xK (xK (xK (xK (xK (xK (xK (xK (xK (xK (xK (xK (xK (xK (xK (xK (xK (xK (xK (xK (xK (xK (xK (xK (xK (xK (xK (xK (xK (xK (xK (xK (xK (xK (xK (xK (xK (xK (xK (xK (xK (xK (Fr.le_refl _)))))))))))))))))))))))))))))))))))))))))))))))))) ?_)
                                      refine g_cond_false rfl ?_
                                      refine g_skip ?_
                                      refine g_region ?_
                                      refine xV rfl rfl rfl (v_move rfl) ?_
                                      refine xV rfl rfl rfl (v_assign rfl) ?_
                                      refine rl_nil (g_le (xK (xK (Fr.le_refl _))) ?_)
                                      refine g_inBlock ?_
                                      refine g_region ?_
                                      refine xV rfl rfl rfl (v_add rfl rfl (by omega)) ?_
                                      refine xV rfl rfl rfl (v_move rfl) ?_
                                      refine rl_nil (g_le (xK (xK (Fr.le_refl _))) ?_)
                                      exact g_le (by repeat (first | exact Fr.le_nil _ | refine Fr.le_cons rfl ?_)) (ih (i + 1, g5, s3, A5, root3, h3) w ⟨by simp only; omega, by simp only; omega, hg.trans (hg3.trans hg5), hI5, hrk3, ⟨u3, ht3, hes3⟩, by simp only; omega, hw.xQ⟩ (by simp only; omega))
                          · try with_reducible exact tf_elim g28_26
                            all_goals
                              try replace g28_26 := of_decide_eq_false g28_26
                              refine rl_off (met_off rfl rfl rfl rfl rfl) rfl rfl ?_
                              refine rl_off (met_off rfl rfl rfl rfl rfl) rfl rfl ?_
                              refine rl_off (met_off rfl rfl rfl rfl rfl) rfl rfl ?_
                              refine rl_vg (met_on rfl rfl rfl rfl) rfl rfl (S := fun _ => True) trivial (v_pick_false rfl rfl) ?_
                              refine xV rfl rfl rfl (v_pick_false rfl rfl) ?_
                              refine xV rfl rfl rfl (v_move rfl) ?_
                              refine rl_vg (met_on rfl rfl rfl rfl) rfl rfl (S := fun _ => True) trivial (v_fieldAddr0 T.fld_46_0_0 rfl) ?_
                              refine rl_vg (met_on rfl rfl rfl rfl) rfl rfl (by exact sat_cell hw (by (repeat first | with_reducible exact xH | apply xT); first | done | fail) rfl) (v_load T.scal_3 rfl) ?_
                              refine rl_vg (met_on rfl rfl rfl rfl) rfl rfl (S := fun _ => True) trivial (v_neqT rfl rfl (by omega)) ?_
                              refine rl_vg (met_on rfl rfl rfl rfl) rfl rfl (S := fun _ => True) trivial (v_move rfl) ?_
                              refine rl_split (s := 128) rfl (fun g28_36 => ?_) (fun g28_36 => ?_)
                              · try with_reducible exact ft_elim g28_36
                                all_goals
                                  try replace g28_36 := of_decide_eq_true g28_36
                                  refine rl_vg (met_on rfl rfl rfl rfl) rfl rfl (S := fun _ => True) trivial (v_move rfl) ?_
                                  refine rl_vg (met_on rfl rfl rfl rfl) rfl rfl (S := fun _ => True) trivial (v_move rfl) ?_
                                  refine rl_vg (met_on rfl rfl rfl rfl) rfl rfl (S := fun _ => True) trivial (v_lssF rfl rfl (by omega)) ?_
                                  refine rl_vg (met_on rfl rfl rfl rfl) rfl rfl (S := fun _ => True) trivial (v_pick_true rfl rfl) ?_
                                  refine xV rfl rfl rfl (v_pick_false rfl rfl) ?_
                                  refine rl_nil (g_le (xK (xK (xK (xK (xK (xK (xK (xK (xK (xK (xK (xK (xK (xK (xK (xK (xK (xK (xK (xK (xK (xK (xK (xK (xK (xK (xK (xK (xK (xK (xK (xK (xK (xK (xK (xK (xK (xK (xK (xK (xK (xK (xK (xK (xK (xK (xK (xK (Fr.le_refl _))))))))))))))))))))))))))))))))))))))))))))))))) ?_)
                                  refine g_cond rfl (fun h9 => ?_) (fun h9 => ?_)
                                  · try with_reducible exact ft_elim h9
                                    all_goals
                                      try replace h9 := of_decide_eq_true h9
                                      simp at h9
                                  · try with_reducible exact tf_elim h9
                                    all_goals
                                      try replace h9 := of_decide_eq_false h9
                                      refine g_skip ?_
                                      refine g_region ?_
                                      refine xV rfl rfl rfl (v_move rfl) ?_
                                      refine xV rfl rfl rfl (v_assign rfl) ?_
                                      refine rl_nil (g_le (xK (xK (Fr.le_refl _))) ?_)
                                      refine g_inBlock ?_
                                      refine g_region ?_
                                      refine xV rfl rfl rfl (v_add rfl rfl (by omega)) ?_
                                      refine xV rfl rfl rfl (v_move rfl) ?_
                                      refine rl_nil (g_le (xK (xK (Fr.le_refl _))) ?_)
                                      exact g_le (by repeat (first | exact Fr.le_nil _ | refine Fr.le_cons rfl ?_)) (ih (i + 1, g5, s3, A5, root3, h3) w ⟨by simp only; omega, by simp only; omega, hg.trans (hg3.trans hg5), hI5, hrk3, ⟨u3, ht3, hes3⟩, by simp only; omega, hw.xQ⟩ (by simp only; omega))
                              · try with_reducible exact tf_elim g28_36
                                all_goals
                                  try replace g28_36 := of_decide_eq_false g28_36
                                  refine rl_off (met_off rfl rfl rfl rfl rfl) rfl rfl ?_
                                  refine rl_off (met_off rfl rfl rfl rfl rfl) rfl rfl ?_
                                  refine rl_off (met_off rfl rfl rfl rfl rfl) rfl rfl ?_
                                  first | (refine rl_vg (met_on rfl rfl rfl rfl) rfl rfl (S := fun _ => True) trivial (v_pick_true rfl rfl) ?_) | (refine rl_vg (met_on rfl rfl rfl rfl) rfl rfl (S := fun _ => True) trivial (v_pick_false rfl rfl) ?_) | (refine rl_vg (met_on rfl rfl rfl rfl) rfl rfl (S := fun _ => True) trivial (v_pick rfl rfl rfl) ?_)
                                  first | (refine xV rfl rfl rfl (v_pick_true rfl rfl) ?_) | (refine xV rfl rfl rfl (v_pick_false rfl rfl) ?_) | (refine xV rfl rfl rfl (v_pick rfl rfl rfl) ?_)
                                  refine rl_nil (g_le (xK (xK (xK (xK (xK (xK (xK (xK (xK (xK (xK (xK (xK (xK (xK (xK (xK (xK (xK (xK (xK (xK (xK (xK (xK (xK (xK (xK (xK (xK (xK (xK (xK (xK (xK (xK (xK (xK (xK (xK (xK (xK (xK (xK (xK (xK (xK (xK (Fr.le_refl _))))))))))))))))))))))))))))))))))))))))))))))))) ?_)
                                  refine g_cond_false rfl ?_
                                  refine g_skip ?_
                                  refine g_region ?_
                                  refine xV rfl rfl rfl (v_move rfl) ?_
                                  refine xV rfl rfl rfl (v_assign rfl) ?_
                                  refine rl_nil (g_le (xK (xK (Fr.le_refl _))) ?_)
                                  refine g_inBlock ?_
                                  refine g_region ?_
                                  first | (refine xV rfl rfl rfl (v_add rfl rfl (by omega)) ?_) | (refine xV rfl rfl rfl (v_addW rfl rfl) ?_)
                                  refine xV rfl rfl rfl (v_move rfl) ?_
                                  refine rl_nil (g_le (xK (xK (Fr.le_refl _))) ?_)
                                  exact g_le (by repeat (first | exact Fr.le_nil _ | refine Fr.le_cons rfl ?_)) (ih (i + 1, g5, s3, A5, root3, h3) w ⟨by simp only; omega, by simp only; omega, hg.trans (hg3.trans hg5), hI5, hrk3, ⟨u3, ht3, hes3⟩, by simp only; omega, hw.xQ⟩ (by simp only; omega))
      · intro joinc5
        refine g_cond rfl (fun h5 => ?_) (fun h5 => ?_)
        · try with_reducible exact ft_elim h5
          all_goals
            try replace h5 := of_decide_eq_true h5
            refine g_seq ?_
            refine g_region ?_
            refine xV rfl rfl rfl (v_move rfl) ?_
            refine xV rfl rfl rfl (v_mkIface T.ptr_26 rfl) ?_
            refine rl_v rfl rfl rfl (by exact sat_cells hw (by (repeat first | with_reducible exact xH | apply xT); first | done | fail) ⟨rfl, rfl, rfl, rfl, trivial⟩) (v_loadAgg (vs := [_, _, _, _]) T.agg_25_4 rfl rfl) ?_
            refine xV rfl rfl rfl (v_fieldAddr0 T.fld_46_1_1 rfl) ?_
            refine rl_v rfl rfl rfl (by exact sat_cell hw (by (repeat first | with_reducible exact xH | apply xT); first | done | fail) rfl) (v_load T.scal_9 rfl) ?_
            refine rl_k rfl (k_callf Try.func30 rfl rfl rfl rfl ?_)
            refine Calls.mono (tdel_calls o.name ht (by omega) (by omega) hrk hI (hw.xQ)) ?_
            rintro _ w ⟨g3, A3, b, s3, root3, h3, u3, hg3, hI3, rfl, hok3, hst, hlv, _, _, hno, hw⟩
            refine ⟨_, rfl, ?_⟩
            refine xV rfl rfl rfl (v_move rfl) ?_
            refine xV rfl rfl rfl (v_extract rfl rfl) ?_
            refine xV rfl rfl rfl (v_extract rfl rfl) ?_
            refine xV rfl rfl rfl (v_extract rfl rfl) ?_
            refine rl_k rfl (k_alloc hw T.zero_25 rfl rfl (fun bk16_10 w hw => ?_))
            refine rl_k rfl (k_storeWhole hw T.agg_25_4 rfl rfl (by simp [Value.oneCell']) rfl (by (repeat first | with_reducible exact xH | apply xT); first | done | fail) rfl (fun w hw => ?_))
            refine xV rfl rfl rfl (v_assign rfl) ?_
            refine xV rfl rfl rfl (v_assign rfl) ?_
            refine rl_nil (g_le (xK (xK (xK (xK (xK (xK (xK (xK (xK (xK (xK (xK (xK (Fr.le_refl _)))))))))))))) ?_)
            refine g_seq (g_seq ?_)
            refine g_region ?_
            refine xV rfl rfl rfl (v_move rfl) ?_
            refine xV rfl rfl rfl (v_neqF rfl rfl (by omega)) ?_
            refine rl_nil (g_le (xK (xK (Fr.le_refl _))) ?_)
            refine g_cond_false rfl ?_
            refine g_skip (g_seq ?_)
            refine g_region ?_
            refine rl_v rfl rfl rfl (by exact sat_cells hw (by (repeat first | with_reducible exact xH | apply xT); first | done | fail) ⟨rfl, rfl, rfl, rfl, trivial⟩) (v_loadAgg (vs := [_, _, _, _]) T.agg_25_4 rfl rfl) ?_
            refine rl_k rfl (k_storeWhole hw T.agg_25_4 rfl rfl (by simp [Value.oneCell']) rfl (by (repeat first | with_reducible exact xH | apply xT); first | done | fail) rfl (fun w hw => ?_))
            refine rl_nil (g_le (xK (Fr.le_refl _)) ?_)
            refine g_seq ?_
            refine g_region ?_
            refine xV rfl rfl rfl (v_move rfl) ?_
            refine xV rfl rfl rfl (v_mul rfl rfl (by omega)) ?_
            refine xV rfl rfl rfl (v_assign rfl) ?_
            refine rl_nil (g_le (xK (xK (xK (Fr.le_refl _)))) ?_)
            refine g_seq ?_
            refine g_region ?_
            refine xV rfl rfl rfl (v_move rfl) ?_
            refine xV rfl rfl rfl (v_not rfl) ?_
            refine rl_nil (g_le (xK (xK (Fr.le_refl _))) ?_)
            refine g_cond rfl (fun h7 => ?_) (fun h7 => ?_)
            · try with_reducible exact ft_elim h7
              all_goals
                try replace h7 := of_decide_eq_true h7
                refine g_region ?_
                refine xV rfl rfl rfl (v_assign rfl) ?_
                refine rl_nil (g_le (xK (Fr.le_refl _)) ?_)
                obtain rfl : b = false := by simpa using h7
                obtain ⟨e1, e2, e3⟩ := hno rfl
                have e1 : s3.length = s.length := by rw [e1]
                exact joinc5 (g3, A3, s3, root3, h3, 0) w _ (by repeat (first | exact Fr.le_nil _ | refine Fr.le_cons rfl ?_)) ⟨hg3, hI3, hok3, ⟨u3, hst.tree, by rw [hst.ents]; have := delE_len (entsU hh u) o.name; omega⟩, by simp only; omega, by simp only; omega, by simp only; omega, by simp only; omega, by simp only; omega, by simp only; omega, by simp only; omega, hw.xQ⟩
            · try with_reducible exact tf_elim h7
              all_goals
                try replace h7 := of_decide_eq_false h7
                refine g_skip ?_
                have hsl3 := hst.len
                have hse3 := hst.ext.length_le
                exact joinc5 (g3, A3, s3, root3, h3, 2 * ((hh : Nat) + 1 : Int)) w _ (by repeat (first | exact Fr.le_nil _ | refine Fr.le_cons rfl ?_)) ⟨hg3, hI3, hok3, ⟨u3, hst.tree, by rw [hst.ents]; have := delE_len (entsU hh u) o.name; omega⟩, by simp only; omega, by simp only; omega, by simp only; omega, by simp only; omega, by simp only; omega, by simp only; omega, by simp only; omega, hw.xQ⟩
        · try with_reducible exact tf_elim h5
          all_goals
            try replace h5 := of_decide_eq_false h5
            refine g_seq ?_
            have hw := (hw.xP (A := RO g)).xP (A := A)
            refine g_drawB ord_f6_r23_H07S (by kernel_rfl) T.mixed (fun w hw => ((hw.pick .at0).drop.pick .at0).drop) hw (fun w hw => ?_)
            refine rs_a 0 rfl rfl rfl rfl (v_move rfl) ?_
            refine rs_a 1 rfl rfl rfl rfl (v_mkIface T.ptr_26 rfl) ?_
            refine rs_v 2 rfl rfl rfl rfl (OpV.mono (v_loadAgg (vs := [_, _, _, _]) T.agg_25_4 rfl rfl) (fun w hw => by exact sat_cells hw (by (repeat first | with_reducible exact xH | apply xT); first | done | fail) ⟨rfl, rfl, rfl, rfl, trivial⟩)) (by exact Sat.sub hw (by (repeat (first | with_reducible exact Sub.refl _ | exact Sub.nil _ | (apply Sub.cons; focus ((repeat (first | with_reducible exact Pick.here _ | apply Pick.there)); (first | done | fail))) | with_reducible apply Sub.drop)); first | done | fail)) ?_
            refine rs_v 3 rfl rfl rfl rfl (OpV.mono (v_loadAgg (vs := [_, _, _, _, _]) T.agg_46_5 rfl rfl) (fun w hw => by exact sat_cells hw (by (repeat first | with_reducible exact xH | apply xT); first | done | fail) ⟨rfl, rfl, rfl, rfl, rfl, trivial⟩)) (by exact Sat.sub hw (by (repeat (first | with_reducible exact Sub.refl _ | exact Sub.nil _ | (apply Sub.cons; focus ((repeat (first | with_reducible exact Pick.here _ | apply Pick.there)); (first | done | fail))) | with_reducible apply Sub.drop)); first | done | fail)) ?_
            refine rs_b2 4 9 rfl rfl rfl rfl ?_ ?_ 
            · skip
              refine (k_callf Try.func19 rfl rfl rfl rfl ?_)
              refine Calls.mono (secret_calls (hw.xQ) rfl) ?_
              rintro _ w ⟨vb, rfl, hw⟩
              refine ⟨_, rfl, ?_⟩
              refine ⟨fun _ => (by exact Sat.sub hw (by (repeat (first | with_reducible exact Sub.refl _ | exact Sub.nil _ | (apply Sub.cons; focus ((repeat (first | with_reducible exact Pick.here _ | apply Pick.there)); (first | done | fail))) | with_reducible apply Sub.drop)); first | done | fail)), ?_⟩
              refine rs_b2 5 9 rfl rfl rfl rfl ?_ ?_ 
              · skip
                refine (k_callf Try.func20 rfl rfl rfl rfl ?_)
                obtain ⟨g3, hg3, hvn, hw⟩ := ((hw.xP (A := pt vb (.cells (⟨1, o.value, ByteArray.empty⟩ : Vn).cells.toArray 53 (0, 0)))).xP (A := RO g)).freeze_lit (R := rdVn) (sz := 3) (bytes := 40) mono_Vn (xs := [⟨1, o.value, ByteArray.empty⟩]) (Els.one rfl ⟨rfl, sec_ok hvs⟩) rfl (by simp [maxLen]) (by simp [reachBytes])
                have hen : rdEn g3 [.string o.name, .slice (some ⟨vb, 0, none⟩) 1 1] (secO o) := ⟨_, _, rfl, ⟨rfl, hns⟩, hvn⟩
                refine Calls.mono (tput_calls hen ht (by omega) (by omega) hrk (HeapI.mono hg3 hI) (hw.xQ)) ?_
                rintro _ w ⟨g4, A4, s4, root4, h4, u4, hg4, hI4, rfl, hok4, hst, hlv, _, hw⟩
                refine ⟨_, rfl, ?_⟩
                refine ⟨fun hn => absurd (by decide) hn, ?_⟩
                refine rs_a 6 rfl rfl rfl rfl (v_move rfl) ?_
                refine rs_a 7 rfl rfl rfl rfl (v_extract rfl rfl) ?_
                refine rs_a 8 rfl rfl rfl rfl (v_extract rfl rfl) ?_
                refine rs_k 9 rfl rfl (k_alloc hw T.zero_25 rfl rfl (fun bk23_9 w hw => ?_))
                refine ⟨fun _ => (by exact Sat.sub hw (by (repeat (first | with_reducible exact Sub.refl _ | exact Sub.nil _ | (apply Sub.cons; focus ((repeat (first | with_reducible exact Pick.here _ | apply Pick.there)); (first | done | fail))) | with_reducible apply Sub.drop)); first | done | fail)), ?_⟩
                refine rs_k 10 rfl rfl (k_storeWhole hw T.agg_25_4 rfl rfl (by simp [Value.oneCell']) rfl (by (repeat first | with_reducible exact xH | apply xT); first | done | fail) rfl (fun w hw => ?_))
                refine ⟨fun hn => absurd (by decide) hn, ?_⟩
                refine rs_kv 11 rfl rfl rfl rfl (S' := fun _ => True) trivial (v_assign rfl) ?_
                refine rs_done (g_le (xK (xK (xK (xK (xK (xK (xK (xK (xK (xK (xK (Fr.le_refl _)))))))))))) ?_)
                refine g_seq (g_seq ?_)
                refine g_region ?_
                refine xV rfl rfl rfl (v_move rfl) ?_
                refine xV rfl rfl rfl (v_neqF rfl rfl (by omega)) ?_
                refine rl_nil (g_le (xK (xK (Fr.le_refl _))) ?_)
                refine g_cond_false rfl ?_
                refine g_skip ?_
                refine g_region ?_
                refine rl_v rfl rfl rfl (by exact sat_cells hw (by (repeat first | with_reducible exact xH | apply xT); first | done | fail) ⟨rfl, rfl, rfl, rfl, trivial⟩) (v_loadAgg (vs := [_, _, _, _]) T.agg_25_4 rfl rfl) ?_
                refine rl_k rfl (k_storeWhole hw T.agg_25_4 rfl rfl (by simp [Value.oneCell']) rfl (by (repeat first | with_reducible exact xH | apply xT); first | done | fail) rfl (fun w hw => ?_))
                refine rl_nil (g_le (xK (Fr.le_refl _)) ?_)
                have hsl3 := hst.len
                have hse3 := hst.ext.length_le
                exact joinc5 (g4, A4, s4, root4, h4, 2 * ((hh : Nat) + 1 : Int) + 1) w _ (by repeat (first | exact Fr.le_nil _ | refine Fr.le_cons rfl ?_)) ⟨hg3.trans hg4, hI4, hok4, ⟨u4, hst.tree, by rw [hst.ents]; have := (insE_len ht.srt (secO o)).2; omega⟩, by simp only; omega, by simp only; omega, by simp only; omega, by simp only; omega, by simp only; omega, by simp only; omega, by simp only; omega, hw.xQ⟩
              · skip
                refine (k_alloc hw T.zero_25 rfl rfl (fun bk23_9 w hw => ?_))
                refine ⟨fun _ => (by exact Sat.sub hw (by (repeat (first | with_reducible exact Sub.refl _ | exact Sub.nil _ | (apply Sub.cons; focus ((repeat (first | with_reducible exact Pick.here _ | apply Pick.there)); (first | done | fail))) | with_reducible apply Sub.drop)); first | done | fail)), ?_⟩
                refine rs_k 5 rfl rfl (k_callf Try.func20 rfl rfl rfl rfl ?_)
                obtain ⟨g3, hg3, hvn, hw⟩ := ((hw.xP (A := pt vb (.cells (⟨1, o.value, ByteArray.empty⟩ : Vn).cells.toArray 53 (0, 0)))).xP (A := RO g)).freeze_lit (R := rdVn) (sz := 3) (bytes := 40) mono_Vn (xs := [⟨1, o.value, ByteArray.empty⟩]) (Els.one rfl ⟨rfl, sec_ok hvs⟩) rfl (by simp [maxLen]) (by simp [reachBytes])
                have hen : rdEn g3 [.string o.name, .slice (some ⟨vb, 0, none⟩) 1 1] (secO o) := ⟨_, _, rfl, ⟨rfl, hns⟩, hvn⟩
                refine Calls.mono (tput_calls hen ht (by omega) (by omega) hrk (HeapI.mono hg3 hI) (hw.xQ)) ?_
                rintro _ w ⟨g4, A4, s4, root4, h4, u4, hg4, hI4, rfl, hok4, hst, hlv, _, hw⟩
                refine ⟨_, rfl, ?_⟩
                refine ⟨fun hn => absurd (by decide) hn, ?_⟩
                refine rs_kv 6 rfl rfl rfl rfl (S' := fun _ => True) trivial (v_move rfl) ?_
                refine rs_a 7 rfl rfl rfl rfl (v_extract rfl rfl) ?_
                refine rs_a 8 rfl rfl rfl rfl (v_extract rfl rfl) ?_
                refine rs_k 10 rfl rfl (k_storeWhole hw T.agg_25_4 rfl rfl (by simp [Value.oneCell']) rfl (by (repeat first | with_reducible exact xH | apply xT); first | done | fail) rfl (fun w hw => ?_))
                refine ⟨fun hn => absurd (by decide) hn, ?_⟩
                refine rs_kv 11 rfl rfl rfl rfl (S' := fun _ => True) trivial (v_assign rfl) ?_
                refine rs_done (g_le (xK (xK (xK (xK (xK (xK (xK (xK (xK (xK (xK (Fr.le_refl _)))))))))))) ?_)
                refine g_seq (g_seq ?_)
                refine g_region ?_
                refine xV rfl rfl rfl (v_move rfl) ?_
                refine xV rfl rfl rfl (v_neqF rfl rfl (by omega)) ?_
                refine rl_nil (g_le (xK (xK (Fr.le_refl _))) ?_)
                refine g_cond_false rfl ?_
                refine g_skip ?_
                refine g_region ?_
                refine rl_v rfl rfl rfl (by exact sat_cells hw (by (repeat first | with_reducible exact xH | apply xT); first | done | fail) ⟨rfl, rfl, rfl, rfl, trivial⟩) (v_loadAgg (vs := [_, _, _, _]) T.agg_25_4 rfl rfl) ?_
                refine rl_k rfl (k_storeWhole hw T.agg_25_4 rfl rfl (by simp [Value.oneCell']) rfl (by (repeat first | with_reducible exact xH | apply xT); first | done | fail) rfl (fun w hw => ?_))
                refine rl_nil (g_le (xK (Fr.le_refl _)) ?_)
                have hsl3 := hst.len
                have hse3 := hst.ext.length_le
                exact joinc5 (g4, A4, s4, root4, h4, 2 * ((hh : Nat) + 1 : Int) + 1) w _ (by repeat (first | exact Fr.le_nil _ | refine Fr.le_cons rfl ?_)) ⟨hg3.trans hg4, hI4, hok4, ⟨u4, hst.tree, by rw [hst.ents]; have := (insE_len ht.srt (secO o)).2; omega⟩, by simp only; omega, by simp only; omega, by simp only; omega, by simp only; omega, by simp only; omega, by simp only; omega, by simp only; omega, hw.xQ⟩
            · skip
              refine (k_alloc hw T.zero_25 rfl rfl (fun bk23_9 w hw => ?_))
              refine ⟨fun _ => (by exact Sat.sub hw (by (repeat (first | with_reducible exact Sub.refl _ | exact Sub.nil _ | (apply Sub.cons; focus ((repeat (first | with_reducible exact Pick.here _ | apply Pick.there)); (first | done | fail))) | with_reducible apply Sub.drop)); first | done | fail)), ?_⟩
              refine rs_k 4 rfl rfl (k_callf Try.func19 rfl rfl rfl rfl ?_)
              refine Calls.mono (secret_calls (hw.xQ) rfl) ?_
              rintro _ w ⟨vb, rfl, hw⟩
              refine ⟨_, rfl, ?_⟩
              refine ⟨fun _ => (by exact Sat.sub hw (by (repeat (first | with_reducible exact Sub.refl _ | exact Sub.nil _ | (apply Sub.cons; focus ((repeat (first | with_reducible exact Pick.here _ | apply Pick.there)); (first | done | fail))) | with_reducible apply Sub.drop)); first | done | fail)), ?_⟩
              refine rs_k 5 rfl rfl (k_callf Try.func20 rfl rfl rfl rfl ?_)
              obtain ⟨g3, hg3, hvn, hw⟩ := ((hw.xP (A := pt vb (.cells (⟨1, o.value, ByteArray.empty⟩ : Vn).cells.toArray 53 (0, 0)))).xP (A := RO g)).freeze_lit (R := rdVn) (sz := 3) (bytes := 40) mono_Vn (xs := [⟨1, o.value, ByteArray.empty⟩]) (Els.one rfl ⟨rfl, sec_ok hvs⟩) rfl (by simp [maxLen]) (by simp [reachBytes])
              have hen : rdEn g3 [.string o.name, .slice (some ⟨vb, 0, none⟩) 1 1] (secO o) := ⟨_, _, rfl, ⟨rfl, hns⟩, hvn⟩
              refine Calls.mono (tput_calls hen ht (by omega) (by omega) hrk (HeapI.mono hg3 hI) (hw.xQ)) ?_
              rintro _ w ⟨g4, A4, s4, root4, h4, u4, hg4, hI4, rfl, hok4, hst, hlv, _, hw⟩
              refine ⟨_, rfl, ?_⟩
              refine ⟨fun hn => absurd (by decide) hn, ?_⟩
              refine rs_kv 6 rfl rfl rfl rfl (S' := fun _ => True) trivial (v_move rfl) ?_
              refine rs_a 7 rfl rfl rfl rfl (v_extract rfl rfl) ?_
              refine rs_a 8 rfl rfl rfl rfl (v_extract rfl rfl) ?_
              refine rs_k 10 rfl rfl (k_storeWhole hw T.agg_25_4 rfl rfl (by simp [Value.oneCell']) rfl (by (repeat first | with_reducible exact xH | apply xT); first | done | fail) rfl (fun w hw => ?_))
              refine ⟨fun hn => absurd (by decide) hn, ?_⟩
              refine rs_kv 11 rfl rfl rfl rfl (S' := fun _ => True) trivial (v_assign rfl) ?_
              refine rs_done (g_le (xK (xK (xK (xK (xK (xK (xK (xK (xK (xK (xK (Fr.le_refl _)))))))))))) ?_)
              refine g_seq (g_seq ?_)
              refine g_region ?_
              refine xV rfl rfl rfl (v_move rfl) ?_
              refine xV rfl rfl rfl (v_neqF rfl rfl (by omega)) ?_
              refine rl_nil (g_le (xK (xK (Fr.le_refl _))) ?_)
              refine g_cond_false rfl ?_
              refine g_skip ?_
              refine g_region ?_
              refine rl_v rfl rfl rfl (by exact sat_cells hw (by (repeat first | with_reducible exact xH | apply xT); first | done | fail) ⟨rfl, rfl, rfl, rfl, trivial⟩) (v_loadAgg (vs := [_, _, _, _]) T.agg_25_4 rfl rfl) ?_
              refine rl_k rfl (k_storeWhole hw T.agg_25_4 rfl rfl (by simp [Value.oneCell']) rfl (by (repeat first | with_reducible exact xH | apply xT); first | done | fail) rfl (fun w hw => ?_))
              refine rl_nil (g_le (xK (Fr.le_refl _)) ?_)
              have hsl3 := hst.len
              have hse3 := hst.ext.length_le
              exact joinc5 (g4, A4, s4, root4, h4, 2 * ((hh : Nat) + 1 : Int) + 1) w _ (by repeat (first | exact Fr.le_nil _ | refine Fr.le_cons rfl ?_)) ⟨hg3.trans hg4, hI4, hok4, ⟨u4, hst.tree, by rw [hst.ents]; have := (insE_len ht.srt (secO o)).2; omega⟩, by simp only; omega, by simp only; omega, by simp only; omega, by simp only; omega, by simp only; omega, by simp only; omega, by simp only; omega, hw.xQ⟩
  · try with_reducible exact tf_elim h4
    all_goals
      try replace h4 := of_decide_eq_false h4
      refine g_exit rfl (g_seq ?_)
      refine g_region ?_
      refine xV rfl rfl rfl (v_assign rfl) ?_
      refine rl_nil (g_le (xK (Fr.le_refl _)) ?_)
      refine g_ret1 Try.func6 rfl rfl ?_
      exact ⟨rfl, (hw.xQ : Sat (envOf W) w [RO g]).shrink hg⟩

set_option maxRecDepth 100000 in
theorem TreeShapes_lifted (os : Os) (started : os.Started) (H : Type) (enc : TypeId × Value → H) :
    ReturnsInHanded {} Try.checked os 6 .any (Rows.treeShapesSpec.pre6 enc Try.prog Try.f6 Rows.treeShapesRow.domain false) (Rows.treeShapesSpec.post enc Try.prog Try.f6 false true false false) := by
  refine returnsInHanded_of_change_sized (C := Try.checked) T.own started (by kernel_rfl) Try.func6
    (ChangeSpec.witness6 (enc := enc) (C := Try.checked) false ⟨#[], #[(.slice none 0 0)], []⟩ 8 (by kernel_rfl) (by kernel_rfl) (by kernel_rfl) (by kernel_rfl)) ?_
  intro W base args ds gs before hval0 hW hcnd hsz0 _
  have hval : ∀ (j : Nat) t v, Try.f6.params[j]? = some t → args[j]? = some v → Value.okWide Try.prog W .any base t v := hval0
  have hW' := hW
  obtain ⟨p, q, hA0, hV, rfl, hfz, hnd⟩ := hW
  have hA : DataW.TrodAll enc Try.prog W 0 (fun _ => true) true Try.f6.params.toList args.toList ds p := hA0
  obtain ⟨rfl, rfl⟩ := trodVars_none hV
  have hsz : (DataW.weightsEach Try.prog (Try.f6.params.toList ++ []) (ds ++ [])).all (· ≤ reachBytes) = true := hsz0
  rw [List.append_nil, List.append_nil] at hsz
  rw [Try.params6] at hA hval hsz
  obtain ⟨v0, vs0, d0, ds0, p0, q0, hargs, rfl, rfl, h0, r0⟩ := trodAll_cons hA
  obtain ⟨rfl, rfl, rfl⟩ := trodAll_nil r0
  obtain rfl : args = #[v0] := by cases args; simp_all
  have lt0 : ∀ x ∈ p0, x.block < W.heap.size := by obtain ⟨m, hm⟩ := h0; exact DataW.trod_lt m _ _ _ hm
  obtain ⟨x0, w0⟩ := arg_of (j := 0) (reads_sl T.sl_41_46_5 T.bytes_46_72 (by decide) reads_Op7) h0 hsz rfl rfl
  obtain ⟨a0, l0, c0, rfl⟩ := okWide_slice Try.underlying41 (hval 0 41 v0 rfl rfl)
  refine (TreeShapes_law w0).mono fun e W' ⟨he, hb⟩ => ?_
  have bel := hb.below
  subst he
  exact ⟨_, rfl, _, _, _, [], _, [], hW', trodAll_mk1 (shut_bool Try.underlying4 _), (trodAll_cons_mk (Below.trod T.laidOut (by kernel_rfl) (of_decide_eq_true (by kernel_rfl)) h0 bel lt0) trodAll_mk0), rfl, bel.frame _, fun h => by cases h⟩
theorem TreeShapes_holds : Rows.TreeShapesSaid :=
  OpenClaim.holds_of_wide 6 Try.f6 rfl rfl rfl rfl rfl rfl rfl ⟨rfl, rfl, rfl, rfl, rfl⟩ rfl rfl rfl rfl rfl (by kernel_rfl) Try.func6 (by kernel_rfl)
    (of_decide_eq_true (by kernel_rfl)) (by unfold Func.isWrapper; rw [if_neg (of_decide_eq_false (by kernel_rfl))]; exact ⟨rfl, rfl⟩)
    (fun os started H enc _ => TreeShapes_lifted os started H enc)
#print axioms TreeShapes_holds
end Go.Proofs.Ytmbngahboaljpaa
