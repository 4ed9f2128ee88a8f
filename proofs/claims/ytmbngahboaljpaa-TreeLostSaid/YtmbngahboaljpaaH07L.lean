/-
  TreeLost: at a root that is no page, at an inner node without kids, at nodes too deep, every call answers so, and nothing is laid down.
-/
import Derived.Test.YtmbngahboaljpaaH08
import Derived.Test.YtmbngahboaljpaaT07L
import Derived.Test.YtmbngahboaljpaaRows
namespace Go.Proofs.Ytmbngahboaljpaa
set_option maxRecDepth 8000
set_option linter.unusedSimpArgs false
set_option linter.unusedVariables false
open Go Xe Go.Lib Go.RowKit Go.ChangeShapes Go.WideShapes Go.ChangeAt
theorem els_int3 {g : Hp} : Els (rdInt .i64) 1 g [.int .i64 0, .int .i64 1, .int .i64 2] [(0 : Int), 1, 2] := by
  have h : Els (rdInt .i64) 1 g (([0, 1, 2] : List Int).flatMap fun i => [.int .i64 i]) [0, 1, 2] := by
    refine els_of (f := fun i => [.int .i64 i]) (R := rdInt .i64) (fun x => rfl) (fun x hx => ⟨rfl, ?_⟩)
    have : x = 0 ∨ x = 1 ∨ x = 2 := by simpa using hx
    rcases this with rfl | rfl | rfl <;> decide
  exact h
theorem wr_first : wrH [] nd0 = (refO 0, 0, [nd0]) := (wrH_at (by simp)).trans rfl
theorem a_ok : aN.size ≤ reachBytes := by decide
set_option maxHeartbeats 4000000 in
theorem TreeLost_law {w : World} {rcs : Array Value} {r : Rf} {name : ByteArray} {deep : Int} (hrr : rdArg rdRf w (.agg rcs) r) (hns : name.size ≤ reachBytes) (hdw : (Lit.int .i64 deep).wf = true) :
    Law Try.prog 10 [.agg rcs, .string name, .int .i64 deep] w := by
  unfold Law
  have hw := Sat.old w
  generalize w = W at hrr hw ⊢
  obtain ⟨hrc, hrok⟩ : rcs.toList = r.cells ∧ r.ok := hrr
  obtain rfl : rcs = r.cells.toArray := by rw [← hrc]
  refine calls_of_g (n := 166) Try.func10 rfl rfl rfl ?_
  change G _ _ _ _ _ [(0, _), (1, _), (2, _)] _
  refine g_seq ?_
  refine g_region ?_
  refine rl_k rfl (k_box hw rfl rfl rfl (fun bk0_0 w hw => ?_))
  refine xV rfl rfl rfl (v_assign rfl) ?_
  refine rl_nil (g_le (xK (xK (Fr.le_refl _))) ?_)
  refine g_seq ?_
  refine g_region ?_
  refine rl_k rfl (k_callf Try.func12 rfl rfl rfl rfl ?_)
  refine Calls.mono (tnew_calls (g := hpOf W) (hw.xQ)) ?_
  rintro _ w ⟨h, A, rfl, hI, hw⟩
  refine ⟨_, rfl, ?_⟩
  refine xV rfl rfl rfl (v_assign rfl) ?_
  refine rl_nil (g_le (xK (xS rfl (Fr.le_refl _))) ?_)
  refine g_seq (g_seq ?_)
  refine g_region ?_
  refine xV rfl rfl rfl (v_move rfl) ?_
  refine xV rfl rfl rfl (v_eqlNil T.ptr_26 rfl rfl) ?_
  refine rl_nil (g_le (xK (xS rfl (Fr.le_refl _))) ?_)
  refine g_cond_false rfl ?_
  refine g_skip (g_seq ?_)
  refine g_region ?_
  refine xV rfl rfl rfl (v_move rfl) ?_
  refine xV rfl rfl rfl (v_build rfl (T.build_53_0 ..)) ?_
  refine rl_k rfl (k_buildSlice (cells := [_, _, _]) hw T.sl_47_53_3 T.zero_53 rfl rfl rfl rfl rfl rfl (fun bk4_2 w hw => ?_))
  refine xV rfl rfl rfl (v_build rfl (T.build_49_0_1 ..)) ?_
  refine rl_k rfl (k_alloc hw T.zero_49 rfl rfl (fun bk4_4 w hw => ?_))
  refine rl_k rfl (k_storeWhole hw T.agg_49_2 rfl rfl (by simp [Value.oneCell']) rfl (by (repeat first | with_reducible exact xH | apply xT); first | done | fail) rfl (fun w hw => ?_))
  refine rl_nil (g_le (xK (xS rfl (xS rfl (xS rfl (xS rfl (Fr.le_refl _)))))) ?_)
  obtain ⟨g0, hg0, hvn, hw⟩ := (hw.xQ : Sat (envOf W) w (RO (hpOf W) :: pt bk4_2 (.cells [.int .i64 1, .string ByteArray.empty, .string ByteArray.empty].toArray 53 (0, 0)) :: pt bk4_4 (.cells [.string name, .slice (some ⟨bk4_2, 0, none⟩) 1 1].toArray 49 (0, 0)) :: A :: pt bk0_0 (.cells r.cells.toArray 25 (0, 0)) :: [])).freeze_lit (R := rdVn) (sz := 3) (bytes := 40) mono_Vn (xs := [⟨1, ByteArray.empty, ByteArray.empty⟩]) (Els.one rfl ⟨rfl, by decide, by decide, by decide⟩) rfl (by simp [maxLen]) (by simp [reachBytes])
  have hen : rdEn g0 [.string name, .slice (some ⟨bk4_2, 0, none⟩) 1 1] ⟨name, [⟨1, ByteArray.empty, ByteArray.empty⟩]⟩ := ⟨_, _, rfl, ⟨rfl, hns⟩, hvn⟩
  have hI0 := HeapI.mono hg0 hI
  refine g_seq ?_
  refine g_region ?_
  refine xV rfl rfl rfl (v_assign rfl) ?_
  refine rl_nil (g_le (xK (Fr.le_refl _)) ?_)
  refine g_seq (g_seq ?_)
  refine g_region ?_
  refine xV rfl rfl rfl (v_move rfl) ?_
  refine xV rfl rfl rfl (v_gtr rfl rfl) ?_
  refine xV rfl rfl rfl (v_move rfl) ?_
  refine rl_split (s := 36) rfl (fun g6_2 => ?_) (fun g6_2 => ?_)
  · try with_reducible exact ft_elim g6_2
    all_goals
      try replace g6_2 := of_decide_eq_true g6_2
      refine rl_vg (met_on rfl rfl rfl rfl) rfl rfl (S := fun _ => True) trivial (v_move rfl) ?_
      refine rl_vg (met_on rfl rfl rfl rfl) rfl rfl (S := fun _ => True) trivial (v_lss rfl rfl) ?_
      refine xV rfl rfl rfl (v_pick_true rfl rfl) ?_
      refine rl_nil (g_le (xK (xS rfl (xS rfl (xS rfl (xS rfl (xS rfl (xS rfl (Fr.le_refl _)))))))) ?_)
      refine g_cutc (σ := Int × Hp × List Nd × As × Rf) (fun C x => (9, .int .i64 x.1) :: C) [(1, _), (3, _), (6, _), (7, _), (8, _)] (by repeat (first | exact Fr.le_nil _ | refine Fr.le_cons rfl ?_)) (fun z w => LostR z.2.2.1 z.2.2.2.2 z.1 ∧ g0.le z.2.1 ∧ HeapI h z.2.1 z.2.2.1 z.2.2.2.1 ∧ z.2.2.2.2.ok ∧ Sat (envOf W) w (z.2.2.2.1 :: pt bk4_4 (.cells [.string name, .slice (some ⟨bk4_2, 0, none⟩) 1 1].toArray 49 (0, 0)) :: pt bk0_0 (.cells z.2.2.2.2.cells.toArray 25 (0, 0)) :: RO z.2.1 :: [])) ?_ ?_
      · skip
        rintro ⟨bad, g, s, A, r⟩ w ⟨hl, hg, hI, hrok, hw⟩
        dsimp only at hl hg hI hrok hw ⊢
        all_goals
          refine g_seq ?_
          refine g_region ?_
          refine xV rfl rfl rfl (v_move rfl) ?_
          refine rl_k rfl (k_callf Try.func14 rfl rfl rfl rfl ?_)
          refine Calls.mono (tlen_calls hI (hw.xQ)) ?_
          rintro _ w ⟨rfl, hw⟩
          refine ⟨_, rfl, ?_⟩
          refine xV rfl rfl rfl (v_assign rfl) ?_
          refine rl_nil (g_le (xK (xS rfl (xS rfl (Fr.le_refl _)))) ?_)
          refine g_seq ?_
          refine g_region ?_
          refine xV rfl rfl rfl (v_move rfl) ?_
          refine xV rfl rfl rfl (v_mkIface T.ptr_26 rfl) ?_
          refine rl_v rfl rfl rfl (by exact sat_cells hw (by (repeat first | with_reducible exact xH | apply xT); first | done | fail) ⟨rfl, rfl, rfl, rfl, trivial⟩) (v_loadAgg (vs := [_, _, _, _]) T.agg_25_4 rfl rfl) ?_
          refine xV rfl rfl rfl (v_move rfl) ?_
          refine rl_k rfl (k_callf Try.func22 rfl rfl rfl rfl ?_)
          refine Calls.mono (Get_calls (heapPg h) (s := s) r hrok name hI (hw.xQ)) ?_
          rw [show (heapPg h).ops = heapO from rfl, hl.get]
          dsimp only
          rintro _ w ⟨g1, A1, vv, hg1, hI1, rfl, _, hw⟩
          obtain ⟨vb, vd, rfl, _, _, _⟩ := hw.own_shape
          refine ⟨_, rfl, ?_⟩
          refine xV rfl rfl rfl (v_move rfl) ?_
          refine xV rfl rfl rfl (v_extract rfl rfl) ?_
          refine xV rfl rfl rfl (v_extract rfl rfl) ?_
          refine xV rfl rfl rfl (v_extract rfl rfl) ?_
          refine rl_k rfl (k_alloc hw T.zero_49 rfl rfl (fun bk17_9 w hw => ?_))
          refine rl_k rfl (k_storeWhole hw T.agg_49_2 rfl rfl (by simp [Value.oneCell']) rfl (by (repeat first | with_reducible exact xH | apply xT); first | done | fail) rfl (fun w hw => ?_))
          refine xV rfl rfl rfl (v_assign rfl) ?_
          refine xV rfl rfl rfl (v_assign rfl) ?_
          refine rl_nil (g_le (xK (xK (xS rfl (xS rfl (xS rfl (xS rfl (xS rfl (xS rfl (xS rfl (xS rfl (xS rfl (xS rfl (Fr.le_refl _))))))))))))) ?_)
          refine g_seq ?_
          refine g_region ?_
          refine xV rfl rfl rfl (v_move rfl) ?_
          refine xV rfl rfl rfl (v_mkIface T.ptr_26 rfl) ?_
          refine rl_v rfl rfl rfl (by exact sat_cells hw (by (repeat first | with_reducible exact xH | apply xT); first | done | fail) ⟨rfl, rfl, rfl, rfl, trivial⟩) (v_loadAgg (vs := [_, _, _, _]) T.agg_25_4 rfl rfl) ?_
          refine rl_v rfl rfl rfl (by exact sat_cells hw (by (repeat first | with_reducible exact xH | apply xT); first | done | fail) ⟨rfl, rfl, trivial⟩) (v_loadAgg (vs := [_, _]) T.agg_49_2 rfl rfl) ?_
          refine rl_k rfl (k_callf Try.func20 rfl rfl rfl rfl ?_)
          refine Calls.mono (Put_calls (heapPg h) (s := s) r hrok (mono_En (hg.trans hg1) hen) hI1 (hw.xQ)) ?_
          rw [show (heapPg h).ops = heapO from rfl, hl.put]
          dsimp only
          rintro _ w ⟨g2, A2, hg2, hI2, rfl, _, hw⟩
          refine ⟨_, rfl, ?_⟩
          refine xV rfl rfl rfl (v_move rfl) ?_
          refine xV rfl rfl rfl (v_extract rfl rfl) ?_
          refine xV rfl rfl rfl (v_extract rfl rfl) ?_
          refine rl_k rfl (k_alloc hw T.zero_25 rfl rfl (fun bk18_8 w hw => ?_))
          refine rl_k rfl (k_storeWhole hw T.agg_25_4 rfl rfl (by simp [Value.oneCell']) rfl (by (repeat first | with_reducible exact xH | apply xT); first | done | fail) rfl (fun w hw => ?_))
          refine xV rfl rfl rfl (v_assign rfl) ?_
          refine rl_nil (g_le (xK (xK (xS rfl (xS rfl (xS rfl (xS rfl (xS rfl (xS rfl (xS rfl (xS rfl (Fr.le_refl _))))))))))) ?_)
          refine g_seq ?_
          refine g_region ?_
          refine xV rfl rfl rfl (v_move rfl) ?_
          refine xV rfl rfl rfl (v_mkIface T.ptr_26 rfl) ?_
          refine rl_v rfl rfl rfl (by exact sat_cells hw (by (repeat first | with_reducible exact xH | apply xT); first | done | fail) ⟨rfl, rfl, rfl, rfl, trivial⟩) (v_loadAgg (vs := [_, _, _, _]) T.agg_25_4 rfl rfl) ?_
          refine xV rfl rfl rfl (v_move rfl) ?_
          refine rl_k rfl (k_callf Try.func30 rfl rfl rfl rfl ?_)
          refine Calls.mono (Delete_calls (heapPg h) (s := s) r hrok name hI2 (hw.xQ)) ?_
          rw [show (heapPg h).ops = heapO from rfl, hl.del]
          dsimp only
          rintro _ w ⟨g3, A3, hg3, hI3, rfl, _, hw⟩
          refine ⟨_, rfl, ?_⟩
          refine xV rfl rfl rfl (v_move rfl) ?_
          refine xV rfl rfl rfl (v_extract rfl rfl) ?_
          refine xV rfl rfl rfl (v_extract rfl rfl) ?_
          refine xV rfl rfl rfl (v_extract rfl rfl) ?_
          refine rl_k rfl (k_alloc hw T.zero_25 rfl rfl (fun bk19_9 w hw => ?_))
          refine rl_k rfl (k_storeWhole hw T.agg_25_4 rfl rfl (by simp [Value.oneCell']) rfl (by (repeat first | with_reducible exact xH | apply xT); first | done | fail) rfl (fun w hw => ?_))
          refine xV rfl rfl rfl (v_assign rfl) ?_
          refine xV rfl rfl rfl (v_assign rfl) ?_
          refine rl_nil (g_le (xK (xK (xK (xS rfl (xS rfl (xS rfl (xS rfl (xS rfl (xS rfl (xS rfl (xS rfl (xS rfl (Fr.le_refl _))))))))))))) ?_)
          refine g_seq ?_
          refine g_region ?_
          refine xV rfl rfl rfl (v_move rfl) ?_
          refine xV rfl rfl rfl (v_mkIface T.ptr_26 rfl) ?_
          refine rl_v rfl rfl rfl (by exact sat_cells hw (by (repeat first | with_reducible exact xH | apply xT); first | done | fail) ⟨rfl, rfl, rfl, rfl, trivial⟩) (v_loadAgg (vs := [_, _, _, _]) T.agg_25_4 rfl rfl) ?_
          refine rl_k rfl (k_buildSlice (cells := [_, _, _]) hw T.sl_44_3_1 T.zero_3 rfl rfl rfl rfl rfl rfl (fun bk20_3 w hw => ?_))
          refine rl_k rfl (k_callf Try.func26 rfl rfl rfl rfl ?_)
          obtain ⟨g4, hg4, hseg, hw⟩ := (hw.xQ : Sat (envOf W) w (RO g3 :: pt bk20_3 (.cells [.int .i64 0, .int .i64 1, .int .i64 2].toArray 3 (0, 0)) :: A3 :: pt bk0_0 (.cells r.cells.toArray 25 (0, 0)) :: pt bk18_8 (.cells rf0.cells.toArray 25 (0, 0)) :: pt bk19_9 (.cells rf0.cells.toArray 25 (0, 0)) :: [])).freeze_lit (R := rdInt .i64) (sz := 1) (bytes := 8) mono_int els_int3 rfl (by simp [maxLen]) (by simp [reachBytes])
          refine Calls.mono (Move_calls (heapPg h) (s := s) r hrok hseg ((heapPg h).mono hg4 hI3) (hw.xQ)) ?_
          rw [show (heapPg h).ops = heapO from rfl, hl.mov]
          dsimp only
          rintro _ w ⟨g5, A5, hg5, hI5, rfl, _, hw⟩
          refine ⟨_, rfl, ?_⟩
          refine xV rfl rfl rfl (v_move rfl) ?_
          refine xV rfl rfl rfl (v_extract rfl rfl) ?_
          refine xV rfl rfl rfl (v_extract rfl rfl) ?_
          refine xV rfl rfl rfl (v_extract rfl rfl) ?_
          refine rl_k rfl (k_alloc hw T.zero_25 rfl rfl (fun bk20_9 w hw => ?_))
          refine rl_k rfl (k_storeWhole hw T.agg_25_4 rfl rfl (by simp [Value.oneCell']) rfl (by (repeat first | with_reducible exact xH | apply xT); first | done | fail) rfl (fun w hw => ?_))
          refine xV rfl rfl rfl (v_assign rfl) ?_
          refine xV rfl rfl rfl (v_assign rfl) ?_
          refine rl_nil (g_le (xK (xK (xK (xS rfl (xS rfl (xS rfl (xS rfl (xS rfl (xS rfl (xS rfl (xS rfl (xS rfl (Fr.le_refl _))))))))))))) ?_)
          refine g_seq ?_
          refine g_region ?_
          refine xV rfl rfl rfl (v_move rfl) ?_
          refine xV rfl rfl rfl (v_mkIface T.ptr_26 rfl) ?_
          refine rl_v rfl rfl rfl (by exact sat_cells hw (by (repeat first | with_reducible exact xH | apply xT); first | done | fail) ⟨rfl, rfl, rfl, rfl, trivial⟩) (v_loadAgg (vs := [_, _, _, _]) T.agg_25_4 rfl rfl) ?_
          refine rl_k rfl (k_callf Try.func23 rfl rfl rfl rfl ?_)
          refine Calls.mono (All_calls (heapPg h) (s := s) r hrok hI5 (hw.xQ)) ?_
          rw [show (heapPg h).ops = heapO from rfl, hl.all]
          dsimp only
          rintro _ w ⟨g6, A6, lv, hg6, hI6, rfl, hw, hlv, _⟩
          refine ⟨_, rfl, ?_⟩
          refine xV rfl rfl rfl (v_move rfl) ?_
          refine xV rfl rfl rfl (v_extract rfl rfl) ?_
          refine xV rfl rfl rfl (v_extract rfl rfl) ?_
          refine xV rfl rfl rfl (v_assign rfl) ?_
          refine xV rfl rfl rfl (v_assign rfl) ?_
          refine rl_nil (g_le (xK (xK (xS rfl (xS rfl (xS rfl (xS rfl (xS rfl (xS rfl (xS rfl (Fr.le_refl _)))))))))) ?_)
          obtain rfl := hlv hl.nz
          refine g_seq (g_seq ?_)
          refine g_region ?_
          refine xV rfl rfl rfl (v_move rfl) ?_
          refine xV rfl rfl rfl (v_move rfl) ?_
          refine xV rfl rfl rfl (v_neqF rfl rfl (by omega)) ?_
          refine xV rfl rfl rfl (v_move rfl) ?_
          refine rl_split (s := 110) rfl (fun g22_3 => ?_) (fun g22_3 => ?_)
          · try with_reducible exact ft_elim g22_3
            all_goals
              try replace g22_3 := of_decide_eq_true g22_3
              simp at g22_3
          · try with_reducible exact tf_elim g22_3
            all_goals
              try replace g22_3 := of_decide_eq_false g22_3
              refine rl_vg (met_on rfl rfl rfl rfl) rfl rfl (S := fun _ => True) trivial (v_move rfl) ?_
              refine rl_vg (met_on rfl rfl rfl rfl) rfl rfl (S := fun _ => True) trivial (v_move rfl) ?_
              refine rl_vg (met_on rfl rfl rfl rfl) rfl rfl (S := fun _ => True) trivial (v_neqF rfl rfl (by omega)) ?_
              refine xV rfl rfl rfl (v_pick_false rfl rfl) ?_
              refine xV rfl rfl rfl (v_move rfl) ?_
              refine rl_split (s := 115) rfl (fun g22_8 => ?_) (fun g22_8 => ?_)
              · try with_reducible exact ft_elim g22_8
                all_goals
                  try replace g22_8 := of_decide_eq_true g22_8
                  simp at g22_8
              · try with_reducible exact tf_elim g22_8
                all_goals
                  try replace g22_8 := of_decide_eq_false g22_8
                  refine rl_vg (met_on rfl rfl rfl rfl) rfl rfl (S := fun _ => True) trivial (v_move rfl) ?_
                  refine rl_vg (met_on rfl rfl rfl rfl) rfl rfl (S := fun _ => True) trivial (v_move rfl) ?_
                  refine rl_vg (met_on rfl rfl rfl rfl) rfl rfl (S := fun _ => True) trivial (v_neqF rfl rfl (by omega)) ?_
                  refine xV rfl rfl rfl (v_pick_false rfl rfl) ?_
                  refine xV rfl rfl rfl (v_move rfl) ?_
                  refine rl_split (s := 120) rfl (fun g22_13 => ?_) (fun g22_13 => ?_)
                  · try with_reducible exact ft_elim g22_13
                    all_goals
                      try replace g22_13 := of_decide_eq_true g22_13
                      simp at g22_13
                  · try with_reducible exact tf_elim g22_13
                    all_goals
                      try replace g22_13 := of_decide_eq_false g22_13
                      refine rl_vg (met_on rfl rfl rfl rfl) rfl rfl (S := fun _ => True) trivial (v_move rfl) ?_
                      refine rl_vg (met_on rfl rfl rfl rfl) rfl rfl (S := fun _ => True) trivial (v_move rfl) ?_
                      refine rl_vg (met_on rfl rfl rfl rfl) rfl rfl (S := fun _ => True) trivial (v_neqF rfl rfl (by omega)) ?_
                      refine xV rfl rfl rfl (v_pick_false rfl rfl) ?_
                      refine xV rfl rfl rfl (v_move rfl) ?_
                      refine rl_split (s := 125) rfl (fun g22_18 => ?_) (fun g22_18 => ?_)
                      · try with_reducible exact ft_elim g22_18
                        all_goals
                          try replace g22_18 := of_decide_eq_true g22_18
                          simp at g22_18
                      · try with_reducible exact tf_elim g22_18
                        all_goals
                          try replace g22_18 := of_decide_eq_false g22_18
                          refine rl_vg (met_on rfl rfl rfl rfl) rfl rfl (S := fun _ => True) trivial (v_move rfl) ?_
                          refine rl_vg (met_on rfl rfl rfl rfl) rfl rfl (S := fun _ => True) trivial (v_move rfl) ?_
                          refine rl_vg (met_on rfl rfl rfl rfl) rfl rfl (S := fun _ => True) trivial (v_neqF rfl rfl (by omega)) ?_
                          refine xV rfl rfl rfl (v_pick_false rfl rfl) ?_
                          refine rl_nil (g_le (xK (xS rfl (xS rfl (xS rfl (xS rfl (xS rfl (xS rfl (xS rfl (xS rfl (xS rfl (xS rfl (xS rfl (xS rfl (xS rfl (xS rfl (xS rfl (xS rfl (xS rfl (xS rfl (xS rfl (xS rfl (xS rfl (xS rfl (xS rfl (xS rfl (xS rfl (xS rfl (Fr.le_refl _)))))))))))))))))))))))))))) ?_)
                          refine g_cond rfl (fun h5 => ?_) (fun h5 => ?_)
                          · try with_reducible exact ft_elim h5
                            all_goals
                              try replace h5 := of_decide_eq_true h5
                              simp at h5
                          · try with_reducible exact tf_elim h5
                            all_goals
                              try replace h5 := of_decide_eq_false h5
                              refine g_skip (g_seq ?_)
                              refine g_region ?_
                              refine xV rfl rfl rfl (v_move rfl) ?_
                              refine xV rfl rfl rfl (v_not rfl) ?_
                              refine xV rfl rfl rfl (v_move rfl) ?_
                              refine rl_vg (met_on rfl rfl rfl rfl) rfl rfl (S := fun _ => True) trivial (v_move rfl) ?_
                              refine rl_vg (met_on rfl rfl rfl rfl) rfl rfl (S := fun _ => True) trivial (v_not rfl) ?_
                              refine xV rfl rfl rfl (v_pick_true rfl rfl) ?_
                              refine xV rfl rfl rfl (v_move rfl) ?_
                              refine rl_vg (met_on rfl rfl rfl rfl) rfl rfl (S := fun _ => True) trivial (v_move rfl) ?_
                              refine rl_vg (met_on rfl rfl rfl rfl) rfl rfl (S := fun _ => True) trivial (v_eqlT rfl rfl (by omega)) ?_
                              refine xV rfl rfl rfl (v_pick_true rfl rfl) ?_
                              refine xV rfl rfl rfl (v_move rfl) ?_
                              refine rl_vg (met_on rfl rfl rfl rfl) rfl rfl (S := fun _ => True) trivial (v_move rfl) ?_
                              refine rl_vg (met_on rfl rfl rfl rfl) rfl rfl (S := fun _ => True) trivial (v_lenSlice T.sl_57_61_8 rfl) ?_
                              refine rl_vg (met_on rfl rfl rfl rfl) rfl rfl (S := fun _ => True) trivial (v_eqlT rfl rfl (by omega)) ?_
                              refine xV rfl rfl rfl (v_pick_true rfl rfl) ?_
                              refine xV rfl rfl rfl (v_move rfl) ?_
                              refine rl_vg (met_on rfl rfl rfl rfl) rfl rfl (by exact sat_cells hw (by (repeat first | with_reducible exact xH | apply xT); first | done | fail) ⟨rfl, rfl, rfl, rfl, trivial⟩) (v_loadAgg (vs := [_, _, _, _]) T.agg_25_4 rfl rfl) ?_
                              refine rl_vg (met_on rfl rfl rfl rfl) rfl rfl (S := fun _ => True) trivial (v_build rfl (T.build_25 ..)) ?_
                              refine rl_vg (met_on rfl rfl rfl rfl) rfl rfl (S := fun _ => True) trivial (v_eqlAgg T.cmp_25_iiii rfl rfl rfl rfl (by rfl)) ?_
                              refine xV rfl rfl rfl (v_pick_true rfl rfl) ?_
                              refine xV rfl rfl rfl (v_move rfl) ?_
                              refine rl_vg (met_on rfl rfl rfl rfl) rfl rfl (by exact sat_cells hw (by (repeat first | with_reducible exact xH | apply xT); first | done | fail) ⟨rfl, rfl, rfl, rfl, trivial⟩) (v_loadAgg (vs := [_, _, _, _]) T.agg_25_4 rfl rfl) ?_
                              refine rl_vg (met_on rfl rfl rfl rfl) rfl rfl (by exact sat_cells hw (by (repeat first | with_reducible exact xH | apply xT); first | done | fail) ⟨rfl, rfl, rfl, rfl, trivial⟩) (v_loadAgg (vs := [_, _, _, _]) T.agg_25_4 rfl rfl) ?_
                              refine rl_vg (met_on rfl rfl rfl rfl) rfl rfl (S := fun _ => True) trivial (v_eqlAgg T.cmp_25_iiii rfl rfl rfl rfl (by exact eq_Rf _ _)) ?_
                              refine xV rfl rfl rfl (v_pick_true rfl rfl) ?_
                              refine xV rfl rfl rfl (v_move rfl) ?_
                              refine rl_vg (met_on rfl rfl rfl rfl) rfl rfl (by exact sat_cells hw (by (repeat first | with_reducible exact xH | apply xT); first | done | fail) ⟨rfl, rfl, rfl, rfl, trivial⟩) (v_loadAgg (vs := [_, _, _, _]) T.agg_25_4 rfl rfl) ?_
                              refine rl_vg (met_on rfl rfl rfl rfl) rfl rfl (by exact sat_cells hw (by (repeat first | with_reducible exact xH | apply xT); first | done | fail) ⟨rfl, rfl, rfl, rfl, trivial⟩) (v_loadAgg (vs := [_, _, _, _]) T.agg_25_4 rfl rfl) ?_
                              refine rl_vg (met_on rfl rfl rfl rfl) rfl rfl (S := fun _ => True) trivial (v_eqlAgg T.cmp_25_iiii rfl rfl rfl rfl (by exact eq_Rf _ _)) ?_
                              refine xV rfl rfl rfl (v_pick_true rfl rfl) ?_
                              refine xV rfl rfl rfl (v_move rfl) ?_
                              refine rl_vg (met_on rfl rfl rfl rfl) rfl rfl (S := fun _ => True) trivial (v_move rfl) ?_
                              refine rl_kg (met_on rfl rfl rfl rfl) (k_callf Try.func14 rfl rfl rfl rfl ?_); refine Calls.mono (tlen_calls hI6 (hw.xQ)) ?_; rintro _ w ⟨rfl, hw⟩; refine ⟨_, rfl, ?_⟩
                              refine rl_vg (met_on rfl rfl rfl rfl) rfl rfl (S := fun _ => True) trivial (v_move rfl) ?_
                              refine rl_vg (met_on rfl rfl rfl rfl) rfl rfl (S := fun _ => True) trivial (v_eqlT rfl rfl (by omega)) ?_
                              refine xV rfl rfl rfl (v_pick_true rfl rfl) ?_
                              refine xV rfl rfl rfl (v_assign rfl) ?_
                              refine rl_nil (g_le (xK (xS rfl (xS rfl (xS rfl (xS rfl (xS rfl (xS rfl (xS rfl (xS rfl (xS rfl (xS rfl (xS rfl (xS rfl (xS rfl (xS rfl (xS rfl (xS rfl (xS rfl (xS rfl (xS rfl (xS rfl (xS rfl (xS rfl (xS rfl (xS rfl (xS rfl (xS rfl (xS rfl (xS rfl (xS rfl (xS rfl (xS rfl (xS rfl (xS rfl (xS rfl (xS rfl (xS rfl (Fr.le_refl _)))))))))))))))))))))))))))))))))))))) ?_)
                              refine g_ret1 Try.func10 rfl rfl ?_
                              exact ⟨by simp, (hw.xQ : Sat (envOf W) w [RO g6]).shrink (hg0.trans (hg.trans (hg1.trans (hg2.trans (hg3.trans (hg4.trans (hg5.trans hg6)))))))⟩
      · intro joinc2
        refine g_cond rfl (fun h2 => ?_) (fun h2 => ?_)
        · try with_reducible exact ft_elim h2
          all_goals
            try replace h2 := of_decide_eq_true h2
            refine g_seq ?_
            refine g_region ?_
            refine xV rfl rfl rfl (v_move rfl) ?_
            refine xV rfl rfl rfl (v_build rfl (T.build_32 ..)) ?_
            refine rl_k rfl (k_callf Try.func13 rfl rfl rfl rfl ?_)
            refine Calls.mono (twrite_calls (n := nd0) (ncs := [.bool false, .slice none 0 0, .slice none 0 0]) ⟨_, _, _, rfl, rfl, rdSl_nil _, rdSl_nil _⟩ nd0_small hI0 (hw.xQ)) ?_
            rw [wr_first]
            dsimp only
            rintro _ w ⟨g1, A1, hg1, hI1, rfl, _, hw⟩
            refine ⟨_, rfl, ?_⟩
            refine xV rfl rfl rfl (v_move rfl) ?_
            refine xV rfl rfl rfl (v_extract rfl rfl) ?_
            refine xV rfl rfl rfl (v_extract rfl rfl) ?_
            refine rl_k rfl (k_storeWhole hw T.agg_25_4 rfl rfl (by simp [Value.oneCell']) rfl (by (repeat first | with_reducible exact xH | apply xT); first | done | fail) rfl (fun w hw => ?_))
            refine rl_nil (g_le (xS rfl (xS rfl (xS rfl (xS rfl (xS rfl (xS rfl (Fr.le_refl _))))))) ?_)
            refine g_seq (g_seq ?_)
            refine g_region ?_
            refine xV rfl rfl rfl (v_assign rfl) ?_
            refine rl_nil (g_le (xK (Fr.le_refl _)) ?_)
            refine g_block ?_
            refine g_loopC (σ := Int × Hp × As) (fun C x => (10, .int .i64 x.1) :: C) [(1, _), (2, _), (3, _), (6, _), (7, _), (8, _), (9, _)] (by repeat (first | exact Fr.le_nil _ | refine Fr.le_cons rfl ?_)) (fun z w => 1 ≤ z.1 ∧ z.1 ≤ deep ∧ g0.le z.2.1 ∧ HeapI h z.2.1 (chainH z.1.toNat) z.2.2 ∧ Sat (envOf W) w (z.2.2 :: pt bk4_4 (.cells [.string name, .slice (some ⟨bk4_2, 0, none⟩) 1 1].toArray 49 (0, 0)) :: pt bk0_0 (.cells (refO (z.1 - 1)).cells.toArray 25 (0, 0)) :: RO z.2.1 :: [])) (fun z => (deep - z.1).toNat) ?_ (1, g1, A1) (by repeat (first | exact Fr.le_nil _ | refine Fr.le_cons rfl ?_)) ⟨by simp, by simp only; omega, hg1, hI1, by simp only [Int.sub_self]; exact hw.xQ⟩
            rintro ⟨i, g1, A1⟩ w ⟨hi1, hid, hg1, hI1, hw⟩ ih
            dsimp only at hi1 hid hg1 hI1 hw ih ⊢
            refine g_seq (g_seq ?_)
            refine g_region ?_
            refine xV rfl rfl rfl (v_move rfl) ?_
            refine xV rfl rfl rfl (v_move rfl) ?_
            refine xV rfl rfl rfl (v_lss rfl rfl) ?_
            refine rl_nil (g_le (xK (xK (xK (Fr.le_refl _)))) ?_)
            refine g_cond rfl (fun h3 => ?_) (fun h3 => ?_)
            · try with_reducible exact ft_elim h3
              all_goals
                try replace h3 := of_decide_eq_true h3
                refine g_skip (g_seq (g_block (g_seq ?_)))
                refine g_region ?_
                refine xV rfl rfl rfl (v_move rfl) ?_
                refine rl_v rfl rfl rfl (by exact sat_cells hw (by (repeat first | with_reducible exact xH | apply xT); first | done | fail) ⟨rfl, rfl, rfl, rfl, trivial⟩) (v_loadAgg (vs := [_, _, _, _]) T.agg_25_4 rfl rfl) ?_
                refine xV rfl rfl rfl (v_build rfl (T.build_70_0_1 ..)) ?_
                refine rl_k rfl (k_buildSlice (cells := [_, _, _, _, _]) hw T.sl_30_70_5 T.zero_70 rfl rfl rfl rfl rfl rfl (fun bk11_3 w hw => ?_))
                refine xV rfl rfl rfl (v_build rfl (T.build_32_2 ..)) ?_
                refine rl_k rfl (k_callf Try.func13 rfl rfl rfl rfl ?_)
                obtain ⟨g2, hg2, hkd, hw⟩ := (hw.xQ : Sat (envOf W) w (RO g1 :: pt bk11_3 (.cells (⟨aN, refO (i - 1)⟩ : Kd).cells.toArray 70 (0, 0)) :: A1 :: pt bk4_4 (.cells [.string name, .slice (some ⟨bk4_2, 0, none⟩) 1 1].toArray 49 (0, 0)) :: pt bk0_0 (.cells (refO (i - 1)).cells.toArray 25 (0, 0)) :: [])).freeze_lit (R := rdKd) (sz := 5) (bytes := 48) mono_Kd (xs := [⟨aN, refO (i - 1)⟩]) (Els.one rfl ⟨rfl, a_ok, refO_ok (by omega)⟩) rfl (by simp [maxLen]) (by simp [reachBytes])
                have hcn : chainN i.toNat = ⟨false, [], [⟨aN, refO (i - 1)⟩]⟩ := by simp only [chainN]; rw [if_neg (by omega), show ((i.toNat : Nat) : Int) = i by omega]
                refine Calls.mono (twrite_calls (n := ⟨false, [], [⟨aN, refO (i - 1)⟩]⟩) ⟨_, _, _, rfl, rfl, rdSl_nil _, hkd⟩ (by simp [Nd.small]) (HeapI.mono hg2 hI1) (hw.xQ)) ?_
                rw [wrH_at (by rw [chainH_len]; omega), chainH_len, ← hcn, ← chainH_succ]
                dsimp only
                rintro _ w ⟨g3, A3, hg3, hI3, rfl, _, hw⟩
                refine ⟨_, rfl, ?_⟩
                refine xV rfl rfl rfl (v_move rfl) ?_
                refine xV rfl rfl rfl (v_extract rfl rfl) ?_
                refine xV rfl rfl rfl (v_extract rfl rfl) ?_
                refine rl_k rfl (k_alloc hw T.zero_25 rfl rfl (fun bk11_9 w hw => ?_))
                refine rl_k rfl (k_storeWhole hw T.agg_25_4 rfl rfl (by simp [Value.oneCell']) rfl (by (repeat first | with_reducible exact xH | apply xT); first | done | fail) rfl (fun w hw => ?_))
                refine xV rfl rfl rfl (v_assign rfl) ?_
                refine rl_nil (g_le (xK (xK (xK (xK (xK (xK (xK (xK (xK (xK (xK (Fr.le_refl _)))))))))))) ?_)
                refine g_seq (g_seq ?_)
                refine g_region ?_
                refine xV rfl rfl rfl (v_move rfl) ?_
                refine xV rfl rfl rfl (v_neqF rfl rfl (by omega)) ?_
                refine rl_nil (g_le (xK (xK (Fr.le_refl _))) ?_)
                refine g_cond_false rfl ?_
                refine g_skip ?_
                refine g_region ?_
                refine rl_v rfl rfl rfl (by exact sat_cells hw (by (repeat first | with_reducible exact xH | apply xT); first | done | fail) ⟨rfl, rfl, rfl, rfl, trivial⟩) (v_loadAgg (vs := [_, _, _, _]) T.agg_25_4 rfl rfl) ?_
                refine rl_k rfl (k_storeWhole hw T.agg_25_4 rfl rfl (by simp [Value.oneCell']) rfl (by (repeat first | with_reducible exact xH | apply xT); first | done | fail) rfl (fun w hw => ?_))
                refine rl_nil (g_le (xK (Fr.le_refl _)) ?_)
                refine g_inBlock ?_
                refine g_region ?_
                refine xV rfl rfl rfl (v_move rfl) ?_
                refine xV rfl rfl rfl (v_add rfl rfl (by omega)) ?_
                refine xV rfl rfl rfl (v_assign rfl) ?_
                refine rl_nil (g_le (xK (xK (xK (Fr.le_refl _)))) ?_)
                exact g_le (by repeat (first | exact Fr.le_nil _ | refine Fr.le_cons rfl ?_)) (ih (i + 1, g3, A3) w ⟨by simp only; omega, by simp only; omega, (hg1.trans hg2).trans hg3, by dsimp only; rw [show (i + 1).toNat = i.toNat + 1 by omega]; exact hI3, by dsimp only; rw [show i + 1 - 1 = ((i.toNat : Nat) : Int) by omega]; exact hw.xQ⟩ (by simp only; omega))
            · try with_reducible exact tf_elim h3
              all_goals
                try replace h3 := of_decide_eq_false h3
                refine g_exit rfl ?_
                refine g_region ?_
                refine xV rfl rfl rfl (v_assign rfl) ?_
                refine rl_nil (g_le (xK (Fr.le_refl _)) ?_)
                exact joinc2 (70, g1, chainH i.toNat, A1, refO (i - 1)) w _ (by repeat (first | exact Fr.le_nil _ | refine Fr.le_cons rfl ?_)) ⟨lost_chain (by have := chain_ref (n := i.toNat) (i := i.toNat - 1) (by omega); rwa [show ((i.toNat - 1 : Nat) : Int) = i - 1 by omega] at this), hg1, hI1, refO_ok (by omega), hw.xQ⟩
        · try with_reducible exact tf_elim h2
          all_goals
            try replace h2 := of_decide_eq_false h2
            refine g_skip ?_
            exact joinc2 (71, g0, [], A, r) w _ (by repeat (first | exact Fr.le_nil _ | refine Fr.le_cons rfl ?_)) ⟨lost_page, Hp.le_refl _, hI0, hrok, hw.xQ⟩
  · try with_reducible exact tf_elim g6_2
    all_goals
      try replace g6_2 := of_decide_eq_false g6_2
      refine rl_off (met_off rfl rfl rfl rfl rfl) rfl rfl ?_
      refine rl_off (met_off rfl rfl rfl rfl rfl) rfl rfl ?_
      refine xV rfl rfl rfl (v_pick_false rfl rfl) ?_
      refine rl_nil (g_le (xK (xS rfl (xS rfl (xS rfl (xS rfl (xS rfl (xS rfl (Fr.le_refl _)))))))) ?_)
      refine g_cutc (σ := Int × Hp × List Nd × As × Rf) (fun C x => (9, .int .i64 x.1) :: C) [(1, _), (3, _), (6, _), (7, _), (8, _)] (by repeat (first | exact Fr.le_nil _ | refine Fr.le_cons rfl ?_)) (fun z w => LostR z.2.2.1 z.2.2.2.2 z.1 ∧ g0.le z.2.1 ∧ HeapI h z.2.1 z.2.2.1 z.2.2.2.1 ∧ z.2.2.2.2.ok ∧ Sat (envOf W) w (z.2.2.2.1 :: pt bk4_4 (.cells [.string name, .slice (some ⟨bk4_2, 0, none⟩) 1 1].toArray 49 (0, 0)) :: pt bk0_0 (.cells z.2.2.2.2.cells.toArray 25 (0, 0)) :: RO z.2.1 :: [])) ?_ ?_
      · skip
        rintro ⟨bad, g, s, A, r⟩ w ⟨hl, hg, hI, hrok, hw⟩
        dsimp only at hl hg hI hrok hw ⊢
        all_goals
          refine g_seq ?_
          refine g_region ?_
          refine xV rfl rfl rfl (v_move rfl) ?_
          refine rl_k rfl (k_callf Try.func14 rfl rfl rfl rfl ?_)
          refine Calls.mono (tlen_calls hI (hw.xQ)) ?_
          rintro _ w ⟨rfl, hw⟩
          refine ⟨_, rfl, ?_⟩
          refine xV rfl rfl rfl (v_assign rfl) ?_
          refine rl_nil (g_le (xK (xS rfl (xS rfl (Fr.le_refl _)))) ?_)
          refine g_seq ?_
          refine g_region ?_
          refine xV rfl rfl rfl (v_move rfl) ?_
          refine xV rfl rfl rfl (v_mkIface T.ptr_26 rfl) ?_
          refine rl_v rfl rfl rfl (by exact sat_cells hw (by (repeat first | with_reducible exact xH | apply xT); first | done | fail) ⟨rfl, rfl, rfl, rfl, trivial⟩) (v_loadAgg (vs := [_, _, _, _]) T.agg_25_4 rfl rfl) ?_
          refine xV rfl rfl rfl (v_move rfl) ?_
          refine rl_k rfl (k_callf Try.func22 rfl rfl rfl rfl ?_)
          refine Calls.mono (Get_calls (heapPg h) (s := s) r hrok name hI (hw.xQ)) ?_
          rw [show (heapPg h).ops = heapO from rfl, hl.get]
          dsimp only
          rintro _ w ⟨g1, A1, vv, hg1, hI1, rfl, _, hw⟩
          obtain ⟨vb, vd, rfl, _, _, _⟩ := hw.own_shape
          refine ⟨_, rfl, ?_⟩
          refine xV rfl rfl rfl (v_move rfl) ?_
          refine xV rfl rfl rfl (v_extract rfl rfl) ?_
          refine xV rfl rfl rfl (v_extract rfl rfl) ?_
          refine xV rfl rfl rfl (v_extract rfl rfl) ?_
          refine rl_k rfl (k_alloc hw T.zero_49 rfl rfl (fun bk17_9 w hw => ?_))
          refine rl_k rfl (k_storeWhole hw T.agg_49_2 rfl rfl (by simp [Value.oneCell']) rfl (by (repeat first | with_reducible exact xH | apply xT); first | done | fail) rfl (fun w hw => ?_))
          refine xV rfl rfl rfl (v_assign rfl) ?_
          refine xV rfl rfl rfl (v_assign rfl) ?_
          refine rl_nil (g_le (xK (xK (xS rfl (xS rfl (xS rfl (xS rfl (xS rfl (xS rfl (xS rfl (xS rfl (xS rfl (xS rfl (Fr.le_refl _))))))))))))) ?_)
          refine g_seq ?_
          refine g_region ?_
          refine xV rfl rfl rfl (v_move rfl) ?_
          refine xV rfl rfl rfl (v_mkIface T.ptr_26 rfl) ?_
          refine rl_v rfl rfl rfl (by exact sat_cells hw (by (repeat first | with_reducible exact xH | apply xT); first | done | fail) ⟨rfl, rfl, rfl, rfl, trivial⟩) (v_loadAgg (vs := [_, _, _, _]) T.agg_25_4 rfl rfl) ?_
          refine rl_v rfl rfl rfl (by exact sat_cells hw (by (repeat first | with_reducible exact xH | apply xT); first | done | fail) ⟨rfl, rfl, trivial⟩) (v_loadAgg (vs := [_, _]) T.agg_49_2 rfl rfl) ?_
          refine rl_k rfl (k_callf Try.func20 rfl rfl rfl rfl ?_)
          refine Calls.mono (Put_calls (heapPg h) (s := s) r hrok (mono_En (hg.trans hg1) hen) hI1 (hw.xQ)) ?_
          rw [show (heapPg h).ops = heapO from rfl, hl.put]
          dsimp only
          rintro _ w ⟨g2, A2, hg2, hI2, rfl, _, hw⟩
          refine ⟨_, rfl, ?_⟩
          refine xV rfl rfl rfl (v_move rfl) ?_
          refine xV rfl rfl rfl (v_extract rfl rfl) ?_
          refine xV rfl rfl rfl (v_extract rfl rfl) ?_
          refine rl_k rfl (k_alloc hw T.zero_25 rfl rfl (fun bk18_8 w hw => ?_))
          refine rl_k rfl (k_storeWhole hw T.agg_25_4 rfl rfl (by simp [Value.oneCell']) rfl (by (repeat first | with_reducible exact xH | apply xT); first | done | fail) rfl (fun w hw => ?_))
          refine xV rfl rfl rfl (v_assign rfl) ?_
          refine rl_nil (g_le (xK (xK (xS rfl (xS rfl (xS rfl (xS rfl (xS rfl (xS rfl (xS rfl (xS rfl (Fr.le_refl _))))))))))) ?_)
          refine g_seq ?_
          refine g_region ?_
          refine xV rfl rfl rfl (v_move rfl) ?_
          refine xV rfl rfl rfl (v_mkIface T.ptr_26 rfl) ?_
          refine rl_v rfl rfl rfl (by exact sat_cells hw (by (repeat first | with_reducible exact xH | apply xT); first | done | fail) ⟨rfl, rfl, rfl, rfl, trivial⟩) (v_loadAgg (vs := [_, _, _, _]) T.agg_25_4 rfl rfl) ?_
          refine xV rfl rfl rfl (v_move rfl) ?_
          refine rl_k rfl (k_callf Try.func30 rfl rfl rfl rfl ?_)
          refine Calls.mono (Delete_calls (heapPg h) (s := s) r hrok name hI2 (hw.xQ)) ?_
          rw [show (heapPg h).ops = heapO from rfl, hl.del]
          dsimp only
          rintro _ w ⟨g3, A3, hg3, hI3, rfl, _, hw⟩
          refine ⟨_, rfl, ?_⟩
          refine xV rfl rfl rfl (v_move rfl) ?_
          refine xV rfl rfl rfl (v_extract rfl rfl) ?_
          refine xV rfl rfl rfl (v_extract rfl rfl) ?_
          refine xV rfl rfl rfl (v_extract rfl rfl) ?_
          refine rl_k rfl (k_alloc hw T.zero_25 rfl rfl (fun bk19_9 w hw => ?_))
          refine rl_k rfl (k_storeWhole hw T.agg_25_4 rfl rfl (by simp [Value.oneCell']) rfl (by (repeat first | with_reducible exact xH | apply xT); first | done | fail) rfl (fun w hw => ?_))
          refine xV rfl rfl rfl (v_assign rfl) ?_
          refine xV rfl rfl rfl (v_assign rfl) ?_
          refine rl_nil (g_le (xK (xK (xK (xS rfl (xS rfl (xS rfl (xS rfl (xS rfl (xS rfl (xS rfl (xS rfl (xS rfl (Fr.le_refl _))))))))))))) ?_)
          refine g_seq ?_
          refine g_region ?_
          refine xV rfl rfl rfl (v_move rfl) ?_
          refine xV rfl rfl rfl (v_mkIface T.ptr_26 rfl) ?_
          refine rl_v rfl rfl rfl (by exact sat_cells hw (by (repeat first | with_reducible exact xH | apply xT); first | done | fail) ⟨rfl, rfl, rfl, rfl, trivial⟩) (v_loadAgg (vs := [_, _, _, _]) T.agg_25_4 rfl rfl) ?_
          refine rl_k rfl (k_buildSlice (cells := [_, _, _]) hw T.sl_44_3_1 T.zero_3 rfl rfl rfl rfl rfl rfl (fun bk20_3 w hw => ?_))
          refine rl_k rfl (k_callf Try.func26 rfl rfl rfl rfl ?_)
          obtain ⟨g4, hg4, hseg, hw⟩ := (hw.xQ : Sat (envOf W) w (RO g3 :: pt bk20_3 (.cells [.int .i64 0, .int .i64 1, .int .i64 2].toArray 3 (0, 0)) :: A3 :: pt bk0_0 (.cells r.cells.toArray 25 (0, 0)) :: pt bk18_8 (.cells rf0.cells.toArray 25 (0, 0)) :: pt bk19_9 (.cells rf0.cells.toArray 25 (0, 0)) :: [])).freeze_lit (R := rdInt .i64) (sz := 1) (bytes := 8) mono_int els_int3 rfl (by simp [maxLen]) (by simp [reachBytes])
          refine Calls.mono (Move_calls (heapPg h) (s := s) r hrok hseg ((heapPg h).mono hg4 hI3) (hw.xQ)) ?_
          rw [show (heapPg h).ops = heapO from rfl, hl.mov]
          dsimp only
          rintro _ w ⟨g5, A5, hg5, hI5, rfl, _, hw⟩
          refine ⟨_, rfl, ?_⟩
          refine xV rfl rfl rfl (v_move rfl) ?_
          refine xV rfl rfl rfl (v_extract rfl rfl) ?_
          refine xV rfl rfl rfl (v_extract rfl rfl) ?_
          refine xV rfl rfl rfl (v_extract rfl rfl) ?_
          refine rl_k rfl (k_alloc hw T.zero_25 rfl rfl (fun bk20_9 w hw => ?_))
          refine rl_k rfl (k_storeWhole hw T.agg_25_4 rfl rfl (by simp [Value.oneCell']) rfl (by (repeat first | with_reducible exact xH | apply xT); first | done | fail) rfl (fun w hw => ?_))
          refine xV rfl rfl rfl (v_assign rfl) ?_
          refine xV rfl rfl rfl (v_assign rfl) ?_
          refine rl_nil (g_le (xK (xK (xK (xS rfl (xS rfl (xS rfl (xS rfl (xS rfl (xS rfl (xS rfl (xS rfl (xS rfl (Fr.le_refl _))))))))))))) ?_)
          refine g_seq ?_
          refine g_region ?_
          refine xV rfl rfl rfl (v_move rfl) ?_
          refine xV rfl rfl rfl (v_mkIface T.ptr_26 rfl) ?_
          refine rl_v rfl rfl rfl (by exact sat_cells hw (by (repeat first | with_reducible exact xH | apply xT); first | done | fail) ⟨rfl, rfl, rfl, rfl, trivial⟩) (v_loadAgg (vs := [_, _, _, _]) T.agg_25_4 rfl rfl) ?_
          refine rl_k rfl (k_callf Try.func23 rfl rfl rfl rfl ?_)
          refine Calls.mono (All_calls (heapPg h) (s := s) r hrok hI5 (hw.xQ)) ?_
          rw [show (heapPg h).ops = heapO from rfl, hl.all]
          dsimp only
          rintro _ w ⟨g6, A6, lv, hg6, hI6, rfl, hw, hlv, _⟩
          refine ⟨_, rfl, ?_⟩
          refine xV rfl rfl rfl (v_move rfl) ?_
          refine xV rfl rfl rfl (v_extract rfl rfl) ?_
          refine xV rfl rfl rfl (v_extract rfl rfl) ?_
          refine xV rfl rfl rfl (v_assign rfl) ?_
          refine xV rfl rfl rfl (v_assign rfl) ?_
          refine rl_nil (g_le (xK (xK (xS rfl (xS rfl (xS rfl (xS rfl (xS rfl (xS rfl (xS rfl (Fr.le_refl _)))))))))) ?_)
          obtain rfl := hlv hl.nz
          refine g_seq (g_seq ?_)
          refine g_region ?_
          refine xV rfl rfl rfl (v_move rfl) ?_
          refine xV rfl rfl rfl (v_move rfl) ?_
          refine xV rfl rfl rfl (v_neqF rfl rfl (by omega)) ?_
          refine xV rfl rfl rfl (v_move rfl) ?_
          refine rl_split (s := 110) rfl (fun g22_3 => ?_) (fun g22_3 => ?_)
          · try with_reducible exact ft_elim g22_3
            all_goals
              try replace g22_3 := of_decide_eq_true g22_3
              simp at g22_3
          · try with_reducible exact tf_elim g22_3
            all_goals
              try replace g22_3 := of_decide_eq_false g22_3
              refine rl_vg (met_on rfl rfl rfl rfl) rfl rfl (S := fun _ => True) trivial (v_move rfl) ?_
              refine rl_vg (met_on rfl rfl rfl rfl) rfl rfl (S := fun _ => True) trivial (v_move rfl) ?_
              refine rl_vg (met_on rfl rfl rfl rfl) rfl rfl (S := fun _ => True) trivial (v_neqF rfl rfl (by omega)) ?_
              refine xV rfl rfl rfl (v_pick_false rfl rfl) ?_
              refine xV rfl rfl rfl (v_move rfl) ?_
              refine rl_split (s := 115) rfl (fun g22_8 => ?_) (fun g22_8 => ?_)
              · try with_reducible exact ft_elim g22_8
                all_goals
                  try replace g22_8 := of_decide_eq_true g22_8
                  simp at g22_8
              · try with_reducible exact tf_elim g22_8
                all_goals
                  try replace g22_8 := of_decide_eq_false g22_8
                  refine rl_vg (met_on rfl rfl rfl rfl) rfl rfl (S := fun _ => True) trivial (v_move rfl) ?_
                  refine rl_vg (met_on rfl rfl rfl rfl) rfl rfl (S := fun _ => True) trivial (v_move rfl) ?_
                  refine rl_vg (met_on rfl rfl rfl rfl) rfl rfl (S := fun _ => True) trivial (v_neqF rfl rfl (by omega)) ?_
                  refine xV rfl rfl rfl (v_pick_false rfl rfl) ?_
                  refine xV rfl rfl rfl (v_move rfl) ?_
                  refine rl_split (s := 120) rfl (fun g22_13 => ?_) (fun g22_13 => ?_)
                  · try with_reducible exact ft_elim g22_13
                    all_goals
                      try replace g22_13 := of_decide_eq_true g22_13
                      simp at g22_13
                  · try with_reducible exact tf_elim g22_13
                    all_goals
                      try replace g22_13 := of_decide_eq_false g22_13
                      refine rl_vg (met_on rfl rfl rfl rfl) rfl rfl (S := fun _ => True) trivial (v_move rfl) ?_
                      refine rl_vg (met_on rfl rfl rfl rfl) rfl rfl (S := fun _ => True) trivial (v_move rfl) ?_
                      refine rl_vg (met_on rfl rfl rfl rfl) rfl rfl (S := fun _ => True) trivial (v_neqF rfl rfl (by omega)) ?_
                      refine xV rfl rfl rfl (v_pick_false rfl rfl) ?_
                      refine xV rfl rfl rfl (v_move rfl) ?_
                      refine rl_split (s := 125) rfl (fun g22_18 => ?_) (fun g22_18 => ?_)
                      · try with_reducible exact ft_elim g22_18
                        all_goals
                          try replace g22_18 := of_decide_eq_true g22_18
                          simp at g22_18
                      · try with_reducible exact tf_elim g22_18
                        all_goals
                          try replace g22_18 := of_decide_eq_false g22_18
                          refine rl_vg (met_on rfl rfl rfl rfl) rfl rfl (S := fun _ => True) trivial (v_move rfl) ?_
                          refine rl_vg (met_on rfl rfl rfl rfl) rfl rfl (S := fun _ => True) trivial (v_move rfl) ?_
                          refine rl_vg (met_on rfl rfl rfl rfl) rfl rfl (S := fun _ => True) trivial (v_neqF rfl rfl (by omega)) ?_
                          refine xV rfl rfl rfl (v_pick_false rfl rfl) ?_
                          refine rl_nil (g_le (xK (xS rfl (xS rfl (xS rfl (xS rfl (xS rfl (xS rfl (xS rfl (xS rfl (xS rfl (xS rfl (xS rfl (xS rfl (xS rfl (xS rfl (xS rfl (xS rfl (xS rfl (xS rfl (xS rfl (xS rfl (xS rfl (xS rfl (xS rfl (xS rfl (xS rfl (xS rfl (Fr.le_refl _)))))))))))))))))))))))))))) ?_)
                          refine g_cond rfl (fun h5 => ?_) (fun h5 => ?_)
                          · try with_reducible exact ft_elim h5
                            all_goals
                              try replace h5 := of_decide_eq_true h5
                              simp at h5
                          · try with_reducible exact tf_elim h5
                            all_goals
                              try replace h5 := of_decide_eq_false h5
                              refine g_skip (g_seq ?_)
                              refine g_region ?_
                              refine xV rfl rfl rfl (v_move rfl) ?_
                              refine xV rfl rfl rfl (v_not rfl) ?_
                              refine xV rfl rfl rfl (v_move rfl) ?_
                              refine rl_vg (met_on rfl rfl rfl rfl) rfl rfl (S := fun _ => True) trivial (v_move rfl) ?_
                              refine rl_vg (met_on rfl rfl rfl rfl) rfl rfl (S := fun _ => True) trivial (v_not rfl) ?_
                              refine xV rfl rfl rfl (v_pick_true rfl rfl) ?_
                              refine xV rfl rfl rfl (v_move rfl) ?_
                              refine rl_vg (met_on rfl rfl rfl rfl) rfl rfl (S := fun _ => True) trivial (v_move rfl) ?_
                              refine rl_vg (met_on rfl rfl rfl rfl) rfl rfl (S := fun _ => True) trivial (v_eqlT rfl rfl (by omega)) ?_
                              refine xV rfl rfl rfl (v_pick_true rfl rfl) ?_
                              refine xV rfl rfl rfl (v_move rfl) ?_
                              refine rl_vg (met_on rfl rfl rfl rfl) rfl rfl (S := fun _ => True) trivial (v_move rfl) ?_
                              refine rl_vg (met_on rfl rfl rfl rfl) rfl rfl (S := fun _ => True) trivial (v_lenSlice T.sl_57_61_8 rfl) ?_
                              refine rl_vg (met_on rfl rfl rfl rfl) rfl rfl (S := fun _ => True) trivial (v_eqlT rfl rfl (by omega)) ?_
                              refine xV rfl rfl rfl (v_pick_true rfl rfl) ?_
                              refine xV rfl rfl rfl (v_move rfl) ?_
                              refine rl_vg (met_on rfl rfl rfl rfl) rfl rfl (by exact sat_cells hw (by (repeat first | with_reducible exact xH | apply xT); first | done | fail) ⟨rfl, rfl, rfl, rfl, trivial⟩) (v_loadAgg (vs := [_, _, _, _]) T.agg_25_4 rfl rfl) ?_
                              refine rl_vg (met_on rfl rfl rfl rfl) rfl rfl (S := fun _ => True) trivial (v_build rfl (T.build_25 ..)) ?_
                              refine rl_vg (met_on rfl rfl rfl rfl) rfl rfl (S := fun _ => True) trivial (v_eqlAgg T.cmp_25_iiii rfl rfl rfl rfl (by rfl)) ?_
                              refine xV rfl rfl rfl (v_pick_true rfl rfl) ?_
                              refine xV rfl rfl rfl (v_move rfl) ?_
                              refine rl_vg (met_on rfl rfl rfl rfl) rfl rfl (by exact sat_cells hw (by (repeat first | with_reducible exact xH | apply xT); first | done | fail) ⟨rfl, rfl, rfl, rfl, trivial⟩) (v_loadAgg (vs := [_, _, _, _]) T.agg_25_4 rfl rfl) ?_
                              refine rl_vg (met_on rfl rfl rfl rfl) rfl rfl (by exact sat_cells hw (by (repeat first | with_reducible exact xH | apply xT); first | done | fail) ⟨rfl, rfl, rfl, rfl, trivial⟩) (v_loadAgg (vs := [_, _, _, _]) T.agg_25_4 rfl rfl) ?_
                              refine rl_vg (met_on rfl rfl rfl rfl) rfl rfl (S := fun _ => True) trivial (v_eqlAgg T.cmp_25_iiii rfl rfl rfl rfl (by exact eq_Rf _ _)) ?_
                              refine xV rfl rfl rfl (v_pick_true rfl rfl) ?_
                              refine xV rfl rfl rfl (v_move rfl) ?_
                              refine rl_vg (met_on rfl rfl rfl rfl) rfl rfl (by exact sat_cells hw (by (repeat first | with_reducible exact xH | apply xT); first | done | fail) ⟨rfl, rfl, rfl, rfl, trivial⟩) (v_loadAgg (vs := [_, _, _, _]) T.agg_25_4 rfl rfl) ?_
                              refine rl_vg (met_on rfl rfl rfl rfl) rfl rfl (by exact sat_cells hw (by (repeat first | with_reducible exact xH | apply xT); first | done | fail) ⟨rfl, rfl, rfl, rfl, trivial⟩) (v_loadAgg (vs := [_, _, _, _]) T.agg_25_4 rfl rfl) ?_
                              refine rl_vg (met_on rfl rfl rfl rfl) rfl rfl (S := fun _ => True) trivial (v_eqlAgg T.cmp_25_iiii rfl rfl rfl rfl (by exact eq_Rf _ _)) ?_
                              refine xV rfl rfl rfl (v_pick_true rfl rfl) ?_
                              refine xV rfl rfl rfl (v_move rfl) ?_
                              refine rl_vg (met_on rfl rfl rfl rfl) rfl rfl (S := fun _ => True) trivial (v_move rfl) ?_
                              refine rl_kg (met_on rfl rfl rfl rfl) (k_callf Try.func14 rfl rfl rfl rfl ?_); refine Calls.mono (tlen_calls hI6 (hw.xQ)) ?_; rintro _ w ⟨rfl, hw⟩; refine ⟨_, rfl, ?_⟩
                              refine rl_vg (met_on rfl rfl rfl rfl) rfl rfl (S := fun _ => True) trivial (v_move rfl) ?_
                              refine rl_vg (met_on rfl rfl rfl rfl) rfl rfl (S := fun _ => True) trivial (v_eqlT rfl rfl (by omega)) ?_
                              refine xV rfl rfl rfl (v_pick_true rfl rfl) ?_
                              refine xV rfl rfl rfl (v_assign rfl) ?_
                              refine rl_nil (g_le (xK (xS rfl (xS rfl (xS rfl (xS rfl (xS rfl (xS rfl (xS rfl (xS rfl (xS rfl (xS rfl (xS rfl (xS rfl (xS rfl (xS rfl (xS rfl (xS rfl (xS rfl (xS rfl (xS rfl (xS rfl (xS rfl (xS rfl (xS rfl (xS rfl (xS rfl (xS rfl (xS rfl (xS rfl (xS rfl (xS rfl (xS rfl (xS rfl (xS rfl (xS rfl (xS rfl (xS rfl (Fr.le_refl _)))))))))))))))))))))))))))))))))))))) ?_)
                              refine g_ret1 Try.func10 rfl rfl ?_
                              exact ⟨by simp, (hw.xQ : Sat (envOf W) w [RO g6]).shrink (hg0.trans (hg.trans (hg1.trans (hg2.trans (hg3.trans (hg4.trans (hg5.trans hg6)))))))⟩
      · intro joinc2
        refine g_cond rfl (fun h2 => ?_) (fun h2 => ?_)
        · try with_reducible exact ft_elim h2
          all_goals
            try replace h2 := of_decide_eq_true h2
            refine g_seq ?_
            refine g_region ?_
            refine xV rfl rfl rfl (v_move rfl) ?_
            refine xV rfl rfl rfl (v_build rfl (T.build_32 ..)) ?_
            refine rl_k rfl (k_callf Try.func13 rfl rfl rfl rfl ?_)
            refine Calls.mono (twrite_calls (n := nd0) (ncs := [.bool false, .slice none 0 0, .slice none 0 0]) ⟨_, _, _, rfl, rfl, rdSl_nil _, rdSl_nil _⟩ nd0_small hI0 (hw.xQ)) ?_
            rw [wr_first]
            dsimp only
            rintro _ w ⟨g1, A1, hg1, hI1, rfl, _, hw⟩
            refine ⟨_, rfl, ?_⟩
            refine xV rfl rfl rfl (v_move rfl) ?_
            refine xV rfl rfl rfl (v_extract rfl rfl) ?_
            refine xV rfl rfl rfl (v_extract rfl rfl) ?_
            first | (refine rl_k rfl (k_storeWhole hw T.agg_25_4 rfl rfl (by simp [Value.oneCell']) rfl (by (repeat first | with_reducible exact xH | apply xT); first | done | fail) rfl (fun w hw => ?_))) | (refine rl_k rfl (k_storeAgg hw T.agg_25_4 rfl rfl (by simp [Value.oneCell']) rfl (by (repeat first | with_reducible exact xH | apply xT); first | done | fail) rfl rfl (fun w hw => ?_))) | (refine rl_k rfl (k_storeOwnAgg hw T.agg_25_4 rfl rfl (by simp [Value.oneCell']) rfl (by (repeat first | with_reducible exact xH | apply xT); first | done | fail) (by assumption) (by omega) (fun w hw => ?_)))
            refine rl_nil (g_le (xS rfl (xS rfl (xS rfl (xS rfl (xS rfl (xS rfl (Fr.le_refl _))))))) ?_)
            refine g_seq (g_seq ?_)
            refine g_region ?_
            refine xV rfl rfl rfl (v_assign rfl) ?_
            refine rl_nil (g_le (xK (Fr.le_refl _)) ?_)
            refine g_block ?_
            refine g_loopC (σ := Int × Hp × As) (fun C x => (10, .int .i64 x.1) :: C) [(1, _), (2, _), (3, _), (6, _), (7, _), (8, _), (9, _)] (by repeat (first | exact Fr.le_nil _ | refine Fr.le_cons rfl ?_)) (fun z w => 1 ≤ z.1 ∧ z.1 ≤ deep ∧ g0.le z.2.1 ∧ HeapI h z.2.1 (chainH z.1.toNat) z.2.2 ∧ Sat (envOf W) w (z.2.2 :: pt bk4_4 (.cells [.string name, .slice (some ⟨bk4_2, 0, none⟩) 1 1].toArray 49 (0, 0)) :: pt bk0_0 (.cells (refO (z.1 - 1)).cells.toArray 25 (0, 0)) :: RO z.2.1 :: [])) (fun z => (deep - z.1).toNat) ?_ (1, g1, A1) (by repeat (first | exact Fr.le_nil _ | refine Fr.le_cons rfl ?_)) ⟨by simp, by simp only; omega, hg1, hI1, by simp only [Int.sub_self]; exact hw.xQ⟩
            rintro ⟨i, g1, A1⟩ w ⟨hi1, hid, hg1, hI1, hw⟩ ih
            dsimp only at hi1 hid hg1 hI1 hw ih ⊢
            refine g_seq (g_seq ?_)
            refine g_region ?_
            refine xV rfl rfl rfl (v_move rfl) ?_
            refine xV rfl rfl rfl (v_move rfl) ?_
            first | (refine xV rfl rfl rfl (v_lssT rfl rfl (by omega)) ?_) | (refine xV rfl rfl rfl (v_lssF rfl rfl (by omega)) ?_) | (refine xV rfl rfl rfl (v_lss rfl rfl) ?_)
            refine rl_nil (g_le (xK (xK (xK (Fr.le_refl _)))) ?_)
            refine g_cond rfl (fun h3 => ?_) (fun h3 => ?_)
            · try with_reducible exact ft_elim h3
              all_goals
                try replace h3 := of_decide_eq_true h3
                refine g_skip (g_seq (g_block (g_seq ?_)))
                refine g_region ?_
                refine xV rfl rfl rfl (v_move rfl) ?_
                refine rl_v rfl rfl rfl (by first | exact sat_cells hw (by (repeat first | with_reducible exact xH | apply xT); first | done | fail) ⟨rfl, rfl, rfl, rfl, trivial⟩ | exact ro_ats hw (by (repeat first | with_reducible exact xH | apply xT); first | done | fail) (by assumption) | exact own_cells hw (by (repeat first | with_reducible exact xH | apply xT); first | done | fail) (by assumption) | exact old_cells hw (by (repeat first | with_reducible exact xH | apply xT); first | done | fail) (by assumption)) (v_loadAgg (vs := [_, _, _, _]) T.agg_25_4 rfl rfl) ?_
                refine xV rfl rfl rfl (v_build rfl (T.build_70_0_1 ..)) ?_
                refine rl_k rfl (k_buildSlice (cells := [_, _, _, _, _]) hw T.sl_30_70_5 T.zero_70 rfl rfl rfl rfl rfl rfl (fun bk11_3 w hw => ?_))
                refine xV rfl rfl rfl (v_build rfl (T.build_32_2 ..)) ?_
                refine rl_k rfl (k_callf Try.func13 rfl rfl rfl rfl ?_)
                obtain ⟨g2, hg2, hkd, hw⟩ := (hw.xQ : Sat (envOf W) w (RO g1 :: pt bk11_3 (.cells (⟨aN, refO (i - 1)⟩ : Kd).cells.toArray 70 (0, 0)) :: A1 :: pt bk4_4 (.cells [.string name, .slice (some ⟨bk4_2, 0, none⟩) 1 1].toArray 49 (0, 0)) :: pt bk0_0 (.cells (refO (i - 1)).cells.toArray 25 (0, 0)) :: [])).freeze_lit (R := rdKd) (sz := 5) (bytes := 48) mono_Kd (xs := [⟨aN, refO (i - 1)⟩]) (Els.one rfl ⟨rfl, a_ok, refO_ok (by omega)⟩) rfl (by simp [maxLen]) (by simp [reachBytes])
                have hcn : chainN i.toNat = ⟨false, [], [⟨aN, refO (i - 1)⟩]⟩ := by simp only [chainN]; rw [if_neg (by omega), show ((i.toNat : Nat) : Int) = i by omega]
                refine Calls.mono (twrite_calls (n := ⟨false, [], [⟨aN, refO (i - 1)⟩]⟩) ⟨_, _, _, rfl, rfl, rdSl_nil _, hkd⟩ (by simp [Nd.small]) (HeapI.mono hg2 hI1) (hw.xQ)) ?_
                rw [wrH_at (by rw [chainH_len]; omega), chainH_len, ← hcn, ← chainH_succ]
                dsimp only
                rintro _ w ⟨g3, A3, hg3, hI3, rfl, _, hw⟩
                refine ⟨_, rfl, ?_⟩
                refine xV rfl rfl rfl (v_move rfl) ?_
                refine xV rfl rfl rfl (v_extract rfl rfl) ?_
                refine xV rfl rfl rfl (v_extract rfl rfl) ?_
                refine rl_k rfl (k_alloc hw T.zero_25 rfl rfl (fun bk11_9 w hw => ?_))
                first | (refine rl_k rfl (k_storeWhole hw T.agg_25_4 rfl rfl (by simp [Value.oneCell']) rfl (by (repeat first | with_reducible exact xH | apply xT); first | done | fail) rfl (fun w hw => ?_))) | (refine rl_k rfl (k_storeAgg hw T.agg_25_4 rfl rfl (by simp [Value.oneCell']) rfl (by (repeat first | with_reducible exact xH | apply xT); first | done | fail) rfl rfl (fun w hw => ?_))) | (refine rl_k rfl (k_storeOwnAgg hw T.agg_25_4 rfl rfl (by simp [Value.oneCell']) rfl (by (repeat first | with_reducible exact xH | apply xT); first | done | fail) (by assumption) (by omega) (fun w hw => ?_)))
                refine xV rfl rfl rfl (v_assign rfl) ?_
                refine rl_nil (g_le (xK (xK (xK (xK (xK (xK (xK (xK (xK (xK (xK (Fr.le_refl _)))))))))))) ?_)
                refine g_seq (g_seq ?_)
                refine g_region ?_
                refine xV rfl rfl rfl (v_move rfl) ?_
                first | (refine xV rfl rfl rfl (v_neqT rfl rfl (by omega)) ?_) | (refine xV rfl rfl rfl (v_neqF rfl rfl (by first | omega | rfl)) ?_) | (refine xV rfl rfl rfl (v_neq rfl rfl) ?_)
                refine rl_nil (g_le (xK (xK (Fr.le_refl _))) ?_)
                refine g_cond_false rfl ?_
                refine g_skip ?_
                refine g_region ?_
                refine rl_v rfl rfl rfl (by first | exact sat_cells hw (by (repeat first | with_reducible exact xH | apply xT); first | done | fail) ⟨rfl, rfl, rfl, rfl, trivial⟩ | exact ro_ats hw (by (repeat first | with_reducible exact xH | apply xT); first | done | fail) (by assumption) | exact own_cells hw (by (repeat first | with_reducible exact xH | apply xT); first | done | fail) (by assumption) | exact old_cells hw (by (repeat first | with_reducible exact xH | apply xT); first | done | fail) (by assumption)) (v_loadAgg (vs := [_, _, _, _]) T.agg_25_4 rfl rfl) ?_
                first | (refine rl_k rfl (k_storeWhole hw T.agg_25_4 rfl rfl (by simp [Value.oneCell']) rfl (by (repeat first | with_reducible exact xH | apply xT); first | done | fail) rfl (fun w hw => ?_))) | (refine rl_k rfl (k_storeAgg hw T.agg_25_4 rfl rfl (by simp [Value.oneCell']) rfl (by (repeat first | with_reducible exact xH | apply xT); first | done | fail) rfl rfl (fun w hw => ?_))) | (refine rl_k rfl (k_storeOwnAgg hw T.agg_25_4 rfl rfl (by simp [Value.oneCell']) rfl (by (repeat first | with_reducible exact xH | apply xT); first | done | fail) (by assumption) (by omega) (fun w hw => ?_)))
                refine rl_nil (g_le (xK (Fr.le_refl _)) ?_)
                refine g_inBlock ?_
                refine g_region ?_
                refine xV rfl rfl rfl (v_move rfl) ?_
                first | (refine xV rfl rfl rfl (v_add rfl rfl (by omega)) ?_) | (refine xV rfl rfl rfl (v_addW rfl rfl) ?_)
                refine xV rfl rfl rfl (v_assign rfl) ?_
                refine rl_nil (g_le (xK (xK (xK (Fr.le_refl _)))) ?_)
                exact g_le (by repeat (first | exact Fr.le_nil _ | refine Fr.le_cons rfl ?_)) (ih (i + 1, g3, A3) w ⟨by simp only; omega, by simp only; omega, (hg1.trans hg2).trans hg3, by dsimp only; rw [show (i + 1).toNat = i.toNat + 1 by omega]; exact hI3, by dsimp only; rw [show i + 1 - 1 = ((i.toNat : Nat) : Int) by omega]; exact hw.xQ⟩ (by simp only; omega))
            · try with_reducible exact tf_elim h3
              all_goals
                try replace h3 := of_decide_eq_false h3
                refine g_exit rfl ?_
                refine g_region ?_
                refine xV rfl rfl rfl (v_assign rfl) ?_
                refine rl_nil (g_le (xK (Fr.le_refl _)) ?_)
                exact joinc2 (70, g1, chainH i.toNat, A1, refO (i - 1)) w _ (by repeat (first | exact Fr.le_nil _ | refine Fr.le_cons rfl ?_)) ⟨lost_chain (by have := chain_ref (n := i.toNat) (i := i.toNat - 1) (by omega); rwa [show ((i.toNat - 1 : Nat) : Int) = i - 1 by omega] at this), hg1, hI1, refO_ok (by omega), hw.xQ⟩
        · try with_reducible exact tf_elim h2
          all_goals
            try replace h2 := of_decide_eq_false h2
            refine g_skip ?_
            exact joinc2 (71, g0, [], A, r) w _ (by repeat (first | exact Fr.le_nil _ | refine Fr.le_cons rfl ?_)) ⟨lost_page, Hp.le_refl _, hI0, hrok, hw.xQ⟩

set_option maxRecDepth 100000 in
theorem TreeLost_lifted (os : Os) (started : os.Started) (H : Type) (enc : TypeId × Value → H) :
    ReturnsInHanded {} Try.checked os 10 .any (Rows.treeLostSpec.pre6 enc Try.prog Try.f10 Rows.treeLostRow.domain false) (Rows.treeLostSpec.post enc Try.prog Try.f10 false true false false) := by
  refine returnsInHanded_of_change_sized (C := Try.checked) T.own started (by kernel_rfl) Try.func10
    (ChangeSpec.witness6 (enc := enc) (C := Try.checked) false ⟨#[], #[(.agg #[(.int .u64 0), (.int .i64 0), (.int .i64 0), (.int .i64 0)]), (.string ByteArray.empty), (.int .i64 0)], []⟩ 8 (by kernel_rfl) (by kernel_rfl) (by kernel_rfl) (by kernel_rfl)) ?_
  intro W base args ds gs before hval0 hW hcnd hsz0 _
  have hval : ∀ (j : Nat) t v, Try.f10.params[j]? = some t → args[j]? = some v → Value.okWide Try.prog W .any base t v := hval0
  have hW' := hW
  obtain ⟨p, q, hA0, hV, rfl, hfz, hnd⟩ := hW
  have hA : DataW.TrodAll enc Try.prog W 0 (fun _ => true) true Try.f10.params.toList args.toList ds p := hA0
  obtain ⟨rfl, rfl⟩ := trodVars_none hV
  have hsz : (DataW.weightsEach Try.prog (Try.f10.params.toList ++ []) (ds ++ [])).all (· ≤ reachBytes) = true := hsz0
  rw [List.append_nil, List.append_nil] at hsz
  rw [Try.params10] at hA hval hsz
  obtain ⟨v0, vs0, d0, ds0, p0, q0, hargs, rfl, rfl, h0, r0⟩ := trodAll_cons hA
  obtain ⟨v1, vs1, d1, ds1, p1, q1, rfl, rfl, rfl, h1, r1⟩ := trodAll_cons r0
  obtain ⟨v2, vs2, d2, ds2, p2, q2, rfl, rfl, rfl, h2, r2⟩ := trodAll_cons r1
  obtain ⟨rfl, rfl, rfl⟩ := trodAll_nil r2
  obtain rfl : args = #[v0, v1, v2] := by cases args; simp_all
  have lt0 : ∀ x ∈ p0, x.block < W.heap.size := by obtain ⟨m, hm⟩ := h0; exact DataW.trod_lt m _ _ _ hm
  obtain ⟨x0, w0⟩ := arg_of (j := 0) reads_Rf h0 hsz rfl rfl
  have lt1 : ∀ x ∈ p1, x.block < W.heap.size := by obtain ⟨m, hm⟩ := h1; exact DataW.trod_lt m _ _ _ hm
  obtain ⟨x1, w1⟩ := arg_of (j := 1) (reads_str T.str_9) h1 hsz rfl rfl
  have lt2 : ∀ x ∈ p2, x.block < W.heap.size := by obtain ⟨m, hm⟩ := h2; exact DataW.trod_lt m _ _ _ hm
  obtain ⟨x2, w2⟩ := arg_of (j := 2) (reads_int T.int_3_i64) h2 hsz rfl rfl
  obtain ⟨cs0, rfl⟩ := okWide_agg T.agg_25_4 (hval 0 25 v0 rfl rfl)
  obtain ⟨s1, rfl⟩ := okWide_string Try.underlying9 (hval 1 9 v1 rfl rfl)
  obtain ⟨n2, rfl⟩ := okWide_int Try.underlying3 (hval 2 3 v2 rfl rfl)
  obtain ⟨hc1, hr1⟩ := w1
  cases hc1
  obtain ⟨hc2, hr2⟩ := w2
  cases hc2
  refine (TreeLost_law w0 hr1 hr2).mono fun e W' ⟨he, hb⟩ => ?_
  have bel := hb.below
  subst he
  exact ⟨_, rfl, _, _, _, [], _, [], hW', trodAll_mk1 (shut_bool Try.underlying4 _), (trodAll_cons_mk (Below.trod T.laidOut (by kernel_rfl) (of_decide_eq_true (by kernel_rfl)) h0 bel lt0) (trodAll_cons_mk (Below.trod T.laidOut (by kernel_rfl) (of_decide_eq_true (by kernel_rfl)) h1 bel lt1) (trodAll_cons_mk (Below.trod T.laidOut (by kernel_rfl) (of_decide_eq_true (by kernel_rfl)) h2 bel lt2) trodAll_mk0))), rfl, bel.frame _, fun h => by cases h⟩
theorem TreeLost_holds : Rows.TreeLostSaid :=
  OpenClaim.holds_of_wide 10 Try.f10 rfl rfl rfl rfl rfl rfl rfl ⟨rfl, rfl, rfl, rfl, rfl⟩ rfl rfl rfl rfl rfl (by kernel_rfl) Try.func10 (by kernel_rfl)
    (of_decide_eq_true (by kernel_rfl)) (by unfold Func.isWrapper; rw [if_neg (of_decide_eq_false (by kernel_rfl))]; exact ⟨rfl, rfl⟩)
    (fun os started H enc _ => TreeLost_lifted os started H enc)
#print axioms TreeLost_holds
end Go.Proofs.Ytmbngahboaljpaa
