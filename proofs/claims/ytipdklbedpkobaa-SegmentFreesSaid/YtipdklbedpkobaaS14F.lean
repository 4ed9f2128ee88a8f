/-
  SegmentFrees: as soon as nothing is live all but the open segment are free; each append that is not refused is one raw write.
-/
import Derived.Test.YtipdklbedpkobaaS14n
import Derived.Test.YtipdklbedpkobaaRows
namespace Go.Proofs.Ytipdklbedpkobaa
set_option maxRecDepth 8000
set_option linter.unusedSimpArgs false
set_option linter.unusedVariables false
open Go Xe Go.Lib Go.RowKit Go.ChangeShapes Go.WideShapes Go.ChangeAt
set_option maxHeartbeats 4000000 in
theorem SegmentFrees_law {w : World} {sg sz : Int} {a1 : Option Addr} {n1 c1 : Nat} {xs : List ByteArray} (hn : (Lit.int .i64 sg).wf = true) (hn2 : (Lit.int .i64 sz).wf = true) (hr : rdArg (rdSl 16 1 rdStr) w (.slice a1 n1 c1) xs) :
    Law Try.prog 5 [.int .i64 sg, .int .i64 sz, .slice a1 n1 c1] w := by
  unfold Law
  clear hn hn2
  have hw := Sat.old w
  generalize w = W at hr hw ⊢
  have hr : (rdSl 16 1 rdStr) (hpOf W) [.slice a1 n1 c1] xs := hr
  obtain ⟨rfl, _, _, hxm, gx⟩ := rdSl_get hr
  simp only [maxLen] at hxm
  have hw : Sat (envOf W) W [RO (hpOf W)] := hw
  refine calls_of_g (n := 153) Try.func5 rfl rfl rfl ?_
  change G _ _ _ _ _ [(0, _), (1, _), (2, _)] _
  refine g_seq ?_
  refine g_region ?_
  refine xV rfl rfl rfl (v_assign rfl) ?_
  refine rl_nil (g_le (xK (Fr.le_refl _)) ?_)
  refine g_seq (g_seq ?_)
  refine g_cutc2 (σ := Int) (fun C x => (0, .int .i64 x) :: C) [(1, _), (2, _), (6, _)] (by repeat (first | exact Fr.le_nil _ | refine Fr.le_cons rfl ?_)) (fun x w => 1 ≤ x ∧ x ≤ 20 ∧ Sat (envOf W) w [RO (hpOf W)]) ?_ ?_
  · skip
    rintro n w ⟨hn1, hn2, hw⟩
    all_goals
      refine g_seq (g_seq ?_)
      refine g_cutc2 (σ := Int) (fun C x => (1, .int .i64 x) :: C) [(0, _), (2, _), (6, _)] (by repeat (first | exact Fr.le_nil _ | refine Fr.le_cons rfl ?_)) (fun x w => 1 ≤ x ∧ x ≤ 60 ∧ Sat (envOf W) w [RO (hpOf W)]) ?_ ?_
      · skip
        rintro size w ⟨hz1, hz2, hw⟩
        all_goals
          refine g_seq ?_
          refine g_region ?_
          refine rl_k rfl (k_callf Try.func10 rfl rfl rfl rfl ?_)
          refine Calls.mono (new_calls (hw.xQ)) ?_
          rintro _ w ⟨p, rfl, hw⟩
          refine ⟨_, rfl, ?_⟩
          refine xV rfl rfl rfl (v_move rfl) ?_
          refine xV rfl rfl rfl (v_move rfl) ?_
          refine rl_k rfl (k_callf Try.func9 rfl rfl rfl rfl ?_)
          refine Calls.mono (mnew_calls p n size (by omega) (by omega) (by omega) (by omega) hw) ?_
          rintro _ w ⟨m, rfl, hw⟩
          refine ⟨_, rfl, ?_⟩
          refine xV rfl rfl rfl (v_move rfl) ?_
          refine xV rfl rfl rfl (v_extract rfl rfl) ?_
          refine xV rfl rfl rfl (v_extract rfl rfl) ?_
          refine xV rfl rfl rfl (v_assign rfl) ?_
          refine xV rfl rfl rfl (v_assign rfl) ?_
          refine rl_nil (g_le (xK (xK (xS rfl (xS rfl (xS rfl (xS rfl (xS rfl (xS rfl (xS rfl (Fr.le_refl _)))))))))) ?_)
          refine g_seq ?_
          refine g_region ?_
          refine xV rfl rfl rfl (v_move rfl) ?_
          refine rl_k rfl (k_callf Try.func13 rfl rfl rfl rfl ?_)
          refine Calls.mono (snew_calls m p (newMd size n.toNat) hw) ?_
          rintro _ w ⟨l, b, c, rfl, hw⟩
          refine ⟨_, rfl, ?_⟩
          refine xV rfl rfl rfl (v_assign rfl) ?_
          refine rl_nil (g_le (xK (xS rfl (xS rfl (Fr.le_refl _)))) ?_)
          refine g_seq (g_seq ?_)
          refine g_region ?_
          refine xV rfl rfl rfl (v_move rfl) ?_
          refine xV rfl rfl rfl (v_neqF rfl rfl (by omega)) ?_
          refine xV rfl rfl rfl (v_move rfl) ?_
          refine rl_split (s := 43) rfl (fun g7_2 => ?_) (fun g7_2 => ?_)
          · try with_reducible exact ft_elim g7_2
            all_goals
              try replace g7_2 := of_decide_eq_true g7_2
              simp at g7_2
          · try with_reducible exact tf_elim g7_2
            all_goals
              try replace g7_2 := of_decide_eq_false g7_2
              refine rl_vg (met_on rfl rfl rfl rfl) rfl rfl (S := fun _ => True) trivial (v_move rfl) ?_
              refine rl_vg (met_on rfl rfl rfl rfl) rfl rfl (S := fun _ => True) trivial (v_eqlNil T.ptr_36 rfl rfl) ?_
              refine xV rfl rfl rfl (v_pick_false rfl rfl) ?_
              refine rl_nil (g_le (xK (xS rfl (xS rfl (xS rfl (xS rfl (xS rfl (xS rfl (Fr.le_refl _)))))))) ?_)
              refine g_cond_false rfl ?_
              refine g_skip (g_seq ?_)
              have hnn : (newMd size n.toNat).segs.length = n.toNat := by simp [newMd]
              rw [hnn] at hw
              have K0 := new_LgK (size := size) (n := n.toNat) (by omega) (by omega) (by omega) (by omega)
              have hl0 := newSegs_len (n := n.toNat) (by omega)
              have hw : Sat (envOf W) w (pt l (.cells [Value.pointer (some ⟨m, 0, none⟩), .int .i64 0, .slice (some ⟨b, 0, none⟩) ((newSegs n.toNat) : List Sg).length c].toArray 47 (0, 0)) :: OwnSl 104 3 (.slice (some ⟨b, 0, none⟩) ((newSegs n.toNat)).length c) ((newSegs n.toNat)).length (((newSegs n.toNat)).flatMap Sg.cells) :: MdAt m p (newMd size n.toNat) :: PwAt p ⟨false, 0, 0⟩ :: [RO (hpOf W)]) := hw
              refine g_region ?_
              refine xV rfl rfl rfl (v_assign rfl) ?_
              refine rl_nil (g_le (xK (Fr.le_refl _)) ?_)
              refine g_seq (g_seq ?_)
              refine g_region ?_
              refine xV rfl rfl rfl (v_move rfl) ?_
              refine xV rfl rfl rfl (v_lenSlice T.sl_54_9_1 rfl) ?_
              refine xV rfl rfl rfl (v_move rfl) ?_
              refine rl_nil (g_le (xK (xK (xK (Fr.le_refl _)))) ?_)
              refine g_block ?_
              refine g_loopC (σ := Nat × Int × List Sg × Md × Pw) (fun C x => (49, .int .i64 (x.1 : Nat)) :: (10, .int .i64 (x.2.2.2.1.past.length : Nat)) :: C) [(0, _), (6, _), (7, _), (9, _), (47, _), (48, _)] (by repeat (first | exact Fr.le_nil _ | refine Fr.le_cons rfl ?_)) (fun z w => z.1 ≤ xs.length ∧ z.1 ≤ 60 ∧ LgK size z.2.1 z.2.2.1 z.2.2.2.1 z.2.2.2.2 ∧ z.2.2.1.length = n.toNat ∧ z.2.2.2.1.past.length ≤ z.1 ∧ Sat (envOf W) w (pt l (.cells [Value.pointer (some ⟨m, 0, none⟩), .int .i64 (z.2.1), .slice (some ⟨b, 0, none⟩) ((z.2.2.1) : List Sg).length c].toArray 47 (0, 0)) :: OwnSl 104 3 (.slice (some ⟨b, 0, none⟩) ((z.2.2.1)).length c) ((z.2.2.1)).length (((z.2.2.1)).flatMap Sg.cells) :: MdAt m p z.2.2.2.1 :: PwAt p z.2.2.2.2 :: [RO (hpOf W)])) (fun z => xs.length - z.1) ?_ (0, 0, newSegs n.toNat, newMd size n.toNat, ⟨false, 0, 0⟩) (by repeat (first | exact Fr.le_nil _ | refine Fr.le_cons rfl ?_)) ⟨by simp, by simp, K0, hl0, by simp [newMd], hw⟩
              clear K0 hl0 hnn
              rintro ⟨i, o, ss, md, pw⟩ w ⟨hi1, hi2, K, hsl, hpl, hw⟩ ih
              dsimp only at hi1 hi2 K hsl hpl hw ih ⊢
              refine g_seq ?_
              refine g_region ?_
              refine xV rfl rfl rfl (v_lss rfl rfl) ?_
              refine rl_nil (g_le (xK (Fr.le_refl _)) ?_)
              refine g_seq ?_
              refine g_cond rfl (fun h4 => ?_) (fun h4 => ?_)
              · try with_reducible exact ft_elim h4
                all_goals
                  try replace h4 := of_decide_eq_true h4
                  refine g_skip (g_seq (g_block (g_seq ?_)))
                  have hz := hw
                  clear hw
                  obtain ⟨b4, o1, v, ecs, rfl, hx, hat1, hl1, hq, hxr⟩ := gx (i : Nat) (by omega) (by omega)
                  subst hq
                  rw [Int.toNat_natCast] at hx hat1
                  have hw := hz
                  refine g_region ?_
                  refine xV rfl rfl rfl (v_move rfl) ?_
                  refine xV rfl rfl rfl (v_indexAddr T.sl_54_9_1 rfl rfl (by omega) (by omega)) ?_
                  refine rl_v rfl rfl rfl (by exact ro_at0 hw (by (repeat first | with_reducible exact xH | apply xT); first | done | fail) (by assumption) rfl) (v_load T.scal_9 rfl) ?_
                  refine xV rfl rfl rfl (v_assign rfl) ?_
                  refine xV rfl rfl rfl (v_assign rfl) ?_
                  refine rl_nil (g_le (xK (xK (xK (xK (xK (Fr.le_refl _)))))) ?_)
                  refine g_seq (g_seq ?_)
                  refine g_region ?_
                  refine xV rfl rfl rfl (v_move rfl) ?_
                  refine xV rfl rfl rfl (v_geq rfl rfl) ?_
                  refine rl_nil (g_le (xK (xK (Fr.le_refl _))) ?_)
                  refine g_cond rfl (fun h5 => ?_) (fun h5 => ?_)
                  · try with_reducible exact ft_elim h5
                    all_goals
                      try replace h5 := of_decide_eq_true h5
                      refine g_exit rfl (g_seq ?_)
                      refine g_region ?_
                      refine xV rfl rfl rfl (v_assign rfl) ?_
                      refine rl_nil (g_le (xK (Fr.le_refl _)) ?_)
                      refine g_ret1 Try.func5 rfl rfl ?_
                      exact ⟨rfl, hw.xQ⟩
                  · try with_reducible exact tf_elim h5
                    all_goals
                      try replace h5 := of_decide_eq_false h5
                      refine g_skip (g_seq ?_)
                      refine g_region ?_
                      refine xV rfl rfl rfl (v_move rfl) ?_
                      refine rl_k rfl (k_callf Try.func24 rfl rfl rfl rfl ?_)
                      refine Calls.mono (open_calls ⟨K.I.o0, K.I.o1⟩ (by omega) hw) ?_
                      rintro _ w ⟨rfl, hw⟩
                      refine ⟨_, rfl, ?_⟩
                      refine xV rfl rfl rfl (v_move rfl) ?_
                      refine xV rfl rfl rfl (v_extract rfl rfl) ?_
                      refine xV rfl rfl rfl (v_extract rfl rfl) ?_
                      refine xV rfl rfl rfl (v_assign rfl) ?_
                      refine xV rfl rfl rfl (v_assign rfl) ?_
                      refine rl_nil (g_le (xS rfl (xK (xK (xK (xK (xK (xK (Fr.le_refl _)))))))) ?_)
                      refine g_seq ?_
                      refine g_region ?_
                      refine xV rfl rfl rfl (v_move rfl) ?_
                      refine rl_k rfl (k_callf Try.func23 rfl rfl rfl rfl ?_)
                      refine Calls.mono (free_calls (by omega) hw) ?_
                      rw [ofS_len]
                      rintro _ w ⟨fv, rfl, hw⟩
                      obtain ⟨fa, fc, rfl, _, _, _⟩ := hw.own_shape
                      have hw := hw.drop
                      refine ⟨_, rfl, ?_⟩
                      refine xV rfl rfl rfl (v_lenSlice T.sl_61_3_1 rfl) ?_
                      refine xV rfl rfl rfl (v_assign rfl) ?_
                      refine rl_nil (g_le (xK (xK (xK (xK (Fr.le_refl _))))) ?_)
                      refine g_seq ?_
                      refine g_region ?_
                      refine xV rfl rfl rfl (v_move rfl) ?_
                      refine xV rfl rfl rfl (v_move rfl) ?_
                      refine rl_k rfl (k_callf Try.func22 rfl rfl rfl rfl ?_)
                      refine Calls.mono (append_calls v K.I.len ⟨K.I.o0, K.I.o1⟩ K.I.us K.I.pok (by omega) hw) ?_
                      have hap := app_k K v
                      generalize appL o ss md pw v = r at hap ⊢
                      rintro _ w ⟨rfl, hw⟩
                      refine ⟨_, rfl, ?_⟩
                      refine xV rfl rfl rfl (v_move rfl) ?_
                      refine xV rfl rfl rfl (v_extract rfl rfl) ?_
                      refine xV rfl rfl rfl (v_extract rfl rfl) ?_
                      refine rl_k rfl (k_alloc hw T.zero_58 rfl rfl (fun bk16_6 w hw => ?_))
                      refine rl_k rfl (k_storeWhole hw T.agg_58_3 rfl rfl (by simp [Value.oneCell']) rfl (by (repeat first | with_reducible exact xH | apply xT); first | done | fail) rfl (fun w hw => ?_))
                      refine xV rfl rfl rfl (v_assign rfl) ?_
                      refine rl_nil (g_le (xK (xK (xK (xK (xK (xK (xK (xK (Fr.le_refl _))))))))) ?_)
                      refine g_seq (g_seq ?_)
                      refine g_region ?_
                      refine xV rfl rfl rfl (v_move rfl) ?_
                      refine xV rfl rfl rfl (v_eql rfl rfl) ?_
                      refine rl_nil (g_le (xK (xK (Fr.le_refl _))) ?_)
                      refine g_cond rfl (fun h6 => ?_) (fun h6 => ?_)
                      · try with_reducible exact ft_elim h6
                        all_goals
                          try replace h6 := of_decide_eq_true h6
                          have hz := hw
                          clear hw
                          rcases hap with ⟨e, he, rfl, _⟩ | ⟨at_, hA⟩
                          · exact absurd h6 he
                          obtain ⟨ra, rb, o2, ss2, md2, pw2⟩ := r
                          obtain ⟨hb0, K2, hp2, hl2, hv2, hat2, ha2, hu2, _, _, _⟩ := hA
                          dsimp only at hb0 K2 hp2 hl2 hv2 hat2 ha2 hu2 hz ⊢
                          subst hb0
                          subst hat2
                          dsimp only at hz ⊢
                          have hw := hz
                          have hu3 := K2.I.us _ (List.mem_of_getElem? (sgAt_some K2.I.o0 K2.I.o1))
                          have hu4 := K2.I.size
                          have hp3 : ((md2.past.length : Nat) : Int) = (md.past.length : Int) + 1 := by omega
                          have hw := (hw.xQ : Sat (envOf W) _ (pt l (.cells [Value.pointer (some ⟨m, 0, none⟩), .int .i64 o2, .slice (some ⟨b, 0, none⟩) (ss2 : List Sg).length c].toArray 47 (0, 0)) :: OwnSl 104 3 (.slice (some ⟨b, 0, none⟩) (ss2).length c) (ss2).length ((ss2).flatMap Sg.cells) :: MdAt m p md2 :: PwAt p pw2 :: pt bk16_6 (.cells [Value.int .i64 o2, .int .i64 at_, .int .i64 (v.size : Nat)].toArray 58 (0, 0)) :: [RO (hpOf W)]))
                          refine g_region ?_
                          refine xV rfl rfl rfl (v_move rfl) ?_
                          refine xV rfl rfl rfl (v_add rfl rfl (by omega)) ?_
                          refine xV rfl rfl rfl (v_assign rfl) ?_
                          refine rl_nil (g_le (xK (xK (xK (Fr.le_refl _)))) ?_)
                          rw [← hp3]
                          refine g_seq ?_
                          refine g_region ?_
                          refine xV rfl rfl rfl (v_move rfl) ?_
                          refine rl_k rfl (k_callf Try.func24 rfl rfl rfl rfl ?_)
                          refine Calls.mono (open_calls ⟨K2.I.o0, K2.I.o1⟩ (by omega) hw) ?_
                          rintro _ w ⟨rfl, hw⟩
                          refine ⟨_, rfl, ?_⟩
                          refine xV rfl rfl rfl (v_move rfl) ?_
                          refine xV rfl rfl rfl (v_extract rfl rfl) ?_
                          refine xV rfl rfl rfl (v_extract rfl rfl) ?_
                          refine xV rfl rfl rfl (v_assign rfl) ?_
                          refine xV rfl rfl rfl (v_assign rfl) ?_
                          refine rl_nil (g_le (xK (xK (xK (xK (xK (xK (xK (Fr.le_refl _)))))))) ?_)
                          refine g_seq (g_seq ?_)
                          refine g_region ?_
                          refine xV rfl rfl rfl (v_move rfl) ?_
                          refine xV rfl rfl rfl (v_eqlT rfl rfl (by omega)) ?_
                          refine xV rfl rfl rfl (v_move rfl) ?_
                          refine rl_split (s := 81) rfl (fun g20_2 => ?_) (fun g20_2 => ?_)
                          · try with_reducible exact ft_elim g20_2
                            all_goals
                              try replace g20_2 := of_decide_eq_true g20_2
                              refine rl_vg (met_on rfl rfl rfl rfl) rfl rfl (S := fun _ => True) trivial (v_fieldAddr0 T.fld_58_0_0 rfl) ?_
                              refine rl_vg (met_on rfl rfl rfl rfl) rfl rfl (by exact sat_cell hw (by (repeat first | with_reducible exact xH | apply xT); first | done | fail) rfl) (v_load T.scal_3 rfl) ?_
                              refine rl_vg (met_on rfl rfl rfl rfl) rfl rfl (S := fun _ => True) trivial (v_move rfl) ?_
                              refine rl_vg (met_on rfl rfl rfl rfl) rfl rfl (S := fun _ => True) trivial (v_neqF rfl rfl (by omega)) ?_
                              refine rl_vg (met_on rfl rfl rfl rfl) rfl rfl (S := fun _ => True) trivial (v_move rfl) ?_
                              refine rl_split (s := 86) rfl (fun g20_7 => ?_) (fun g20_7 => ?_)
                              · try with_reducible exact ft_elim g20_7
                                all_goals
                                  try replace g20_7 := of_decide_eq_true g20_7
                                  simp at g20_7
                              · try with_reducible exact tf_elim g20_7
                                all_goals
                                  try replace g20_7 := of_decide_eq_false g20_7
                                  refine rl_vg (met_on rfl rfl rfl rfl) rfl rfl (S := fun _ => True) trivial (v_fieldAddr0 T.fld_58_1_1 rfl) ?_
                                  refine rl_vg (met_on rfl rfl rfl rfl) rfl rfl (by exact sat_cell hw (by (repeat first | with_reducible exact xH | apply xT); first | done | fail) rfl) (v_load T.scal_3 rfl) ?_
                                  refine rl_vg (met_on rfl rfl rfl rfl) rfl rfl (S := fun _ => True) trivial (v_fieldAddr0 T.fld_58_2_2 rfl) ?_
                                  refine rl_vg (met_on rfl rfl rfl rfl) rfl rfl (by exact sat_cell hw (by (repeat first | with_reducible exact xH | apply xT); first | done | fail) rfl) (v_load T.scal_3 rfl) ?_
                                  refine rl_vg (met_on rfl rfl rfl rfl) rfl rfl (S := fun _ => True) trivial (v_add rfl rfl (by omega)) ?_
                                  refine rl_vg (met_on rfl rfl rfl rfl) rfl rfl (S := fun _ => True) trivial (v_move rfl) ?_
                                  refine rl_vg (met_on rfl rfl rfl rfl) rfl rfl (S := fun _ => True) trivial (v_neqF rfl rfl (by omega)) ?_
                                  refine rl_vg (met_on rfl rfl rfl rfl) rfl rfl (S := fun _ => True) trivial (v_pick_false rfl rfl) ?_
                                  refine rl_vg (met_on rfl rfl rfl rfl) rfl rfl (S := fun _ => True) trivial (v_move rfl) ?_
                                  refine rl_split (s := 95) rfl (fun g20_16 => ?_) (fun g20_16 => ?_)
                                  · try with_reducible exact ft_elim g20_16
                                    all_goals
                                      try replace g20_16 := of_decide_eq_true g20_16
                                      simp at g20_16
                                  · try with_reducible exact tf_elim g20_16
                                    all_goals
                                      try replace g20_16 := of_decide_eq_false g20_16
                                      refine rl_vg (met_on rfl rfl rfl rfl) rfl rfl (S := fun _ => True) trivial (v_fieldAddr0 T.fld_58_2_2 rfl) ?_
                                      refine rl_vg (met_on rfl rfl rfl rfl) rfl rfl (by exact sat_cell hw (by (repeat first | with_reducible exact xH | apply xT); first | done | fail) rfl) (v_load T.scal_3 rfl) ?_
                                      refine rl_vg (met_on rfl rfl rfl rfl) rfl rfl (S := fun _ => True) trivial (v_move rfl) ?_
                                      refine rl_vg (met_on rfl rfl rfl rfl) rfl rfl (S := fun _ => True) trivial (v_lenStr T.str_9 rfl) ?_
                                      refine rl_vg (met_on rfl rfl rfl rfl) rfl rfl (S := fun _ => True) trivial (v_neqF rfl rfl (by omega)) ?_
                                      refine rl_vg (met_on rfl rfl rfl rfl) rfl rfl (S := fun _ => True) trivial (v_pick_false rfl rfl) ?_
                                      refine xV rfl rfl rfl (v_pick_true rfl rfl) ?_
                                      refine xV rfl rfl rfl (v_move rfl) ?_
                                      refine rl_split (s := 103) rfl (fun g20_24 => ?_) (fun g20_24 => ?_)
                                      · try with_reducible exact ft_elim g20_24
                                        all_goals
                                          try replace g20_24 := of_decide_eq_true g20_24
                                          simp at g20_24
                                      · try with_reducible exact tf_elim g20_24
                                        all_goals
                                          try replace g20_24 := of_decide_eq_false g20_24
                                          refine rl_vg (met_on rfl rfl rfl rfl) rfl rfl (S := fun _ => True) trivial (v_move rfl) ?_
                                          refine rl_vg (met_on rfl rfl rfl rfl) rfl rfl (S := fun _ => True) trivial (v_neqF rfl rfl (by omega)) ?_
                                          refine rl_vg (met_on rfl rfl rfl rfl) rfl rfl (S := fun _ => True) trivial (v_move rfl) ?_
                                          refine rl_split (s := 106) rfl (fun g20_27 => ?_) (fun g20_27 => ?_)
                                          · try with_reducible exact ft_elim g20_27
                                            all_goals
                                              try replace g20_27 := of_decide_eq_true g20_27
                                              simp at g20_27
                                          · try with_reducible exact tf_elim g20_27
                                            all_goals
                                              try replace g20_27 := of_decide_eq_false g20_27
                                              refine rl_off (met_off rfl rfl rfl rfl rfl) rfl rfl ?_
                                              refine rl_off (met_off rfl rfl rfl rfl rfl) rfl rfl ?_
                                              refine rl_off (met_off rfl rfl rfl rfl rfl) rfl rfl ?_
                                              refine rl_vg (met_on rfl rfl rfl rfl) rfl rfl (S := fun _ => True) trivial (v_pick_false rfl rfl) ?_
                                              refine xV rfl rfl rfl (v_pick_false rfl rfl) ?_
                                              refine xV rfl rfl rfl (v_move rfl) ?_
                                              refine rl_vg (met_on rfl rfl rfl rfl) rfl rfl (S := fun _ => True) trivial (v_move rfl) ?_
                                              refine rl_vg (met_on rfl rfl rfl rfl) rfl rfl (S := fun _ => True) trivial (v_eqlF rfl rfl (by omega)) ?_
                                              refine rl_vg (met_on rfl rfl rfl rfl) rfl rfl (S := fun _ => True) trivial (v_move rfl) ?_
                                              refine rl_split (s := 115) rfl (fun g20_36 => ?_) (fun g20_36 => ?_)
                                              · try with_reducible exact ft_elim g20_36
                                                all_goals
                                                  try replace g20_36 := of_decide_eq_true g20_36
                                                  simp at g20_36
                                              · try with_reducible exact tf_elim g20_36
                                                all_goals
                                                  try replace g20_36 := of_decide_eq_false g20_36
                                                  refine rl_off (met_off rfl rfl rfl rfl rfl) rfl rfl ?_
                                                  refine rl_off (met_off rfl rfl rfl rfl rfl) rfl rfl ?_
                                                  refine rl_vg (met_on rfl rfl rfl rfl) rfl rfl (S := fun _ => True) trivial (v_pick_false rfl rfl) ?_
                                                  refine xV rfl rfl rfl (v_pick_false rfl rfl) ?_
                                                  refine xV rfl rfl rfl (v_move rfl) ?_
                                                  refine rl_vg (met_on rfl rfl rfl rfl) rfl rfl (S := fun _ => True) trivial (v_move rfl) ?_
                                                  refine rl_kg (met_on rfl rfl rfl rfl) (k_callf Try.func25 rfl rfl rfl rfl ?_)
                                                  refine Calls.mono (mcount_calls m p _ (hw.xQ)) ?_
                                                  rintro _ w ⟨rfl, hw⟩
                                                  refine ⟨_, rfl, ?_⟩
                                                  refine rl_vg (met_on rfl rfl rfl rfl) rfl rfl (S := fun _ => True) trivial (v_move rfl) ?_
                                                  refine rl_vg (met_on rfl rfl rfl rfl) rfl rfl (S := fun _ => True) trivial (v_neqF rfl rfl (by omega)) ?_
                                                  refine xV rfl rfl rfl (v_pick_false rfl rfl) ?_
                                                  refine rl_nil (g_le (xK (xK (xK (xK (xK (xK (xK (xK (xK (xK (xK (xK (xK (xK (xK (xK (xK (xK (xK (xK (xK (xK (xK (xK (xK (xK (xK (xK (xK (xK (xK (xK (xK (xK (xK (xK (xK (xK (xK (xK (xK (xK (xK (xK (xK (xK (xK (xK (xK (xK (xK (xK (xK (Fr.le_refl _)))))))))))))))))))))))))))))))))))))))))))))))))))))) ?_)
                                                  refine g_cutc (σ := Int × List Sg × Md × Pw) (fun C x => (10, .int .i64 (x.2.2.1.past.length : Nat)) :: (18, .int .i64 x.1) :: C) [(0, _), (6, _), (7, _), (9, _), (11, _), (12, _), (13, _), (15, _), (16, _), (17, _), (19, _), (47, _), (48, _), (49, _), (50, _), (51, _), (52, _), (53, _), (54, _), (55, _), (56, _), (57, _), (58, _), (59, _), (60, _), (61, _), (62, _), (63, _), (64, _), (65, _), (66, _), (67, _), (68, _), (69, _), (70, _), (71, _), (72, _), (73, _), (74, _), (75, _), (76, _), (77, _), (78, _), (79, _), (80, _), (81, _), (82, _), (83, _), (84, _), (85, _), (86, _), (87, _), (88, _), (89, _), (90, _), (91, _), (92, _), (93, _), (94, _), (95, _), (96, _), (97, _), (98, _), (99, _), (100, _), (101, _), (102, _), (103, _), (104, _), (105, _), (106, _), (107, _), (108, _), (109, _), (110, _), (111, _), (112, _), (113, _), (114, _), (115, _), (116, _), (117, _), (118, _), (119, _), (120, _), (121, _), (122, _), (123, _), (124, _), (125, _)] (by repeat (first | exact Fr.le_nil _ | refine Fr.le_cons rfl ?_)) (fun z w => LgK size z.1 z.2.1 z.2.2.1 z.2.2.2 ∧ z.2.1.length = n.toNat ∧ z.2.2.1.past.length ≤ i + 1 ∧ Sat (envOf W) w (pt l (.cells [Value.pointer (some ⟨m, 0, none⟩), .int .i64 (z.1), .slice (some ⟨b, 0, none⟩) ((z.2.1) : List Sg).length c].toArray 47 (0, 0)) :: OwnSl 104 3 (.slice (some ⟨b, 0, none⟩) ((z.2.1)).length c) ((z.2.1)).length (((z.2.1)).flatMap Sg.cells) :: MdAt m p z.2.2.1 :: PwAt p z.2.2.2 :: [RO (hpOf W)])) ?_ ?_
                                                  · skip
                                                    clear hw hpl hsl K
                                                    rintro ⟨o, ss, md, pw⟩ w ⟨K, hsl, hpl, hw⟩
                                                    dsimp only at K hsl hpl hw ⊢
                                                    have hsn := settled_none ss
                                                    have hKs := settle_k (ps := []) K ⟨by simp, .nil⟩
                                                    have hcs := hKs.count
                                                    have hls := settled_len ss []
                                                    all_goals
                                                      refine g_seq ?_
                                                      refine g_region ?_
                                                      refine xV rfl rfl rfl (v_move rfl) ?_
                                                      refine xV rfl rfl rfl (v_remP rfl rfl (by omega) (by omega)) ?_
                                                      refine xV rfl rfl rfl (v_eql rfl rfl) ?_
                                                      refine rl_nil (g_le (xK (xK (xK (Fr.le_refl _)))) ?_)
                                                      refine g_cond rfl (fun h8 => ?_) (fun h8 => ?_)
                                                      · try with_reducible exact ft_elim h8
                                                        all_goals
                                                          try replace h8 := of_decide_eq_true h8
                                                          refine g_seq ?_
                                                          refine g_region ?_
                                                          refine xV rfl rfl rfl (v_move rfl) ?_
                                                          refine rl_k rfl (k_callf Try.func26 rfl rfl rfl rfl ?_)
                                                          refine Calls.mono (settle_fit (l := l) (m := m) (b := b) (c := c) (o := o) (ss := ss) (by omega) K.us' srcA_none (by simp) ⟨by simp, .nil⟩ (hw.emp.xQ)) ?_
                                                          rintro _ w ⟨rfl, hw⟩
                                                          refine ⟨_, rfl, ?_⟩
                                                          refine xV rfl rfl rfl (v_neqF rfl rfl (by omega)) ?_
                                                          refine xV rfl rfl rfl (v_move rfl) ?_
                                                          refine rl_split (s := 132) rfl (fun g23_3 => ?_) (fun g23_3 => ?_)
                                                          · try with_reducible exact ft_elim g23_3
                                                            all_goals
                                                              try replace g23_3 := of_decide_eq_true g23_3
                                                              simp at g23_3
                                                          · try with_reducible exact tf_elim g23_3
                                                            all_goals
                                                              try replace g23_3 := of_decide_eq_false g23_3
                                                              refine rl_vg (met_on rfl rfl rfl rfl) rfl rfl (S := fun _ => True) trivial (v_move rfl) ?_
                                                              refine rl_kg (met_on rfl rfl rfl rfl) (k_callf Try.func27 rfl rfl rfl rfl ?_)
                                                              refine Calls.mono (sealed_calls (l := l) (m := m) (b := b) (c := c) (o := o) (ss := settled ss []) (by omega) (hw.xQ)) ?_
                                                              rw [ofS_len, hsn]
                                                              rintro _ w ⟨sv, rfl, hw⟩
                                                              obtain ⟨sa, sc, rfl, _, _, _⟩ := hw.own_shape
                                                              have hw := hw.drop
                                                              refine ⟨_, rfl, ?_⟩
                                                              refine rl_vg (met_on rfl rfl rfl rfl) rfl rfl (S := fun _ => True) trivial (v_lenSlice T.sl_61_3_1 rfl) ?_
                                                              refine rl_vg (met_on rfl rfl rfl rfl) rfl rfl (S := fun _ => True) trivial (v_neqF rfl rfl (by omega)) ?_
                                                              refine xV rfl rfl rfl (v_pick_false rfl rfl) ?_
                                                              refine xV rfl rfl rfl (v_move rfl) ?_
                                                              refine rl_split (s := 138) rfl (fun g23_9 => ?_) (fun g23_9 => ?_)
                                                              · try with_reducible exact ft_elim g23_9
                                                                all_goals
                                                                  try replace g23_9 := of_decide_eq_true g23_9
                                                                  simp at g23_9
                                                              · try with_reducible exact tf_elim g23_9
                                                                all_goals
                                                                  try replace g23_9 := of_decide_eq_false g23_9
                                                                  refine rl_vg (met_on rfl rfl rfl rfl) rfl rfl (S := fun _ => True) trivial (v_move rfl) ?_
                                                                  refine rl_kg (met_on rfl rfl rfl rfl) (k_callf Try.func23 rfl rfl rfl rfl ?_)
                                                                  refine Calls.mono (free_calls (l := l) (m := m) (b := b) (c := c) (o := o) (ss := settled ss []) (by omega) (hw.xQ)) ?_
                                                                  rw [ofS_len]
                                                                  rintro _ w ⟨fv, rfl, hw⟩
                                                                  obtain ⟨fa, fc, rfl, _, _, _⟩ := hw.own_shape
                                                                  have hw := hw.drop
                                                                  refine ⟨_, rfl, ?_⟩
                                                                  refine rl_vg (met_on rfl rfl rfl rfl) rfl rfl (S := fun _ => True) trivial (v_lenSlice T.sl_61_3_1 rfl) ?_
                                                                  refine rl_vg (met_on rfl rfl rfl rfl) rfl rfl (S := fun _ => True) trivial (v_move rfl) ?_
                                                                  refine rl_vg (met_on rfl rfl rfl rfl) rfl rfl (S := fun _ => True) trivial (v_sub rfl rfl (by omega)) ?_
                                                                  refine rl_vg (met_on rfl rfl rfl rfl) rfl rfl (S := fun _ => True) trivial (v_neqF rfl rfl (by omega)) ?_
                                                                  refine xV rfl rfl rfl (v_pick_false rfl rfl) ?_
                                                                  refine xV rfl rfl rfl (v_move rfl) ?_
                                                                  refine rl_split (s := 146) rfl (fun g23_17 => ?_) (fun g23_17 => ?_)
                                                                  · try with_reducible exact ft_elim g23_17
                                                                    all_goals
                                                                      try replace g23_17 := of_decide_eq_true g23_17
                                                                      simp at g23_17
                                                                  · try with_reducible exact tf_elim g23_17
                                                                    all_goals
                                                                      try replace g23_17 := of_decide_eq_false g23_17
                                                                      refine rl_vg (met_on rfl rfl rfl rfl) rfl rfl (S := fun _ => True) trivial (v_move rfl) ?_
                                                                      refine rl_vg (met_on rfl rfl rfl rfl) rfl rfl (S := fun _ => True) trivial (v_move rfl) ?_
                                                                      refine rl_kg (met_on rfl rfl rfl rfl) (k_callf Try.func28 rfl rfl rfl rfl ?_)
                                                                      refine Calls.mono (kind_calls (l := l) (m := m) (b := b) (c := c) (o := o) (ss := settled ss []) _ ⟨K.I.o0, by rw [hls]; exact K.I.o1⟩ (by omega) (hw.xQ)) ?_
                                                                      rw [hKs.I.ob]
                                                                      rintro _ w ⟨rfl, hw⟩
                                                                      refine ⟨_, rfl, ?_⟩
                                                                      refine rl_vg (met_on rfl rfl rfl rfl) rfl rfl (S := fun _ => True) trivial (v_neqF rfl rfl (by omega)) ?_
                                                                      refine xV rfl rfl rfl (v_pick_false rfl rfl) ?_
                                                                      refine rl_nil (g_le (xK (xK (xK (xK (xK (xK (xK (xK (xK (xK (xK (xK (xK (xK (xK (xK (xK (xK (xK (xK (xK (xK (xK (xK (xK (xK (Fr.le_refl _))))))))))))))))))))))))))) ?_)
                                                                      refine g_cond_false rfl ?_
                                                                      refine g_skip (g_inBlock ?_)
                                                                      refine g_region ?_
                                                                      refine xV rfl rfl rfl (v_add rfl rfl (by omega)) ?_
                                                                      refine xV rfl rfl rfl (v_move rfl) ?_
                                                                      refine rl_nil (g_le (xK (xK (Fr.le_refl _))) ?_)
                                                                      exact g_le (by repeat (first | exact Fr.le_nil _ | refine Fr.le_cons rfl ?_)) (ih (i + 1, o, settled ss [], md, pw) w ⟨by simp only; omega, by simp only; omega, hKs, by simp only; omega, by simp only; omega, hw.xQ⟩ (by simp only; omega))
                                                      · try with_reducible exact tf_elim h8
                                                        all_goals
                                                          try replace h8 := of_decide_eq_false h8
                                                          refine g_skip (g_inBlock ?_)
                                                          refine g_region ?_
                                                          refine xV rfl rfl rfl (v_add rfl rfl (by omega)) ?_
                                                          refine xV rfl rfl rfl (v_move rfl) ?_
                                                          refine rl_nil (g_le (xK (xK (Fr.le_refl _))) ?_)
                                                          exact g_le (by repeat (first | exact Fr.le_nil _ | refine Fr.le_cons rfl ?_)) (ih (i + 1, o, ss, md, pw) w ⟨by simp only; omega, by simp only; omega, K, hsl, by simp only; omega, hw.xQ⟩ (by simp only; omega))
                                                  · intro joinc7
                                                    refine g_cond_false rfl ?_
                                                    refine g_skip ?_
                                                    exact joinc7 (o2, ss2, md2, pw2) _ _ (by repeat (first | exact Fr.le_nil _ | refine Fr.le_cons rfl ?_)) ⟨K2, by simp only; omega, by simp only; omega, hw.xQ⟩
                          · try with_reducible exact tf_elim g20_2
                            all_goals
                              try replace g20_2 := of_decide_eq_false g20_2
                              simp at g20_2
                      · try with_reducible exact tf_elim h6
                        all_goals
                          try replace h6 := of_decide_eq_false h6
                          have hz := hw
                          clear hw
                          rcases hap with ⟨e, he, rfl, hfr⟩ | ⟨at_, hA⟩
                          rotate_left
                          · exact absurd hA.bad h6
                          dsimp only at hz ⊢
                          have hw := hz
                          unfold frees at hfr
                          have K2 := K
                          have hl2 : ss.length = ss.length := rfl
                          have hw := (hw.xQ : Sat (envOf W) _ (pt l (.cells [Value.pointer (some ⟨m, 0, none⟩), .int .i64 o, .slice (some ⟨b, 0, none⟩) (ss : List Sg).length c].toArray 47 (0, 0)) :: OwnSl 104 3 (.slice (some ⟨b, 0, none⟩) (ss).length c) (ss).length ((ss).flatMap Sg.cells) :: MdAt m p md :: PwAt p pw :: pt bk16_6 (.cells [Value.int .i64 0, .int .i64 0, .int .i64 0].toArray 58 (0, 0)) :: [RO (hpOf W)]))
                          refine g_skip (g_seq ?_)
                          refine g_region ?_
                          refine xV rfl rfl rfl (v_move rfl) ?_
                          refine rl_k rfl (k_callf Try.func24 rfl rfl rfl rfl ?_)
                          refine Calls.mono (open_calls ⟨K2.I.o0, K2.I.o1⟩ (by omega) hw) ?_
                          rintro _ w ⟨rfl, hw⟩
                          refine ⟨_, rfl, ?_⟩
                          refine xV rfl rfl rfl (v_move rfl) ?_
                          refine xV rfl rfl rfl (v_extract rfl rfl) ?_
                          refine xV rfl rfl rfl (v_extract rfl rfl) ?_
                          refine xV rfl rfl rfl (v_assign rfl) ?_
                          refine xV rfl rfl rfl (v_assign rfl) ?_
                          refine rl_nil (g_le (xK (xK (xK (xK (xK (xK (xK (Fr.le_refl _)))))))) ?_)
                          refine g_seq (g_seq ?_)
                          refine g_region ?_
                          refine xV rfl rfl rfl (v_move rfl) ?_
                          refine xV rfl rfl rfl (v_eqlF rfl rfl (by omega)) ?_
                          refine xV rfl rfl rfl (v_move rfl) ?_
                          refine rl_split (s := 81) rfl (fun g20_2 => ?_) (fun g20_2 => ?_)
                          · try with_reducible exact ft_elim g20_2
                            all_goals
                              try replace g20_2 := of_decide_eq_true g20_2
                              simp at g20_2
                          · try with_reducible exact tf_elim g20_2
                            all_goals
                              try replace g20_2 := of_decide_eq_false g20_2
                              refine rl_off (met_off rfl rfl rfl rfl rfl) rfl rfl ?_
                              refine rl_off (met_off rfl rfl rfl rfl rfl) rfl rfl ?_
                              refine rl_off (met_off rfl rfl rfl rfl rfl) rfl rfl ?_
                              refine rl_off (met_off rfl rfl rfl rfl rfl) rfl rfl ?_
                              refine rl_off (met_off rfl rfl rfl rfl rfl) rfl rfl ?_
                              refine rl_off (met_gone rfl rfl rfl rfl) rfl rfl ?_
                              refine rl_off (met_gone rfl rfl rfl rfl) rfl rfl ?_
                              refine rl_off (met_gone rfl rfl rfl rfl) rfl rfl ?_
                              refine rl_off (met_gone rfl rfl rfl rfl) rfl rfl ?_
                              refine rl_off (met_gone rfl rfl rfl rfl) rfl rfl ?_
                              refine rl_off (met_gone rfl rfl rfl rfl) rfl rfl ?_
                              refine rl_off (met_gone rfl rfl rfl rfl) rfl rfl ?_
                              refine rl_off (met_off rfl rfl rfl rfl rfl) rfl rfl ?_
                              refine rl_off (met_off rfl rfl rfl rfl rfl) rfl rfl ?_
                              refine rl_off (met_gone rfl rfl rfl rfl) rfl rfl ?_
                              refine rl_off (met_gone rfl rfl rfl rfl) rfl rfl ?_
                              refine rl_off (met_gone rfl rfl rfl rfl) rfl rfl ?_
                              refine rl_off (met_gone rfl rfl rfl rfl) rfl rfl ?_
                              refine rl_off (met_gone rfl rfl rfl rfl) rfl rfl ?_
                              refine rl_off (met_off rfl rfl rfl rfl rfl) rfl rfl ?_
                              refine xV rfl rfl rfl (v_pick_false rfl rfl) ?_
                              refine xV rfl rfl rfl (v_move rfl) ?_
                              refine rl_vg (met_on rfl rfl rfl rfl) rfl rfl (S := fun _ => True) trivial (v_move rfl) ?_
                              refine rl_vg (met_on rfl rfl rfl rfl) rfl rfl (S := fun _ => True) trivial (v_neqT rfl rfl (by omega)) ?_
                              refine rl_vg (met_on rfl rfl rfl rfl) rfl rfl (S := fun _ => True) trivial (v_move rfl) ?_
                              refine rl_split (s := 106) rfl (fun g20_27 => ?_) (fun g20_27 => ?_)
                              · try with_reducible exact ft_elim g20_27
                                all_goals
                                  try replace g20_27 := of_decide_eq_true g20_27
                                  refine rl_vg (met_on rfl rfl rfl rfl) rfl rfl (S := fun _ => True) trivial (v_move rfl) ?_
                                  refine rl_vg (met_on rfl rfl rfl rfl) rfl rfl (S := fun _ => True) trivial (v_move rfl) ?_
                                  refine rl_vg (met_on rfl rfl rfl rfl) rfl rfl (S := fun _ => True) trivial (v_neqF rfl rfl (by omega)) ?_
                                  refine rl_vg (met_on rfl rfl rfl rfl) rfl rfl (S := fun _ => True) trivial (v_pick_true rfl rfl) ?_
                                  refine xV rfl rfl rfl (v_pick_false rfl rfl) ?_
                                  refine xV rfl rfl rfl (v_move rfl) ?_
                                  refine rl_split (s := 112) rfl (fun g20_33 => ?_) (fun g20_33 => ?_)
                                  · try with_reducible exact ft_elim g20_33
                                    all_goals
                                      try replace g20_33 := of_decide_eq_true g20_33
                                      simp at g20_33
                                  · try with_reducible exact tf_elim g20_33
                                    all_goals
                                      try replace g20_33 := of_decide_eq_false g20_33
                                      refine rl_vg (met_on rfl rfl rfl rfl) rfl rfl (S := fun _ => True) trivial (v_move rfl) ?_
                                      refine rl_vg (met_on rfl rfl rfl rfl) rfl rfl (S := fun _ => True) trivial (v_eql rfl rfl) ?_
                                      refine rl_vg (met_on rfl rfl rfl rfl) rfl rfl (S := fun _ => True) trivial (v_move rfl) ?_
                                      refine rl_split (s := 115) rfl (fun g20_36 => ?_) (fun g20_36 => ?_)
                                      · try with_reducible exact ft_elim g20_36
                                        all_goals
                                          try replace g20_36 := of_decide_eq_true g20_36
                                          refine rl_vg (met_on rfl rfl rfl rfl) rfl rfl (S := fun _ => True) trivial (v_move rfl) ?_
                                          refine rl_vg (met_on rfl rfl rfl rfl) rfl rfl (S := fun _ => True) trivial (v_neqF rfl rfl (by omega)) ?_
                                          refine rl_vg (met_on rfl rfl rfl rfl) rfl rfl (S := fun _ => True) trivial (v_pick_true rfl rfl) ?_
                                          refine xV rfl rfl rfl (v_pick_false rfl rfl) ?_
                                          refine xV rfl rfl rfl (v_move rfl) ?_
                                          refine rl_split (s := 120) rfl (fun g20_41 => ?_) (fun g20_41 => ?_)
                                          · try with_reducible exact ft_elim g20_41
                                            all_goals
                                              try replace g20_41 := of_decide_eq_true g20_41
                                              simp at g20_41
                                          · try with_reducible exact tf_elim g20_41
                                            all_goals
                                              try replace g20_41 := of_decide_eq_false g20_41
                                              refine rl_vg (met_on rfl rfl rfl rfl) rfl rfl (S := fun _ => True) trivial (v_move rfl) ?_
                                              refine rl_kg (met_on rfl rfl rfl rfl) (k_callf Try.func25 rfl rfl rfl rfl ?_)
                                              refine Calls.mono (mcount_calls m p _ (hw.xQ)) ?_
                                              rintro _ w ⟨rfl, hw⟩
                                              refine ⟨_, rfl, ?_⟩
                                              refine rl_vg (met_on rfl rfl rfl rfl) rfl rfl (S := fun _ => True) trivial (v_move rfl) ?_
                                              refine rl_vg (met_on rfl rfl rfl rfl) rfl rfl (S := fun _ => True) trivial (v_neqF rfl rfl (by omega)) ?_
                                              refine xV rfl rfl rfl (v_pick_false rfl rfl) ?_
                                              refine rl_nil (g_le (xK (xK (xK (xK (xK (xK (xK (xK (xK (xK (xK (xK (xK (xK (xK (xK (xK (xK (xK (xK (xK (xK (xK (xK (xK (xK (xK (xK (xK (xK (xK (xK (xK (xK (xK (xK (xK (xK (xK (xK (xK (xK (xK (xK (xK (xK (xK (xK (xK (xK (xK (xK (Fr.le_refl _))))))))))))))))))))))))))))))))))))))))))))))))))))) ?_)
                                              refine g_cutc (σ := Int × List Sg × Md × Pw) (fun C x => (10, .int .i64 (x.2.2.1.past.length : Nat)) :: (18, .int .i64 x.1) :: C) [(0, _), (6, _), (7, _), (9, _), (11, _), (12, _), (13, _), (15, _), (16, _), (17, _), (19, _), (47, _), (48, _), (49, _), (50, _), (51, _), (52, _), (53, _), (54, _), (55, _), (56, _), (57, _), (58, _), (59, _), (60, _), (61, _), (62, _), (63, _), (64, _), (65, _), (66, _), (67, _), (68, _), (69, _), (70, _), (71, _), (74, _), (75, _), (76, _), (77, _), (78, _), (79, _), (80, _), (81, _), (82, _), (83, _), (84, _), (85, _), (86, _), (87, _), (88, _), (89, _), (90, _), (91, _), (92, _), (93, _), (94, _), (95, _), (96, _), (97, _), (98, _), (99, _), (100, _), (101, _), (102, _), (103, _), (104, _), (105, _), (106, _), (107, _), (108, _), (109, _), (110, _), (111, _), (112, _), (113, _), (114, _), (115, _), (116, _), (117, _), (118, _), (119, _), (120, _), (121, _), (122, _), (123, _), (124, _), (125, _)] (by repeat (first | exact Fr.le_nil _ | refine Fr.le_cons rfl ?_)) (fun z w => LgK size z.1 z.2.1 z.2.2.1 z.2.2.2 ∧ z.2.1.length = n.toNat ∧ z.2.2.1.past.length ≤ i + 1 ∧ Sat (envOf W) w (pt l (.cells [Value.pointer (some ⟨m, 0, none⟩), .int .i64 (z.1), .slice (some ⟨b, 0, none⟩) ((z.2.1) : List Sg).length c].toArray 47 (0, 0)) :: OwnSl 104 3 (.slice (some ⟨b, 0, none⟩) ((z.2.1)).length c) ((z.2.1)).length (((z.2.1)).flatMap Sg.cells) :: MdAt m p z.2.2.1 :: PwAt p z.2.2.2 :: [RO (hpOf W)])) ?_ ?_
                                              · skip
                                                clear hw hpl hsl K
                                                rintro ⟨o, ss, md, pw⟩ w ⟨K, hsl, hpl, hw⟩
                                                dsimp only at K hsl hpl hw ⊢
                                                have hsn := settled_none ss
                                                have hKs := settle_k (ps := []) K ⟨by simp, .nil⟩
                                                have hcs := hKs.count
                                                have hls := settled_len ss []
                                                all_goals
                                                  refine g_seq ?_
                                                  refine g_region ?_
                                                  refine xV rfl rfl rfl (v_move rfl) ?_
                                                  refine xV rfl rfl rfl (v_remP rfl rfl (by omega) (by omega)) ?_
                                                  refine xV rfl rfl rfl (v_eql rfl rfl) ?_
                                                  refine rl_nil (g_le (xK (xK (xK (Fr.le_refl _)))) ?_)
                                                  refine g_cond rfl (fun h8 => ?_) (fun h8 => ?_)
                                                  · try with_reducible exact ft_elim h8
                                                    all_goals
                                                      try replace h8 := of_decide_eq_true h8
                                                      refine g_seq ?_
                                                      refine g_region ?_
                                                      refine xV rfl rfl rfl (v_move rfl) ?_
                                                      refine rl_k rfl (k_callf Try.func26 rfl rfl rfl rfl ?_)
                                                      refine Calls.mono (settle_fit (l := l) (m := m) (b := b) (c := c) (o := o) (ss := ss) (by omega) K.us' srcA_none (by simp) ⟨by simp, .nil⟩ (hw.emp.xQ)) ?_
                                                      rintro _ w ⟨rfl, hw⟩
                                                      refine ⟨_, rfl, ?_⟩
                                                      refine xV rfl rfl rfl (v_neqF rfl rfl (by omega)) ?_
                                                      refine xV rfl rfl rfl (v_move rfl) ?_
                                                      refine rl_split (s := 132) rfl (fun g23_3 => ?_) (fun g23_3 => ?_)
                                                      · try with_reducible exact ft_elim g23_3
                                                        all_goals
                                                          try replace g23_3 := of_decide_eq_true g23_3
                                                          simp at g23_3
                                                      · try with_reducible exact tf_elim g23_3
                                                        all_goals
                                                          try replace g23_3 := of_decide_eq_false g23_3
                                                          refine rl_vg (met_on rfl rfl rfl rfl) rfl rfl (S := fun _ => True) trivial (v_move rfl) ?_
                                                          refine rl_kg (met_on rfl rfl rfl rfl) (k_callf Try.func27 rfl rfl rfl rfl ?_)
                                                          refine Calls.mono (sealed_calls (l := l) (m := m) (b := b) (c := c) (o := o) (ss := settled ss []) (by omega) (hw.xQ)) ?_
                                                          rw [ofS_len, hsn]
                                                          rintro _ w ⟨sv, rfl, hw⟩
                                                          obtain ⟨sa, sc, rfl, _, _, _⟩ := hw.own_shape
                                                          have hw := hw.drop
                                                          refine ⟨_, rfl, ?_⟩
                                                          refine rl_vg (met_on rfl rfl rfl rfl) rfl rfl (S := fun _ => True) trivial (v_lenSlice T.sl_61_3_1 rfl) ?_
                                                          refine rl_vg (met_on rfl rfl rfl rfl) rfl rfl (S := fun _ => True) trivial (v_neqF rfl rfl (by omega)) ?_
                                                          refine xV rfl rfl rfl (v_pick_false rfl rfl) ?_
                                                          refine xV rfl rfl rfl (v_move rfl) ?_
                                                          refine rl_split (s := 138) rfl (fun g23_9 => ?_) (fun g23_9 => ?_)
                                                          · try with_reducible exact ft_elim g23_9
                                                            all_goals
                                                              try replace g23_9 := of_decide_eq_true g23_9
                                                              simp at g23_9
                                                          · try with_reducible exact tf_elim g23_9
                                                            all_goals
                                                              try replace g23_9 := of_decide_eq_false g23_9
                                                              refine rl_vg (met_on rfl rfl rfl rfl) rfl rfl (S := fun _ => True) trivial (v_move rfl) ?_
                                                              refine rl_kg (met_on rfl rfl rfl rfl) (k_callf Try.func23 rfl rfl rfl rfl ?_)
                                                              refine Calls.mono (free_calls (l := l) (m := m) (b := b) (c := c) (o := o) (ss := settled ss []) (by omega) (hw.xQ)) ?_
                                                              rw [ofS_len]
                                                              rintro _ w ⟨fv, rfl, hw⟩
                                                              obtain ⟨fa, fc, rfl, _, _, _⟩ := hw.own_shape
                                                              have hw := hw.drop
                                                              refine ⟨_, rfl, ?_⟩
                                                              refine rl_vg (met_on rfl rfl rfl rfl) rfl rfl (S := fun _ => True) trivial (v_lenSlice T.sl_61_3_1 rfl) ?_
                                                              refine rl_vg (met_on rfl rfl rfl rfl) rfl rfl (S := fun _ => True) trivial (v_move rfl) ?_
                                                              refine rl_vg (met_on rfl rfl rfl rfl) rfl rfl (S := fun _ => True) trivial (v_sub rfl rfl (by omega)) ?_
                                                              refine rl_vg (met_on rfl rfl rfl rfl) rfl rfl (S := fun _ => True) trivial (v_neqF rfl rfl (by omega)) ?_
                                                              refine xV rfl rfl rfl (v_pick_false rfl rfl) ?_
                                                              refine xV rfl rfl rfl (v_move rfl) ?_
                                                              refine rl_split (s := 146) rfl (fun g23_17 => ?_) (fun g23_17 => ?_)
                                                              · try with_reducible exact ft_elim g23_17
                                                                all_goals
                                                                  try replace g23_17 := of_decide_eq_true g23_17
                                                                  simp at g23_17
                                                              · try with_reducible exact tf_elim g23_17
                                                                all_goals
                                                                  try replace g23_17 := of_decide_eq_false g23_17
                                                                  refine rl_vg (met_on rfl rfl rfl rfl) rfl rfl (S := fun _ => True) trivial (v_move rfl) ?_
                                                                  refine rl_vg (met_on rfl rfl rfl rfl) rfl rfl (S := fun _ => True) trivial (v_move rfl) ?_
                                                                  refine rl_kg (met_on rfl rfl rfl rfl) (k_callf Try.func28 rfl rfl rfl rfl ?_)
                                                                  refine Calls.mono (kind_calls (l := l) (m := m) (b := b) (c := c) (o := o) (ss := settled ss []) _ ⟨K.I.o0, by rw [hls]; exact K.I.o1⟩ (by omega) (hw.xQ)) ?_
                                                                  rw [hKs.I.ob]
                                                                  rintro _ w ⟨rfl, hw⟩
                                                                  refine ⟨_, rfl, ?_⟩
                                                                  refine rl_vg (met_on rfl rfl rfl rfl) rfl rfl (S := fun _ => True) trivial (v_neqF rfl rfl (by omega)) ?_
                                                                  refine xV rfl rfl rfl (v_pick_false rfl rfl) ?_
                                                                  refine rl_nil (g_le (xK (xK (xK (xK (xK (xK (xK (xK (xK (xK (xK (xK (xK (xK (xK (xK (xK (xK (xK (xK (xK (xK (xK (xK (xK (xK (Fr.le_refl _))))))))))))))))))))))))))) ?_)
                                                                  refine g_cond_false rfl ?_
                                                                  refine g_skip (g_inBlock ?_)
                                                                  refine g_region ?_
                                                                  refine xV rfl rfl rfl (v_add rfl rfl (by omega)) ?_
                                                                  refine xV rfl rfl rfl (v_move rfl) ?_
                                                                  refine rl_nil (g_le (xK (xK (Fr.le_refl _))) ?_)
                                                                  exact g_le (by repeat (first | exact Fr.le_nil _ | refine Fr.le_cons rfl ?_)) (ih (i + 1, o, settled ss [], md, pw) w ⟨by simp only; omega, by simp only; omega, hKs, by simp only; omega, by simp only; omega, hw.xQ⟩ (by simp only; omega))
                                                  · try with_reducible exact tf_elim h8
                                                    all_goals
                                                      try replace h8 := of_decide_eq_false h8
                                                      refine g_skip (g_inBlock ?_)
                                                      refine g_region ?_
                                                      refine xV rfl rfl rfl (v_add rfl rfl (by omega)) ?_
                                                      refine xV rfl rfl rfl (v_move rfl) ?_
                                                      refine rl_nil (g_le (xK (xK (Fr.le_refl _))) ?_)
                                                      exact g_le (by repeat (first | exact Fr.le_nil _ | refine Fr.le_cons rfl ?_)) (ih (i + 1, o, ss, md, pw) w ⟨by simp only; omega, by simp only; omega, K, hsl, by simp only; omega, hw.xQ⟩ (by simp only; omega))
                                              · intro joinc7
                                                refine g_cond_false rfl ?_
                                                refine g_skip ?_
                                                exact joinc7 (o, ss, md, pw) _ _ (by repeat (first | exact Fr.le_nil _ | refine Fr.le_cons rfl ?_)) ⟨K, hsl, by simp only; omega, hw.xQ⟩
                                      · try with_reducible exact tf_elim g20_36
                                        all_goals
                                          try replace g20_36 := of_decide_eq_false g20_36
                                          refine rl_off (met_off rfl rfl rfl rfl rfl) rfl rfl ?_
                                          refine rl_off (met_off rfl rfl rfl rfl rfl) rfl rfl ?_
                                          refine rl_vg (met_on rfl rfl rfl rfl) rfl rfl (S := fun _ => True) trivial (v_pick_false rfl rfl) ?_
                                          refine xV rfl rfl rfl (v_pick_false rfl rfl) ?_
                                          refine xV rfl rfl rfl (v_move rfl) ?_
                                          refine rl_vg (met_on rfl rfl rfl rfl) rfl rfl (S := fun _ => True) trivial (v_move rfl) ?_
                                          refine rl_kg (met_on rfl rfl rfl rfl) (k_callf Try.func25 rfl rfl rfl rfl ?_)
                                          refine Calls.mono (mcount_calls m p _ (hw.xQ)) ?_
                                          rintro _ w ⟨rfl, hw⟩
                                          refine ⟨_, rfl, ?_⟩
                                          refine rl_vg (met_on rfl rfl rfl rfl) rfl rfl (S := fun _ => True) trivial (v_move rfl) ?_
                                          refine rl_vg (met_on rfl rfl rfl rfl) rfl rfl (S := fun _ => True) trivial (v_neqF rfl rfl (by omega)) ?_
                                          refine xV rfl rfl rfl (v_pick_false rfl rfl) ?_
                                          refine rl_nil (g_le (xK (xK (xK (xK (xK (xK (xK (xK (xK (xK (xK (xK (xK (xK (xK (xK (xK (xK (xK (xK (xK (xK (xK (xK (xK (xK (xK (xK (xK (xK (xK (xK (xK (xK (xK (xK (xK (xK (xK (xK (xK (xK (xK (xK (xK (xK (xK (xK (xK (xK (xK (Fr.le_refl _)))))))))))))))))))))))))))))))))))))))))))))))))))) ?_)
                                          refine g_cutc (σ := Int × List Sg × Md × Pw) (fun C x => (10, .int .i64 (x.2.2.1.past.length : Nat)) :: (18, .int .i64 x.1) :: C) [(0, _), (6, _), (7, _), (9, _), (11, _), (12, _), (13, _), (15, _), (16, _), (17, _), (19, _), (47, _), (48, _), (49, _), (50, _), (51, _), (52, _), (53, _), (54, _), (55, _), (56, _), (57, _), (58, _), (59, _), (60, _), (61, _), (62, _), (63, _), (64, _), (65, _), (66, _), (67, _), (68, _), (69, _), (70, _), (71, _), (74, _), (75, _), (76, _), (77, _), (78, _), (79, _), (80, _), (81, _), (82, _), (83, _), (84, _), (85, _), (86, _), (87, _), (88, _), (89, _), (90, _), (91, _), (92, _), (93, _), (94, _), (95, _), (96, _), (97, _), (98, _), (99, _), (100, _), (101, _), (102, _), (103, _), (104, _), (105, _), (106, _), (107, _), (108, _), (109, _), (110, _), (111, _), (112, _), (113, _), (114, _), (115, _), (116, _), (117, _), (118, _), (119, _), (120, _), (121, _), (122, _), (123, _), (124, _), (125, _)] (by repeat (first | exact Fr.le_nil _ | refine Fr.le_cons rfl ?_)) (fun z w => LgK size z.1 z.2.1 z.2.2.1 z.2.2.2 ∧ z.2.1.length = n.toNat ∧ z.2.2.1.past.length ≤ i + 1 ∧ Sat (envOf W) w (pt l (.cells [Value.pointer (some ⟨m, 0, none⟩), .int .i64 (z.1), .slice (some ⟨b, 0, none⟩) ((z.2.1) : List Sg).length c].toArray 47 (0, 0)) :: OwnSl 104 3 (.slice (some ⟨b, 0, none⟩) ((z.2.1)).length c) ((z.2.1)).length (((z.2.1)).flatMap Sg.cells) :: MdAt m p z.2.2.1 :: PwAt p z.2.2.2 :: [RO (hpOf W)])) ?_ ?_
                                          · skip
                                            clear hw hpl hsl K
                                            rintro ⟨o, ss, md, pw⟩ w ⟨K, hsl, hpl, hw⟩
                                            dsimp only at K hsl hpl hw ⊢
                                            have hsn := settled_none ss
                                            have hKs := settle_k (ps := []) K ⟨by simp, .nil⟩
                                            have hcs := hKs.count
                                            have hls := settled_len ss []
                                            all_goals
                                              refine g_seq ?_
                                              refine g_region ?_
                                              refine xV rfl rfl rfl (v_move rfl) ?_
                                              refine xV rfl rfl rfl (v_remP rfl rfl (by omega) (by omega)) ?_
                                              refine xV rfl rfl rfl (v_eql rfl rfl) ?_
                                              refine rl_nil (g_le (xK (xK (xK (Fr.le_refl _)))) ?_)
                                              refine g_cond rfl (fun h8 => ?_) (fun h8 => ?_)
                                              · try with_reducible exact ft_elim h8
                                                all_goals
                                                  try replace h8 := of_decide_eq_true h8
                                                  refine g_seq ?_
                                                  refine g_region ?_
                                                  refine xV rfl rfl rfl (v_move rfl) ?_
                                                  refine rl_k rfl (k_callf Try.func26 rfl rfl rfl rfl ?_)
                                                  refine Calls.mono (settle_fit (l := l) (m := m) (b := b) (c := c) (o := o) (ss := ss) (by omega) K.us' srcA_none (by simp) ⟨by simp, .nil⟩ (hw.emp.xQ)) ?_
                                                  rintro _ w ⟨rfl, hw⟩
                                                  refine ⟨_, rfl, ?_⟩
                                                  refine xV rfl rfl rfl (v_neqF rfl rfl (by omega)) ?_
                                                  refine xV rfl rfl rfl (v_move rfl) ?_
                                                  refine rl_split (s := 132) rfl (fun g23_3 => ?_) (fun g23_3 => ?_)
                                                  · try with_reducible exact ft_elim g23_3
                                                    all_goals
                                                      try replace g23_3 := of_decide_eq_true g23_3
                                                      simp at g23_3
                                                  · try with_reducible exact tf_elim g23_3
                                                    all_goals
                                                      try replace g23_3 := of_decide_eq_false g23_3
                                                      refine rl_vg (met_on rfl rfl rfl rfl) rfl rfl (S := fun _ => True) trivial (v_move rfl) ?_
                                                      refine rl_kg (met_on rfl rfl rfl rfl) (k_callf Try.func27 rfl rfl rfl rfl ?_)
                                                      refine Calls.mono (sealed_calls (l := l) (m := m) (b := b) (c := c) (o := o) (ss := settled ss []) (by omega) (hw.xQ)) ?_
                                                      rw [ofS_len, hsn]
                                                      rintro _ w ⟨sv, rfl, hw⟩
                                                      obtain ⟨sa, sc, rfl, _, _, _⟩ := hw.own_shape
                                                      have hw := hw.drop
                                                      refine ⟨_, rfl, ?_⟩
                                                      refine rl_vg (met_on rfl rfl rfl rfl) rfl rfl (S := fun _ => True) trivial (v_lenSlice T.sl_61_3_1 rfl) ?_
                                                      refine rl_vg (met_on rfl rfl rfl rfl) rfl rfl (S := fun _ => True) trivial (v_neqF rfl rfl (by omega)) ?_
                                                      refine xV rfl rfl rfl (v_pick_false rfl rfl) ?_
                                                      refine xV rfl rfl rfl (v_move rfl) ?_
                                                      refine rl_split (s := 138) rfl (fun g23_9 => ?_) (fun g23_9 => ?_)
                                                      · try with_reducible exact ft_elim g23_9
                                                        all_goals
                                                          try replace g23_9 := of_decide_eq_true g23_9
                                                          simp at g23_9
                                                      · try with_reducible exact tf_elim g23_9
                                                        all_goals
                                                          try replace g23_9 := of_decide_eq_false g23_9
                                                          refine rl_vg (met_on rfl rfl rfl rfl) rfl rfl (S := fun _ => True) trivial (v_move rfl) ?_
                                                          refine rl_kg (met_on rfl rfl rfl rfl) (k_callf Try.func23 rfl rfl rfl rfl ?_)
                                                          refine Calls.mono (free_calls (l := l) (m := m) (b := b) (c := c) (o := o) (ss := settled ss []) (by omega) (hw.xQ)) ?_
                                                          rw [ofS_len]
                                                          rintro _ w ⟨fv, rfl, hw⟩
                                                          obtain ⟨fa, fc, rfl, _, _, _⟩ := hw.own_shape
                                                          have hw := hw.drop
                                                          refine ⟨_, rfl, ?_⟩
                                                          refine rl_vg (met_on rfl rfl rfl rfl) rfl rfl (S := fun _ => True) trivial (v_lenSlice T.sl_61_3_1 rfl) ?_
                                                          refine rl_vg (met_on rfl rfl rfl rfl) rfl rfl (S := fun _ => True) trivial (v_move rfl) ?_
                                                          refine rl_vg (met_on rfl rfl rfl rfl) rfl rfl (S := fun _ => True) trivial (v_sub rfl rfl (by omega)) ?_
                                                          refine rl_vg (met_on rfl rfl rfl rfl) rfl rfl (S := fun _ => True) trivial (v_neqF rfl rfl (by omega)) ?_
                                                          refine xV rfl rfl rfl (v_pick_false rfl rfl) ?_
                                                          refine xV rfl rfl rfl (v_move rfl) ?_
                                                          refine rl_split (s := 146) rfl (fun g23_17 => ?_) (fun g23_17 => ?_)
                                                          · try with_reducible exact ft_elim g23_17
                                                            all_goals
                                                              try replace g23_17 := of_decide_eq_true g23_17
                                                              simp at g23_17
                                                          · try with_reducible exact tf_elim g23_17
                                                            all_goals
                                                              try replace g23_17 := of_decide_eq_false g23_17
                                                              refine rl_vg (met_on rfl rfl rfl rfl) rfl rfl (S := fun _ => True) trivial (v_move rfl) ?_
                                                              refine rl_vg (met_on rfl rfl rfl rfl) rfl rfl (S := fun _ => True) trivial (v_move rfl) ?_
                                                              refine rl_kg (met_on rfl rfl rfl rfl) (k_callf Try.func28 rfl rfl rfl rfl ?_)
                                                              refine Calls.mono (kind_calls (l := l) (m := m) (b := b) (c := c) (o := o) (ss := settled ss []) _ ⟨K.I.o0, by rw [hls]; exact K.I.o1⟩ (by omega) (hw.xQ)) ?_
                                                              rw [hKs.I.ob]
                                                              rintro _ w ⟨rfl, hw⟩
                                                              refine ⟨_, rfl, ?_⟩
                                                              refine rl_vg (met_on rfl rfl rfl rfl) rfl rfl (S := fun _ => True) trivial (v_neqF rfl rfl (by omega)) ?_
                                                              refine xV rfl rfl rfl (v_pick_false rfl rfl) ?_
                                                              refine rl_nil (g_le (xK (xK (xK (xK (xK (xK (xK (xK (xK (xK (xK (xK (xK (xK (xK (xK (xK (xK (xK (xK (xK (xK (xK (xK (xK (xK (Fr.le_refl _))))))))))))))))))))))))))) ?_)
                                                              refine g_cond_false rfl ?_
                                                              refine g_skip (g_inBlock ?_)
                                                              refine g_region ?_
                                                              refine xV rfl rfl rfl (v_add rfl rfl (by omega)) ?_
                                                              refine xV rfl rfl rfl (v_move rfl) ?_
                                                              refine rl_nil (g_le (xK (xK (Fr.le_refl _))) ?_)
                                                              exact g_le (by repeat (first | exact Fr.le_nil _ | refine Fr.le_cons rfl ?_)) (ih (i + 1, o, settled ss [], md, pw) w ⟨by simp only; omega, by simp only; omega, hKs, by simp only; omega, by simp only; omega, hw.xQ⟩ (by simp only; omega))
                                              · try with_reducible exact tf_elim h8
                                                all_goals
                                                  try replace h8 := of_decide_eq_false h8
                                                  refine g_skip (g_inBlock ?_)
                                                  refine g_region ?_
                                                  refine xV rfl rfl rfl (v_add rfl rfl (by omega)) ?_
                                                  refine xV rfl rfl rfl (v_move rfl) ?_
                                                  refine rl_nil (g_le (xK (xK (Fr.le_refl _))) ?_)
                                                  exact g_le (by repeat (first | exact Fr.le_nil _ | refine Fr.le_cons rfl ?_)) (ih (i + 1, o, ss, md, pw) w ⟨by simp only; omega, by simp only; omega, K, hsl, by simp only; omega, hw.xQ⟩ (by simp only; omega))
                                          · intro joinc7
                                            refine g_cond_false rfl ?_
                                            refine g_skip ?_
                                            exact joinc7 (o, ss, md, pw) _ _ (by repeat (first | exact Fr.le_nil _ | refine Fr.le_cons rfl ?_)) ⟨K, hsl, by simp only; omega, hw.xQ⟩
                              · try with_reducible exact tf_elim g20_27
                                all_goals
                                  try replace g20_27 := of_decide_eq_false g20_27
                                  simp at g20_27
              · try with_reducible exact tf_elim h4
                all_goals
                  try replace h4 := of_decide_eq_false h4
                  refine g_exit rfl (g_seq ?_)
                  refine g_region ?_
                  refine xV rfl rfl rfl (v_assign rfl) ?_
                  refine rl_nil (g_le (xK (Fr.le_refl _)) ?_)
                  refine g_ret1 Try.func5 rfl rfl ?_
                  exact ⟨rfl, hw.xQ⟩
      · intro joinr3
        refine g_region ?_
        refine xV rfl rfl rfl (v_move rfl) ?_
        refine xV rfl rfl rfl (v_lss rfl rfl) ?_
        refine xV rfl rfl rfl (v_move rfl) ?_
        refine rl_split (s := 28) rfl (fun g3_2 => ?_) (fun g3_2 => ?_)
        · try with_reducible exact ft_elim g3_2
          all_goals
            try replace g3_2 := of_decide_eq_true g3_2
            refine rl_off (met_off rfl rfl rfl rfl rfl) rfl rfl ?_
            refine rl_off (met_off rfl rfl rfl rfl rfl) rfl rfl ?_
            refine xV rfl rfl rfl (v_pick_true rfl rfl) ?_
            refine rl_nil (g_le (xK (xS rfl (xS rfl (xS rfl (xS rfl (xS rfl (xS rfl (Fr.le_refl _)))))))) ?_)
            refine g_cond_true rfl ?_
            refine g_region ?_
            refine xV rfl rfl rfl (v_assign rfl) ?_
            refine rl_nil (g_le (xK (Fr.le_refl _)) ?_)
            exact joinr3 _ _ _ (by repeat (first | exact Fr.le_nil _ | refine Fr.le_cons rfl ?_)) ⟨by omega, by omega, hw⟩
        · try with_reducible exact tf_elim g3_2
          all_goals
            try replace g3_2 := of_decide_eq_false g3_2
            refine rl_vg (met_on rfl rfl rfl rfl) rfl rfl (S := fun _ => True) trivial (v_move rfl) ?_
            refine rl_vg (met_on rfl rfl rfl rfl) rfl rfl (S := fun _ => True) trivial (v_gtr rfl rfl) ?_
            refine xV rfl rfl rfl (v_pick_false rfl rfl) ?_
            refine rl_nil (g_le (xK (xS rfl (xS rfl (xS rfl (xS rfl (xS rfl (xS rfl (Fr.le_refl _)))))))) ?_)
            refine g_cond rfl (fun h2 => ?_) (fun h2 => ?_)
            · try with_reducible exact ft_elim h2
              all_goals
                try replace h2 := of_decide_eq_true h2
                refine g_region ?_
                refine xV rfl rfl rfl (v_assign rfl) ?_
                refine rl_nil (g_le (xK (Fr.le_refl _)) ?_)
                exact joinr3 _ _ _ (by repeat (first | exact Fr.le_nil _ | refine Fr.le_cons rfl ?_)) ⟨by omega, by omega, hw⟩
            · try with_reducible exact tf_elim h2
              all_goals
                try replace h2 := of_decide_eq_false h2
                refine g_skip ?_
                exact joinr3 _ _ _ (by repeat (first | exact Fr.le_nil _ | refine Fr.le_cons rfl ?_)) ⟨by omega, by omega, hw⟩
  · intro joinr1
    refine g_region ?_
    refine xV rfl rfl rfl (v_move rfl) ?_
    refine xV rfl rfl rfl (v_lss rfl rfl) ?_
    refine xV rfl rfl rfl (v_move rfl) ?_
    refine rl_split (s := 22) rfl (fun g1_2 => ?_) (fun g1_2 => ?_)
    · try with_reducible exact ft_elim g1_2
      all_goals
        try replace g1_2 := of_decide_eq_true g1_2
        refine rl_off (met_off rfl rfl rfl rfl rfl) rfl rfl ?_
        refine rl_off (met_off rfl rfl rfl rfl rfl) rfl rfl ?_
        refine xV rfl rfl rfl (v_pick_true rfl rfl) ?_
        refine rl_nil (g_le (xK (xS rfl (xS rfl (xS rfl (xS rfl (xS rfl (xS rfl (Fr.le_refl _)))))))) ?_)
        refine g_cond_true rfl ?_
        refine g_region ?_
        refine xV rfl rfl rfl (v_assign rfl) ?_
        refine rl_nil (g_le (xK (Fr.le_refl _)) ?_)
        exact joinr1 _ _ _ (by repeat (first | exact Fr.le_nil _ | refine Fr.le_cons rfl ?_)) ⟨by omega, by omega, hw⟩
    · try with_reducible exact tf_elim g1_2
      all_goals
        try replace g1_2 := of_decide_eq_false g1_2
        refine rl_vg (met_on rfl rfl rfl rfl) rfl rfl (S := fun _ => True) trivial (v_move rfl) ?_
        refine rl_vg (met_on rfl rfl rfl rfl) rfl rfl (S := fun _ => True) trivial (v_gtr rfl rfl) ?_
        refine xV rfl rfl rfl (v_pick_false rfl rfl) ?_
        refine rl_nil (g_le (xK (xS rfl (xS rfl (xS rfl (xS rfl (xS rfl (xS rfl (Fr.le_refl _)))))))) ?_)
        refine g_cond rfl (fun h1 => ?_) (fun h1 => ?_)
        · try with_reducible exact ft_elim h1
          all_goals
            try replace h1 := of_decide_eq_true h1
            refine g_region ?_
            refine xV rfl rfl rfl (v_assign rfl) ?_
            refine rl_nil (g_le (xK (Fr.le_refl _)) ?_)
            exact joinr1 _ _ _ (by repeat (first | exact Fr.le_nil _ | refine Fr.le_cons rfl ?_)) ⟨by omega, by omega, hw⟩
        · try with_reducible exact tf_elim h1
          all_goals
            try replace h1 := of_decide_eq_false h1
            refine g_skip ?_
            exact joinr1 _ _ _ (by repeat (first | exact Fr.le_nil _ | refine Fr.le_cons rfl ?_)) ⟨by omega, by omega, hw⟩

set_option maxRecDepth 100000 in
theorem SegmentFrees_lifted (os : Os) (started : os.Started) (H : Type) (enc : TypeId × Value → H) :
    ReturnsInHanded {} Try.checked os 5 .any (Rows.segmentFreesSpec.pre6 enc Try.prog Try.f5 Rows.segmentFreesRow.domain false) (Rows.segmentFreesSpec.post enc Try.prog Try.f5 false true false false) := by
  refine returnsInHanded_of_change_sized (C := Try.checked) T.own started (by kernel_rfl) Try.func5
    (ChangeSpec.witness6 (enc := enc) (C := Try.checked) false ⟨#[], #[(.int .i64 0), (.int .i64 0), (.slice none 0 0)], []⟩ 8 (by kernel_rfl) (by kernel_rfl) (by kernel_rfl) (by kernel_rfl)) ?_
  intro W base args ds gs before hval0 hW hcnd hsz0 _
  have hval : ∀ (j : Nat) t v, Try.f5.params[j]? = some t → args[j]? = some v → Value.okWide Try.prog W .any base t v := hval0
  have hW' := hW
  obtain ⟨p, q, hA0, hV, rfl, hfz, hnd⟩ := hW
  have hA : DataW.TrodAll enc Try.prog W 0 (fun _ => true) true Try.f5.params.toList args.toList ds p := hA0
  obtain ⟨rfl, rfl⟩ := trodVars_none hV
  have hsz : (DataW.weightsEach Try.prog (Try.f5.params.toList ++ []) (ds ++ [])).all (· ≤ reachBytes) = true := hsz0
  rw [List.append_nil, List.append_nil] at hsz
  rw [Try.params5] at hA hval hsz
  obtain ⟨v0, vs0, d0, ds0, p0, q0, hargs, rfl, rfl, h0, r0⟩ := trodAll_cons hA
  obtain ⟨v1, vs1, d1, ds1, p1, q1, rfl, rfl, rfl, h1, r1⟩ := trodAll_cons r0
  obtain ⟨v2, vs2, d2, ds2, p2, q2, rfl, rfl, rfl, h2, r2⟩ := trodAll_cons r1
  obtain ⟨rfl, rfl, rfl⟩ := trodAll_nil r2
  obtain rfl : args = #[v0, v1, v2] := by cases args; simp_all
  have lt0 : ∀ x ∈ p0, x.block < W.heap.size := by obtain ⟨m, hm⟩ := h0; exact DataW.trod_lt m _ _ _ hm
  obtain ⟨x0, w0⟩ := arg_of (j := 0) (reads_int T.int_3_i64) h0 hsz rfl rfl
  have lt1 : ∀ x ∈ p1, x.block < W.heap.size := by obtain ⟨m, hm⟩ := h1; exact DataW.trod_lt m _ _ _ hm
  obtain ⟨x1, w1⟩ := arg_of (j := 1) (reads_int T.int_3_i64) h1 hsz rfl rfl
  have lt2 : ∀ x ∈ p2, x.block < W.heap.size := by obtain ⟨m, hm⟩ := h2; exact DataW.trod_lt m _ _ _ hm
  obtain ⟨x2, w2⟩ := arg_of (j := 2) (reads_sl T.sl_54_9_1 T.bytes_9_16 (by decide) (reads_str T.str_9)) h2 hsz rfl rfl
  obtain ⟨n0, rfl⟩ := okWide_int Try.underlying3 (hval 0 3 v0 rfl rfl)
  obtain ⟨n1, rfl⟩ := okWide_int Try.underlying3 (hval 1 3 v1 rfl rfl)
  obtain ⟨a2, l2, c2, rfl⟩ := okWide_slice Try.underlying54 (hval 2 54 v2 rfl rfl)
  obtain ⟨hc0, hr0⟩ := w0
  cases hc0
  obtain ⟨hc1, hr1⟩ := w1
  cases hc1
  refine (SegmentFrees_law hr0 hr1 w2).mono fun e W' ⟨he, hb⟩ => ?_
  have bel := hb.below
  subst he
  exact ⟨_, rfl, _, _, _, [], _, [], hW', trodAll_mk1 (shut_bool Try.underlying4 _), (trodAll_cons_mk (Below.trod T.laidOut (by kernel_rfl) (of_decide_eq_true (by kernel_rfl)) h0 bel lt0) (trodAll_cons_mk (Below.trod T.laidOut (by kernel_rfl) (of_decide_eq_true (by kernel_rfl)) h1 bel lt1) (trodAll_cons_mk (Below.trod T.laidOut (by kernel_rfl) (of_decide_eq_true (by kernel_rfl)) h2 bel lt2) trodAll_mk0))), rfl, bel.frame _, fun h => by cases h⟩
theorem SegmentFrees_holds : Rows.SegmentFreesSaid :=
  OpenClaim.holds_of_wide 5 Try.f5 rfl rfl rfl rfl rfl rfl rfl ⟨rfl, rfl, rfl, rfl, rfl⟩ rfl rfl rfl rfl rfl (by kernel_rfl) Try.func5 (by kernel_rfl)
    (of_decide_eq_true (by kernel_rfl)) (by unfold Func.isWrapper; rw [if_neg (of_decide_eq_false (by kernel_rfl))]; exact ⟨rfl, rfl⟩)
    (fun os started H enc _ => SegmentFrees_lifted os started H enc)
#print axioms SegmentFrees_holds
end Go.Proofs.Ytipdklbedpkobaa
