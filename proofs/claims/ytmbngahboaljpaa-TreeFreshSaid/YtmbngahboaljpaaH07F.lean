/-
  TreeFresh: each page that a call lays down is in the new tree, and each old page in that was in the old one.
-/
import Derived.Test.YtmbngahboaljpaaH10
import Derived.Test.YtmbngahboaljpaaRows
namespace Go.Proofs.Ytmbngahboaljpaa
set_option maxRecDepth 8000
set_option linter.unusedSimpArgs false
set_option linter.unusedVariables false
open Go Xe Go.Lib Go.RowKit Go.ChangeShapes Go.WideShapes Go.ChangeAt
def freshN (old : List Sn) (l : List Sn) : Nat := l.countP fun y => !knownIn old y.ref
theorem freshN_snoc (old l : List Sn) (y : Sn) : freshN old (l ++ [y]) = freshN old l + if knownIn old y.ref = true then 0 else 1 := by
  unfold freshN
  rw [List.countP_append, List.countP_singleton]
  cases knownIn old y.ref <;> rfl
theorem ord_f7_r16_H07F : orderOfB Try.f7 16 [5, 9] (.a 0 (.a 1 (.v 2 (.k 3 (.k 4 (.k 5 (.k 6 (.a 7 (.a 8 (.k 9 (.k 10 .done))))))))))) = true := by kernel_rfl
set_option maxHeartbeats 4000000 in
theorem TreeFresh_law {w : World} {a : Option Addr} {len cap : Nat} {xs : List Op7} (hr : rdArg (rdSl 72 5 rdOp7) w (.slice a len cap) xs) :
    Law Try.prog 7 [.slice a len cap] w := by
  unfold Law
  have hw := Sat.old w
  generalize w = W at hr hw ⊢
  have hr : (rdSl 72 5 rdOp7) (hpOf W) [.slice a len cap] xs := hr
  obtain ⟨rfl, hlb, hlc, hlm, _⟩ := rdSl_get hr
  simp only [reachBytes] at hlb
  refine calls_of_g (n := 122) Try.func7 rfl rfl rfl ?_
  change G _ _ _ _ _ [(0, _)] _
  refine g_seq ?_
  refine g_region ?_
  refine xV rfl rfl rfl (v_assign rfl) ?_
  refine rl_nil (g_le (xK (Fr.le_refl _)) ?_)
  refine g_seq ?_
  refine g_region ?_
  refine rl_k rfl (k_callf Try.func12 rfl rfl rfl rfl ?_)
  refine Calls.mono (tnew_calls (g := hpOf W) (hw.xQ)) ?_
  rintro _ w ⟨h, A, rfl, hI, hw⟩
  refine ⟨_, rfl, ?_⟩
  refine xV rfl rfl rfl (v_assign rfl) ?_
  refine rl_nil (g_le (xK (xS rfl (Fr.le_refl _))) ?_)
  refine g_seq (g_seq ?_)
  refine g_region ?_
  refine xV rfl rfl rfl (v_move rfl) ?_
  refine xV rfl rfl rfl (v_eqlNil T.ptr_26 rfl rfl) ?_
  refine rl_nil (g_le (xK (xS rfl (Fr.le_refl _))) ?_)
  refine g_cond_false rfl ?_
  refine g_skip (g_seq ?_)
  refine g_region ?_
  refine xV rfl rfl rfl (v_move rfl) ?_
  refine xV rfl rfl rfl (v_mkIface T.ptr_26 rfl) ?_
  refine rl_k rfl (k_callf Try.func17 rfl rfl rfl rfl ?_)
  refine Calls.mono (tempty_calls hI (hw.xQ)) ?_
  rintro _ w ⟨g1, A1, hg1, hI1, rfl, ht1, hok1, hw⟩
  refine ⟨_, rfl, ?_⟩
  refine xV rfl rfl rfl (v_move rfl) ?_
  refine xV rfl rfl rfl (v_extract rfl rfl) ?_
  refine xV rfl rfl rfl (v_extract rfl rfl) ?_
  refine rl_k rfl (k_alloc hw T.zero_25 rfl rfl (fun bk4_6 w hw => ?_))
  refine rl_k rfl (k_storeWhole hw T.agg_25_4 rfl rfl (by simp [Value.oneCell']) rfl (by (repeat first | with_reducible exact xH | apply xT); first | done | fail) rfl (fun w hw => ?_))
  refine xV rfl rfl rfl (v_assign rfl) ?_
  refine rl_nil (g_le (xK (xK (xS rfl (xS rfl (xS rfl (xS rfl (xS rfl (xS rfl (Fr.le_refl _))))))))) ?_)
  refine g_seq (g_seq ?_)
  refine g_region ?_
  refine xV rfl rfl rfl (v_move rfl) ?_
  refine xV rfl rfl rfl (v_neqF rfl rfl (by omega)) ?_
  refine rl_nil (g_le (xK (xS rfl (Fr.le_refl _))) ?_)
  refine g_cond_false rfl ?_
  refine g_skip (g_seq (g_seq ?_))
  refine g_region ?_
  refine xV rfl rfl rfl (v_move rfl) ?_
  refine rl_k rfl (k_callf Try.func18 rfl rfl rfl rfl ?_)
  refine Calls.mono (short7_calls a xs.length cap 60 (by omega) (by omega) hw) ?_
  rintro _ w ⟨rfl, hw⟩
  refine ⟨_, rfl, ?_⟩
  refine xV rfl rfl rfl (v_lenSlice T.sl_41_46_5 rfl) ?_
  refine xV rfl rfl rfl (v_move rfl) ?_
  refine rl_nil (g_le (xK (xK (xK (xS rfl (Fr.le_refl _))))) ?_)
  refine g_block ?_
  refine g_loopC (σ := Int × Hp × List Nd × As × Rf) (fun C x => (35, .int .i64 x.1) :: C) [(2, _), (3, _), (4, _), (33, _), (34, _)] (by repeat (first | exact Fr.le_nil _ | refine Fr.le_cons rfl ?_)) (fun z w => 0 ≤ z.1 ∧ z.1 ≤ min xs.length 60 ∧ (hpOf W).le z.2.1 ∧ HeapI h z.2.1 z.2.2.1 z.2.2.2.1 ∧ z.2.2.2.2.ok ∧ (∃ hh u, TreeAt z.2.2.1 z.2.2.2.2 hh u ∧ ((entsU hh u).length : Int) ≤ z.1) ∧ (z.2.2.1.length : Int) ≤ 1 + 17 * z.1 ∧ Sat (envOf W) w (z.2.2.2.1 :: pt bk4_6 (.cells z.2.2.2.2.cells.toArray 25 (0, 0)) :: RO z.2.1 :: [])) (fun z => (xs.length - z.1).toNat) ?_ (0, g1, [nodeU 0 ([] : List En)], A1, refO 0) (by repeat (first | exact Fr.le_nil _ | refine Fr.le_cons rfl ?_)) ⟨by simp, by simp only; omega, hg1, hI1, hok1, ⟨0, _, ht1, by simp [entsU]⟩, by simp, hw.xQ⟩
  rintro ⟨i, g, s, A, root⟩ w ⟨hi0, hi1, hg, hI, hrk, ⟨hh, u, ht, hes⟩, hsl, hw⟩ ih
  dsimp only at hi0 hi1 hg hI hrk ht hes hsl hw ih ⊢
  refine g_seq ?_
  refine g_region ?_
  refine xV rfl rfl rfl (v_lss rfl rfl) ?_
  refine rl_nil (g_le (xK (Fr.le_refl _)) ?_)
  refine g_seq ?_
  refine g_cond rfl (fun h3 => ?_) (fun h3 => ?_)
  · try with_reducible exact ft_elim h3
    all_goals
      try replace h3 := of_decide_eq_true h3
      refine g_skip (g_seq (g_block (g_seq ?_)))
      have hz := hw
      clear hw
      obtain ⟨_, _, _, _, gl⟩ := rdSl_get (mono_sl mono_Op7 hg hr)
      obtain ⟨b4, o1, o, ecs, rfl, ho, hat1, hl1, hrd⟩ := gl i hi0 (by omega)
      obtain ⟨sa, sn, sc, rfl, hns, hvs, hsegs, hdw, hbw⟩ := op7_told hrd
      have hw := hz
      have h7 := ht.low (by omega)
      refine g_region ?_
      refine xV rfl rfl rfl (v_indexAddr T.sl_41_46_5 rfl rfl (by omega) (by omega)) ?_
      refine rl_v rfl rfl rfl (by exact ro_ats hw (by (repeat first | with_reducible exact xH | apply xT); first | done | fail) (by assumption)) (v_loadAgg (vs := [_, _, _, _, _]) T.agg_46_5 rfl rfl) ?_
      refine rl_k rfl (k_alloc hw T.zero_46 rfl rfl (fun bk9_2 w hw => ?_))
      refine rl_k rfl (k_storeWhole hw T.agg_46_5 rfl rfl (by simp [Value.oneCell']) rfl (by (repeat first | with_reducible exact xH | apply xT); first | done | fail) rfl (fun w hw => ?_))
      refine rl_nil (g_le (xK (xK (xK (Fr.le_refl _)))) ?_)
      refine g_seq ?_
      refine g_region ?_
      refine xV rfl rfl rfl (v_move rfl) ?_
      refine rl_k rfl (k_callf Try.func14 rfl rfl rfl rfl ?_)
      refine Calls.mono (tlen_calls hI (hw.xQ)) ?_
      rintro _ w ⟨rfl, hw⟩
      refine ⟨_, rfl, ?_⟩
      refine xV rfl rfl rfl (v_assign rfl) ?_
      refine rl_nil (g_le (xK (xK (xK (Fr.le_refl _)))) ?_)
      refine g_seq ?_
      refine g_region ?_
      refine xV rfl rfl rfl (v_move rfl) ?_
      refine xV rfl rfl rfl (v_mkIface T.ptr_26 rfl) ?_
      refine rl_v rfl rfl rfl (by exact sat_cells hw (by (repeat first | with_reducible exact xH | apply xT); first | done | fail) ⟨rfl, rfl, rfl, rfl, trivial⟩) (v_loadAgg (vs := [_, _, _, _]) T.agg_25_4 rfl rfl) ?_
      refine rl_k rfl (k_callf Try.func23 rfl rfl rfl rfl ?_)
      refine Calls.mono (tall_calls ht (by omega) hrk hI (hw.xQ)) ?_
      rintro _ w ⟨g2, A2, la, lc, hg2, rfl9, rfl, hold, hw⟩
      have hI2 := rfl9
      clear rfl9
      refine ⟨_, rfl, ?_⟩
      refine xV rfl rfl rfl (v_move rfl) ?_
      refine xV rfl rfl rfl (v_extract rfl rfl) ?_
      refine xV rfl rfl rfl (v_extract rfl rfl) ?_
      refine xV rfl rfl rfl (v_assign rfl) ?_
      refine xV rfl rfl rfl (v_assign rfl) ?_
      refine rl_nil (g_le (xK (xK (xK (xK (xK (xK (xK (xK (xK (Fr.le_refl _)))))))))) ?_)
      refine g_seq ?_
      refine g_region ?_
      refine rl_v rfl rfl rfl (by exact sat_cells hw (by (repeat first | with_reducible exact xH | apply xT); first | done | fail) ⟨rfl, rfl, rfl, rfl, trivial⟩) (v_loadAgg (vs := [_, _, _, _]) T.agg_25_4 rfl rfl) ?_
      refine rl_k rfl (k_alloc hw T.zero_25 rfl rfl (fun bk12_1 w hw => ?_))
      refine rl_k rfl (k_storeWhole hw T.agg_25_4 rfl rfl (by simp [Value.oneCell']) rfl (by (repeat first | with_reducible exact xH | apply xT); first | done | fail) rfl (fun w hw => ?_))
      refine rl_nil (g_le (xK (xK (Fr.le_refl _))) ?_)
      refine g_seq ?_
      refine g_region ?_
      refine xV rfl rfl rfl (v_assign rfl) ?_
      refine rl_nil (g_le (xK (Fr.le_refl _)) ?_)
      refine g_seq (g_seq ?_)
      refine g_region ?_
      refine xV rfl rfl rfl (v_fieldAddr0 T.fld_46_0_0 rfl) ?_
      refine rl_v rfl rfl rfl (by exact sat_cell hw (by (repeat first | with_reducible exact xH | apply xT); first | done | fail) rfl) (v_load T.scal_3 rfl) ?_
      refine xV rfl rfl rfl (v_eql rfl rfl) ?_
      refine rl_nil (g_le (xK (xK (xK (Fr.le_refl _)))) ?_)
      refine g_cutc (σ := Hp × As × List Nd × Rf) (fun C x => (12, .int .i64 0) :: C) [(2, _), (3, _), (4, _), (7, _), (8, _), (9, _), (10, _), (11, _), (33, _), (34, _), (35, _), (36, _), (37, _), (38, _), (39, _), (40, _), (41, _), (42, _), (43, _), (44, _), (45, _), (46, _), (47, _), (48, _), (49, _), (50, _), (51, _)] (by repeat (first | exact Fr.le_nil _ | refine Fr.le_cons rfl ?_)) (fun z w => g2.le z.1 ∧ HeapI h z.1 z.2.2.1 z.2.1 ∧ z.2.2.2.ok ∧ (∃ es' h' u', StepR s root hh u es' 17 z.2.2.1 z.2.2.2 h' u' ∧ (es'.length : Int) ≤ i + 1) ∧ Sat (envOf W) w (z.2.1 :: pt bk12_1 (.cells z.2.2.2.cells.toArray 25 (0, 0)) :: pt bk4_6 (.cells root.cells.toArray 25 (0, 0)) :: RO z.1 :: [])) ?_ ?_
      · skip
        rintro ⟨g3, A3, s3, root3⟩ w ⟨hg3, hI3, hrk3, ⟨es3, h3, u3, hst, hes3⟩, hw⟩
        dsimp only at hg3 hI3 hrk3 hst hes3 hw ⊢
        all_goals
          refine g_seq ?_
          refine g_region ?_
          refine xV rfl rfl rfl (v_move rfl) ?_
          refine xV rfl rfl rfl (v_mkIface T.ptr_26 rfl) ?_
          refine rl_v rfl rfl rfl (by exact sat_cells hw (by (repeat first | with_reducible exact xH | apply xT); first | done | fail) ⟨rfl, rfl, rfl, rfl, trivial⟩) (v_loadAgg (vs := [_, _, _, _]) T.agg_25_4 rfl rfl) ?_
          refine rl_k rfl (k_callf Try.func23 rfl rfl rfl rfl ?_)
          have h7' := hst.tree.low (by rw [hst.ents]; omega)
          refine Calls.mono (tall_calls hst.tree (by omega) hrk3 hI3 (hw.xQ)) ?_
          rintro _ w ⟨g4, A4, lb, ld, hg4, hI4, rfl, hnow, hw⟩
          refine ⟨_, rfl, ?_⟩
          refine xV rfl rfl rfl (v_move rfl) ?_
          refine xV rfl rfl rfl (v_extract rfl rfl) ?_
          refine xV rfl rfl rfl (v_extract rfl rfl) ?_
          refine xV rfl rfl rfl (v_assign rfl) ?_
          refine xV rfl rfl rfl (v_assign rfl) ?_
          refine rl_nil (g_le (xK (xK (xK (xK (xK (xK (xK (xK (xK (Fr.le_refl _)))))))))) ?_)
          refine g_seq (g_seq ?_)
          refine g_region ?_
          refine xV rfl rfl rfl (v_move rfl) ?_
          refine xV rfl rfl rfl (v_neqF rfl rfl (by omega)) ?_
          refine xV rfl rfl rfl (v_move rfl) ?_
          refine rl_vg (met_on rfl rfl rfl rfl) rfl rfl (S := fun _ => True) trivial (v_move rfl) ?_
          refine rl_vg (met_on rfl rfl rfl rfl) rfl rfl (S := fun _ => True) trivial (v_neqF rfl rfl (by omega)) ?_
          refine xV rfl rfl rfl (v_pick_false rfl rfl) ?_
          refine xV rfl rfl rfl (v_move rfl) ?_
          refine rl_vg (met_on rfl rfl rfl rfl) rfl rfl (S := fun _ => True) trivial (v_move rfl) ?_
          refine rl_vg (met_on rfl rfl rfl rfl) rfl rfl (S := fun _ => True) trivial (v_neqF rfl rfl (by omega)) ?_
          refine xV rfl rfl rfl (v_pick_false rfl rfl) ?_
          refine rl_nil (g_le (xK (xK (xK (xK (xK (xK (xK (xK (xK (xK (Fr.le_refl _))))))))))) ?_)
          refine g_cond_false rfl ?_
          refine g_skip (g_seq ?_)
          have hcnt := fresh_count ht hst
          have hsl3 := hst.len
          have hsl4 := hst.ext.length_le
          generalize hod : seenU hh 1 root u = old at hold hcnt
          generalize hnw : seenU h3 1 root3 u3 = now at hnow hcnt
          have hold4 := mono_sl mono_Sn (hg3.trans hg4) hold
          obtain ⟨_, hob, _, _, go⟩ := rdSl_get hold4
          obtain ⟨_, hnb, _, _, gn⟩ := rdSl_get hnow
          simp only [reachBytes] at hob hnb
          refine g_region ?_
          refine xV rfl rfl rfl (v_assign rfl) ?_
          refine rl_nil (g_le (xK (Fr.le_refl _)) ?_)
          refine g_seq (g_seq ?_)
          refine g_region ?_
          refine xV rfl rfl rfl (v_move rfl) ?_
          refine xV rfl rfl rfl (v_lenSlice T.sl_57_61_8 rfl) ?_
          refine xV rfl rfl rfl (v_move rfl) ?_
          refine rl_nil (g_le (xK (xK (xK (Fr.le_refl _)))) ?_)
          refine g_block ?_
          refine g_loopC (σ := Int × Int) (fun C x => (90, .int .i64 x.1) :: (15, .int .i64 x.2) :: C) [(2, _), (3, _), (4, _), (7, _), (8, _), (9, _), (10, _), (11, _), (12, _), (13, _), (14, _), (33, _), (34, _), (35, _), (36, _), (37, _), (38, _), (39, _), (40, _), (41, _), (42, _), (43, _), (44, _), (45, _), (46, _), (47, _), (48, _), (49, _), (50, _), (51, _), (71, _), (72, _), (73, _), (74, _), (75, _), (76, _), (77, _), (78, _), (79, _), (80, _), (81, _), (82, _), (83, _), (84, _), (85, _), (86, _), (87, _), (88, _), (89, _)] (by repeat (first | exact Fr.le_nil _ | refine Fr.le_cons rfl ?_)) (fun z w => 0 ≤ z.1 ∧ z.1 ≤ now.length ∧ z.2 = freshN old (now.take z.1.toNat) ∧ Sat (envOf W) w (A4 :: pt bk12_1 (.cells root3.cells.toArray 25 (0, 0)) :: pt bk4_6 (.cells root.cells.toArray 25 (0, 0)) :: RO g4 :: [])) (fun z => (now.length - z.1).toNat) ?_ (0, 0) (by repeat (first | exact Fr.le_nil _ | refine Fr.le_cons rfl ?_)) ⟨by simp, by simp, by simp [freshN], hw.xQ⟩
          rintro ⟨k, n⟩ w ⟨hk0, hk1, hn, hw⟩ ih2
          dsimp only at hk0 hk1 hn hw ih2 ⊢
          refine g_seq ?_
          refine g_region ?_
          refine xV rfl rfl rfl (v_lss rfl rfl) ?_
          refine rl_nil (g_le (xK (Fr.le_refl _)) ?_)
          refine g_seq ?_
          refine g_cond rfl (fun h6 => ?_) (fun h6 => ?_)
          · try with_reducible exact ft_elim h6
            all_goals
              try replace h6 := of_decide_eq_true h6
              refine g_skip (g_seq (g_block (g_seq ?_)))
              have hz := hw
              clear hw
              obtain ⟨b5, o5, y, ycs, rfl, hy, hat5, hl5, hrdy⟩ := gn k hk0 (by omega)
              obtain ⟨ya, yn, yc, yk, ykn, ykc, rfl, hndy⟩ := sn_told hrdy
              have hw := hz
              refine g_region ?_
              refine xV rfl rfl rfl (v_indexAddr T.sl_57_61_8 rfl rfl (by omega) (by omega)) ?_
              refine rl_v rfl rfl rfl (by exact ro_ats hw (by (repeat first | with_reducible exact xH | apply xT); first | done | fail) (by assumption)) (v_loadAgg (vs := [_, _, _, _, _, _, _, _]) T.agg_61_8 rfl rfl) ?_
              refine rl_k rfl (k_alloc hw T.zero_61 rfl rfl (fun bk23_2 w hw => ?_))
              refine rl_k rfl (k_storeWhole hw T.agg_61_8 rfl rfl (by simp [Value.oneCell']) rfl (by (repeat first | with_reducible exact xH | apply xT); first | done | fail) rfl (fun w hw => ?_))
              refine rl_nil (g_le (xK (xK (xK (Fr.le_refl _)))) ?_)
              refine g_seq ?_
              refine g_region ?_
              refine xV rfl rfl rfl (v_assign rfl) ?_
              refine rl_nil (g_le (xK (Fr.le_refl _)) ?_)
              refine g_seq (g_seq ?_)
              refine g_region ?_
              refine xV rfl rfl rfl (v_move rfl) ?_
              refine xV rfl rfl rfl (v_lenSlice T.sl_57_61_8 rfl) ?_
              refine xV rfl rfl rfl (v_move rfl) ?_
              refine rl_nil (g_le (xK (xK (xK (Fr.le_refl _)))) ?_)
              refine g_block ?_
              refine g_loopC (σ := Int × Bool) (fun C x => (96, .int .i64 x.1) :: (18, .bool x.2) :: C) [(2, _), (3, _), (4, _), (7, _), (8, _), (9, _), (10, _), (11, _), (12, _), (13, _), (14, _), (15, _), (17, _), (33, _), (34, _), (35, _), (36, _), (37, _), (38, _), (39, _), (40, _), (41, _), (42, _), (43, _), (44, _), (45, _), (46, _), (47, _), (48, _), (49, _), (50, _), (51, _), (71, _), (72, _), (73, _), (74, _), (75, _), (76, _), (77, _), (78, _), (79, _), (80, _), (81, _), (82, _), (83, _), (84, _), (85, _), (86, _), (87, _), (88, _), (89, _), (90, _), (91, _), (92, _), (93, _), (94, _), (95, _)] (by repeat (first | exact Fr.le_nil _ | refine Fr.le_cons rfl ?_)) (fun z w => 0 ≤ z.1 ∧ z.1 ≤ old.length ∧ z.2 = knownIn (old.take z.1.toNat) y.ref ∧ Sat (envOf W) w (A4 :: pt bk23_2 (.cells [.int .i64 y.deep, .int .u64 y.ref.key, .int .i64 y.ref.seg, .int .i64 y.ref.off, .int .i64 y.ref.len, .bool y.node.leaf, .slice ya yn yc, .slice yk ykn ykc].toArray 61 (0, 0)) :: pt bk12_1 (.cells root3.cells.toArray 25 (0, 0)) :: pt bk4_6 (.cells root.cells.toArray 25 (0, 0)) :: RO g4 :: [])) (fun z => (old.length - z.1).toNat) ?_ (0, false) (by repeat (first | exact Fr.le_nil _ | refine Fr.le_cons rfl ?_)) ⟨by simp, by simp, by simp [knownIn], hw.xQ⟩
              rintro ⟨j, kb⟩ w ⟨hj0, hj1, hkb, hw⟩ ih3
              dsimp only at hj0 hj1 hkb hw ih3 ⊢
              refine g_seq ?_
              refine g_region ?_
              refine xV rfl rfl rfl (v_lss rfl rfl) ?_
              refine rl_nil (g_le (xK (Fr.le_refl _)) ?_)
              refine g_seq ?_
              refine g_cond rfl (fun h7 => ?_) (fun h7 => ?_)
              · try with_reducible exact ft_elim h7
                all_goals
                  try replace h7 := of_decide_eq_true h7
                  refine g_skip (g_seq (g_block (g_seq ?_)))
                  have hz := hw
                  clear hw
                  obtain ⟨b6, o6, x, xcs, rfl, hx, hat6, hl6, hrdx⟩ := go j hj0 (by omega)
                  obtain ⟨xa, xn, xc, xk, xkn, xkc, rfl, hndx⟩ := sn_told hrdx
                  have hw := hz
                  have htx : old.take (j + 1).toNat = old.take j.toNat ++ [x] := by rw [show (j + 1).toNat = j.toNat + 1 by omega, List.take_add_one, hx]; rfl
                  refine g_region ?_
                  refine xV rfl rfl rfl (v_indexAddr T.sl_57_61_8 rfl rfl (by omega) (by omega)) ?_
                  refine rl_v rfl rfl rfl (by exact ro_ats hw (by (repeat first | with_reducible exact xH | apply xT); first | done | fail) (by assumption)) (v_loadAgg (vs := [_, _, _, _, _, _, _, _]) T.agg_61_8 rfl rfl) ?_
                  refine rl_k rfl (k_alloc hw T.zero_61 rfl rfl (fun bk27_2 w hw => ?_))
                  refine rl_k rfl (k_storeWhole hw T.agg_61_8 rfl rfl (by simp [Value.oneCell']) rfl (by (repeat first | with_reducible exact xH | apply xT); first | done | fail) rfl (fun w hw => ?_))
                  refine rl_nil (g_le (xK (xK (xK (Fr.le_refl _)))) ?_)
                  refine g_region ?_
                  refine xV rfl rfl rfl (v_move rfl) ?_
                  refine xV rfl rfl rfl (v_move rfl) ?_
                  refine rl_split (s := 101) rfl (fun g28_1 => ?_) (fun g28_1 => ?_)
                  · try with_reducible exact ft_elim g28_1
                    all_goals
                      try replace g28_1 := of_decide_eq_true g28_1
                      refine rl_off (met_off rfl rfl rfl rfl rfl) rfl rfl ?_
                      refine rl_off (met_off rfl rfl rfl rfl rfl) rfl rfl ?_
                      refine rl_off (met_off rfl rfl rfl rfl rfl) rfl rfl ?_
                      refine rl_off (met_off rfl rfl rfl rfl rfl) rfl rfl ?_
                      refine rl_off (met_off rfl rfl rfl rfl rfl) rfl rfl ?_
                      refine xV rfl rfl rfl (v_pick_true rfl rfl) ?_
                      refine xV rfl rfl rfl (v_assign rfl) ?_
                      refine rl_nil (g_le (xK (xK (xK (xK (xK (xK (xK (xK (xK (xK (Fr.le_refl _))))))))))) ?_)
                      refine g_inBlock ?_
                      refine g_region ?_
                      refine xV rfl rfl rfl (v_add rfl rfl (by omega)) ?_
                      refine xV rfl rfl rfl (v_move rfl) ?_
                      refine rl_nil (g_le (xK (xK (Fr.le_refl _))) ?_)
                      exact g_le (by repeat (first | exact Fr.le_nil _ | refine Fr.le_cons rfl ?_)) (ih3 (j + 1, true) w ⟨by simp only; omega, by simp only; omega, by dsimp only; rw [htx, knownIn_snoc, ← hkb, g28_1]; rfl, hw.xQ⟩ (by simp only; omega))
                  · try with_reducible exact tf_elim g28_1
                    all_goals
                      try replace g28_1 := of_decide_eq_false g28_1
                      refine rl_vg (met_on rfl rfl rfl rfl) rfl rfl (S := fun _ => True) trivial (v_fieldAddr0 T.fld_61_1_1 rfl) ?_
                      refine rl_vg (met_on rfl rfl rfl rfl) rfl rfl (by exact sat_cells hw (by (repeat first | with_reducible exact xH | apply xT); first | done | fail) ⟨rfl, rfl, rfl, rfl, trivial⟩) (v_loadAgg (vs := [_, _, _, _]) T.agg_25_4 rfl rfl) ?_
                      refine rl_vg (met_on rfl rfl rfl rfl) rfl rfl (S := fun _ => True) trivial (v_fieldAddr0 T.fld_61_1_1 rfl) ?_
                      refine rl_vg (met_on rfl rfl rfl rfl) rfl rfl (by exact sat_cells hw (by (repeat first | with_reducible exact xH | apply xT); first | done | fail) ⟨rfl, rfl, rfl, rfl, trivial⟩) (v_loadAgg (vs := [_, _, _, _]) T.agg_25_4 rfl rfl) ?_
                      refine rl_vg (met_on rfl rfl rfl rfl) rfl rfl (S := fun _ => True) trivial (v_eqlAgg T.cmp_25_iiii rfl rfl rfl rfl (by exact eq_Rf _ _)) ?_
                      refine xV rfl rfl rfl (v_pick_false rfl rfl) ?_
                      refine xV rfl rfl rfl (v_assign rfl) ?_
                      refine rl_nil (g_le (xK (xK (xK (xK (xK (xK (xK (xK (xK (xK (Fr.le_refl _))))))))))) ?_)
                      refine g_inBlock ?_
                      refine g_region ?_
                      refine xV rfl rfl rfl (v_add rfl rfl (by omega)) ?_
                      refine xV rfl rfl rfl (v_move rfl) ?_
                      refine rl_nil (g_le (xK (xK (Fr.le_refl _))) ?_)
                      exact g_le (by repeat (first | exact Fr.le_nil _ | refine Fr.le_cons rfl ?_)) (ih3 (j + 1, decide (x.ref = y.ref)) w ⟨by simp only; omega, by simp only; omega, by dsimp only; rw [htx, knownIn_snoc, ← hkb, g28_1]; rfl, hw.xQ⟩ (by simp only; omega))
              · try with_reducible exact tf_elim h7
                all_goals
                  try replace h7 := of_decide_eq_false h7
                  refine g_exit rfl (g_seq ?_)
                  rw [List.take_of_length_le (by omega)] at hkb
                  have hty : now.take (k + 1).toNat = now.take k.toNat ++ [y] := by rw [show (k + 1).toNat = k.toNat + 1 by omega, List.take_add_one, hy]; rfl
                  have hcle : freshN old (now.take k.toNat) ≤ now.length := Nat.le_trans List.countP_le_length (by rw [List.length_take]; omega)
                  refine g_region ?_
                  refine xV rfl rfl rfl (v_move rfl) ?_
                  refine xV rfl rfl rfl (v_not rfl) ?_
                  refine rl_nil (g_le (xK (xK (Fr.le_refl _))) ?_)
                  refine g_cond rfl (fun h8 => ?_) (fun h8 => ?_)
                  · try with_reducible exact ft_elim h8
                    all_goals
                      try replace h8 := of_decide_eq_true h8
                      refine g_region ?_
                      refine xV rfl rfl rfl (v_move rfl) ?_
                      refine xV rfl rfl rfl (v_add rfl rfl (by omega)) ?_
                      refine xV rfl rfl rfl (v_assign rfl) ?_
                      refine rl_nil (g_le (xK (xK (xK (Fr.le_refl _)))) ?_)
                      refine g_inBlock ?_
                      refine g_region ?_
                      refine xV rfl rfl rfl (v_add rfl rfl (by omega)) ?_
                      refine xV rfl rfl rfl (v_move rfl) ?_
                      refine rl_nil (g_le (xK (xK (Fr.le_refl _))) ?_)
                      exact g_le (by repeat (first | exact Fr.le_nil _ | refine Fr.le_cons rfl ?_)) (ih2 (k + 1, n + 1) w ⟨by simp only; omega, by simp only; omega, by dsimp only; rw [hty, freshN_snoc, ← hkb, if_neg (by simpa using h8), hn]; omega, hw.xQ⟩ (by simp only; omega))
                  · try with_reducible exact tf_elim h8
                    all_goals
                      try replace h8 := of_decide_eq_false h8
                      refine g_skip (g_inBlock ?_)
                      refine g_region ?_
                      refine xV rfl rfl rfl (v_add rfl rfl (by omega)) ?_
                      refine xV rfl rfl rfl (v_move rfl) ?_
                      refine rl_nil (g_le (xK (xK (Fr.le_refl _))) ?_)
                      exact g_le (by repeat (first | exact Fr.le_nil _ | refine Fr.le_cons rfl ?_)) (ih2 (k + 1, n) w ⟨by simp only; omega, by simp only; omega, by dsimp only; rw [hty, freshN_snoc, ← hkb, if_pos (by simpa using h8), hn]; omega, hw.xQ⟩ (by simp only; omega))
          · try with_reducible exact tf_elim h6
            all_goals
              try replace h6 := of_decide_eq_false h6
              refine g_exit rfl (g_seq (g_seq ?_))
              rw [List.take_of_length_le (by omega)] at hn
              have hcnt : freshN old now = s3.length - s.length := hcnt
              rw [hcnt] at hn
              refine g_region ?_
              refine xV rfl rfl rfl (v_move rfl) ?_
              refine xV rfl rfl rfl (v_move rfl) ?_
              refine rl_k rfl (k_callf Try.func14 rfl rfl rfl rfl ?_)
              refine Calls.mono (tlen_calls hI4 (hw.xQ)) ?_
              rintro _ w ⟨rfl, hw⟩
              refine ⟨_, rfl, ?_⟩
              refine xV rfl rfl rfl (v_move rfl) ?_
              refine xV rfl rfl rfl (v_sub rfl rfl (by omega)) ?_
              refine xV rfl rfl rfl (v_neqF rfl rfl (by omega)) ?_
              refine rl_nil (g_le (xK (xK (xK (xK (xK (xK (Fr.le_refl _))))))) ?_)
              refine g_cond_false rfl ?_
              refine g_skip ?_
              refine g_region ?_
              refine rl_v rfl rfl rfl (by exact sat_cells hw (by (repeat first | with_reducible exact xH | apply xT); first | done | fail) ⟨rfl, rfl, rfl, rfl, trivial⟩) (v_loadAgg (vs := [_, _, _, _]) T.agg_25_4 rfl rfl) ?_
              refine rl_k rfl (k_storeWhole hw T.agg_25_4 rfl rfl (by simp [Value.oneCell']) rfl (by (repeat first | with_reducible exact xH | apply xT); first | done | fail) rfl (fun w hw => ?_))
              refine rl_nil (g_le (xK (Fr.le_refl _)) ?_)
              refine g_inBlock ?_
              refine g_region ?_
              refine xV rfl rfl rfl (v_add rfl rfl (by omega)) ?_
              refine xV rfl rfl rfl (v_move rfl) ?_
              refine rl_nil (g_le (xK (xK (Fr.le_refl _))) ?_)
              exact g_le (by repeat (first | exact Fr.le_nil _ | refine Fr.le_cons rfl ?_)) (ih (i + 1, g4, s3, A4, root3) w ⟨by simp only; omega, by simp only; omega, hg.trans (hg2.trans (hg3.trans hg4)), hI4, hrk3, ⟨h3, u3, hst.tree, by rw [hst.ents]; exact hes3⟩, by simp only; omega, hw.xQ⟩ (by simp only; omega))
      · intro joinc4
        refine g_cond rfl (fun h4 => ?_) (fun h4 => ?_)
        · try with_reducible exact ft_elim h4
          all_goals
            try replace h4 := of_decide_eq_true h4
            refine g_region ?_
            refine xV rfl rfl rfl (v_move rfl) ?_
            refine xV rfl rfl rfl (v_mkIface T.ptr_26 rfl) ?_
            refine rl_v rfl rfl rfl (by exact sat_cells hw (by (repeat first | with_reducible exact xH | apply xT); first | done | fail) ⟨rfl, rfl, rfl, rfl, trivial⟩) (v_loadAgg (vs := [_, _, _, _]) T.agg_25_4 rfl rfl) ?_
            refine xV rfl rfl rfl (v_fieldAddr0 T.fld_46_1_1 rfl) ?_
            refine rl_v rfl rfl rfl (by exact sat_cell hw (by (repeat first | with_reducible exact xH | apply xT); first | done | fail) rfl) (v_load T.scal_9 rfl) ?_
            refine rl_k rfl (k_callf Try.func30 rfl rfl rfl rfl ?_)
            refine Calls.mono (tdel_calls o.name ht (by omega) (by omega) hrk hI2 (hw.xQ)) ?_
            rintro _ w ⟨g3, A3, b, s3, root3, h3, u3, hg3, hI3, rfl, hok3, hst, _, _, _, _, hw⟩
            refine ⟨_, rfl, ?_⟩
            refine xV rfl rfl rfl (v_move rfl) ?_
            refine xV rfl rfl rfl (v_extract rfl rfl) ?_
            refine xV rfl rfl rfl (v_extract rfl rfl) ?_
            refine xV rfl rfl rfl (v_extract rfl rfl) ?_
            refine rl_k rfl (k_storeWhole hw T.agg_25_4 rfl rfl (by simp [Value.oneCell']) rfl (by (repeat first | with_reducible exact xH | apply xT); first | done | fail) rfl (fun w hw => ?_))
            refine xV rfl rfl rfl (v_assign rfl) ?_
            refine rl_nil (g_le (xK (xK (xS rfl (xK (xK (xK (xK (xK (xK (xK (xK (Fr.le_refl _)))))))))))) ?_)
            exact joinc4 (g3, A3, s3, root3) w _ (by repeat (first | exact Fr.le_nil _ | refine Fr.le_cons rfl ?_)) ⟨hg3, hI3, hok3, ⟨_, h3, u3, hst.more (by omega), by have := delE_len (entsU hh u) o.name; omega⟩, hw.xQ⟩
        · try with_reducible exact tf_elim h4
          all_goals
            try replace h4 := of_decide_eq_false h4
            have hw := hw.xP (A := A2)
            refine g_drawB ord_f7_r16_H07F (by kernel_rfl) T.mixed (fun w hw => (hw.pick .at0).drop) hw (fun w hw => ?_)
            refine rs_a 0 rfl rfl rfl rfl (v_move rfl) ?_
            refine rs_a 1 rfl rfl rfl rfl (v_mkIface T.ptr_26 rfl) ?_
            refine rs_v 2 rfl rfl rfl rfl (OpV.mono (v_loadAgg (vs := [_, _, _, _]) T.agg_25_4 rfl rfl) (fun w hw => by exact sat_cells hw (by (repeat first | with_reducible exact xH | apply xT); first | done | fail) ⟨rfl, rfl, rfl, rfl, trivial⟩)) (by exact Sat.sub hw (by (repeat (first | with_reducible exact Sub.refl _ | exact Sub.nil _ | (apply Sub.cons; focus ((repeat (first | with_reducible exact Pick.here _ | apply Pick.there)); (first | done | fail))) | with_reducible apply Sub.drop)); first | done | fail)) ?_
            refine rs_kv 3 rfl rfl rfl rfl (by exact sat_cells hw (by (repeat first | with_reducible exact xH | apply xT); first | done | fail) ⟨rfl, rfl, rfl, rfl, rfl, trivial⟩) (v_loadAgg (vs := [_, _, _, _, _]) T.agg_46_5 rfl rfl) ?_
            refine rs_k 4 rfl rfl (k_callf Try.func19 rfl rfl rfl rfl ?_)
            refine Calls.mono (secret_calls (hw.xQ) rfl) ?_
            rintro _ w ⟨vb, rfl, hw⟩
            refine ⟨_, rfl, ?_⟩
            refine ⟨fun _ => (by exact Sat.sub hw (by (repeat (first | with_reducible exact Sub.refl _ | exact Sub.nil _ | (apply Sub.cons; focus ((repeat (first | with_reducible exact Pick.here _ | apply Pick.there)); (first | done | fail))) | with_reducible apply Sub.drop)); first | done | fail)), ?_⟩
            refine rs_k 5 rfl rfl (k_callf Try.func20 rfl rfl rfl rfl ?_)
            obtain ⟨g3, hg3, hvn, hw⟩ := (hw.xP (A := RO g2)).freeze_lit (R := rdVn) (sz := 3) (bytes := 40) mono_Vn (xs := [⟨1, o.value, ByteArray.empty⟩]) (Els.one rfl ⟨rfl, sec_ok hvs⟩) rfl (by simp [maxLen]) (by simp [reachBytes])
            have hen : rdEn g3 [.string o.name, .slice (some ⟨vb, 0, none⟩) 1 1] (secO o) := ⟨_, _, rfl, ⟨rfl, hns⟩, hvn⟩
            refine Calls.mono (tput_calls hen ht (by omega) (by omega) hrk (HeapI.mono hg3 hI2) (hw.xQ)) ?_
            rintro _ w ⟨g4, A4, s4, root4, h4, u4, hg4, hI4, rfl, hok4, hst, _, _, hw⟩
            refine ⟨_, rfl, ?_⟩
            refine ⟨fun hn => absurd (by decide) hn, ?_⟩
            refine rs_kv 6 rfl rfl rfl rfl (S' := fun _ => True) trivial (v_move rfl) ?_
            refine rs_a 7 rfl rfl rfl rfl (v_extract rfl rfl) ?_
            refine rs_a 8 rfl rfl rfl rfl (v_extract rfl rfl) ?_
            refine rs_k 9 rfl rfl (k_storeWhole hw T.agg_25_4 rfl rfl (by simp [Value.oneCell']) rfl (by (repeat first | with_reducible exact xH | apply xT); first | done | fail) rfl (fun w hw => ?_))
            refine ⟨fun hn => absurd (by decide) hn, ?_⟩
            refine rs_kv 10 rfl rfl rfl rfl (S' := fun _ => True) trivial (v_assign rfl) ?_
            refine rs_done (g_le (xK (xK (xK (xK (xK (xK (xK (xK (xK (xK (Fr.le_refl _))))))))))) ?_)
            exact joinc4 (g4, A4, s4, root4) w _ (by repeat (first | exact Fr.le_nil _ | refine Fr.le_cons rfl ?_)) ⟨hg3.trans hg4, hI4, hok4, ⟨_, h4, u4, hst.more (by omega), by have := (insE_len ht.srt (secO o)).2; omega⟩, hw.xQ⟩
  · try with_reducible exact tf_elim h3
    all_goals
      try replace h3 := of_decide_eq_false h3
      refine g_exit rfl (g_seq ?_)
      refine g_region ?_
      refine xV rfl rfl rfl (v_assign rfl) ?_
      refine rl_nil (g_le (xK (Fr.le_refl _)) ?_)
      refine g_ret1 Try.func7 rfl rfl ?_
      exact ⟨rfl, (hw.xQ : Sat (envOf W) w [RO g]).shrink hg⟩

set_option maxRecDepth 100000 in
theorem TreeFresh_lifted (os : Os) (started : os.Started) (H : Type) (enc : TypeId × Value → H) :
    ReturnsInHanded {} Try.checked os 7 .any (Rows.treeFreshSpec.pre6 enc Try.prog Try.f7 Rows.treeFreshRow.domain false) (Rows.treeFreshSpec.post enc Try.prog Try.f7 false true false false) := by
  refine returnsInHanded_of_change_sized (C := Try.checked) T.own started (by kernel_rfl) Try.func7
    (ChangeSpec.witness6 (enc := enc) (C := Try.checked) false ⟨#[], #[(.slice none 0 0)], []⟩ 8 (by kernel_rfl) (by kernel_rfl) (by kernel_rfl) (by kernel_rfl)) ?_
  intro W base args ds gs before hval0 hW hcnd hsz0 _
  have hval : ∀ (j : Nat) t v, Try.f7.params[j]? = some t → args[j]? = some v → Value.okWide Try.prog W .any base t v := hval0
  have hW' := hW
  obtain ⟨p, q, hA0, hV, rfl, hfz, hnd⟩ := hW
  have hA : DataW.TrodAll enc Try.prog W 0 (fun _ => true) true Try.f7.params.toList args.toList ds p := hA0
  obtain ⟨rfl, rfl⟩ := trodVars_none hV
  have hsz : (DataW.weightsEach Try.prog (Try.f7.params.toList ++ []) (ds ++ [])).all (· ≤ reachBytes) = true := hsz0
  rw [List.append_nil, List.append_nil] at hsz
  rw [Try.params7] at hA hval hsz
  obtain ⟨v0, vs0, d0, ds0, p0, q0, hargs, rfl, rfl, h0, r0⟩ := trodAll_cons hA
  obtain ⟨rfl, rfl, rfl⟩ := trodAll_nil r0
  obtain rfl : args = #[v0] := by cases args; simp_all
  have lt0 : ∀ x ∈ p0, x.block < W.heap.size := by obtain ⟨m, hm⟩ := h0; exact DataW.trod_lt m _ _ _ hm
  obtain ⟨x0, w0⟩ := arg_of (j := 0) (reads_sl T.sl_41_46_5 T.bytes_46_72 (by decide) reads_Op7) h0 hsz rfl rfl
  obtain ⟨a0, l0, c0, rfl⟩ := okWide_slice Try.underlying41 (hval 0 41 v0 rfl rfl)
  refine (TreeFresh_law w0).mono fun e W' ⟨he, hb⟩ => ?_
  have bel := hb.below
  subst he
  exact ⟨_, rfl, _, _, _, [], _, [], hW', trodAll_mk1 (shut_bool Try.underlying4 _), (trodAll_cons_mk (Below.trod T.laidOut (by kernel_rfl) (of_decide_eq_true (by kernel_rfl)) h0 bel lt0) trodAll_mk0), rfl, bel.frame _, fun h => by cases h⟩
theorem TreeFresh_holds : Rows.TreeFreshSaid :=
  OpenClaim.holds_of_wide 7 Try.f7 rfl rfl rfl rfl rfl rfl rfl ⟨rfl, rfl, rfl, rfl, rfl⟩ rfl rfl rfl rfl rfl (by kernel_rfl) Try.func7 (by kernel_rfl)
    (of_decide_eq_true (by kernel_rfl)) (by unfold Func.isWrapper; rw [if_neg (of_decide_eq_false (by kernel_rfl))]; exact ⟨rfl, rfl⟩)
    (fun os started H enc _ => TreeFresh_lifted os started H enc)
#print axioms TreeFresh_holds
end Go.Proofs.Ytmbngahboaljpaa
