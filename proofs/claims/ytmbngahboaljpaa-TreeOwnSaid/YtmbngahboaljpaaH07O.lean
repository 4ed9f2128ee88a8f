/-
  TreeOwn: neither what was handed in nor what came out is the pages' memory.
-/
import Derived.Test.YtmbngahboaljpaaH14
import Derived.Test.YtmbngahboaljpaaRows
namespace Go.Proofs.Ytmbngahboaljpaa
set_option maxRecDepth 8000
set_option linter.unusedSimpArgs false
set_option linter.unusedVariables false
open Go Xe Go.Lib Go.RowKit Go.ChangeShapes Go.WideShapes Go.ChangeAt
theorem without_all {l : List Op7} {name : ByteArray} (h : ∀ x ∈ l, x.name ≠ name) : withoutO l name = l := List.filter_eq_self.2 fun x hx => decide_eq_true (h x hx)
theorem without_snoc_same {l : List Op7} {o : Op7} (h : ∀ x ∈ l, x.name ≠ o.name) : withoutO (l ++ [o]) o.name = l := by
  rw [withoutO_snoc, if_pos rfl, List.append_nil, without_all h]
theorem ents_le {l : List Op7} {es : List En} (m : MapOf l es) {n : Nat} (h : l.length ≤ n) : es.length ≤ n := by rw [m.len]; exact h
theorem ord_f4_r17_H07O : orderOfB Try.f4 17 [6] (.a 0 (.a 1 (.v 2 (.v 4 (.b2 3 5 (.k 5 (.k 6 (.k 7 .done))) (.k 3 (.k 6 (.k 7 .done)))))))) = true := by kernel_rfl
set_option maxHeartbeats 8000000 in
theorem TreeOwn_law {w : World} {a : Option Addr} {len cap : Nat} {xs : List Op7} (hr : rdArg (rdSl 72 5 rdOp7) w (.slice a len cap) xs) :
    Law Try.prog 4 [.slice a len cap] w := by
  unfold Law
  have hw := Sat.old w
  generalize w = W at hr hw ⊢
  have hr : (rdSl 72 5 rdOp7) (hpOf W) [.slice a len cap] xs := hr
  obtain ⟨rfl, hlb, hlc, hlm, _⟩ := rdSl_get hr
  simp only [reachBytes] at hlb
  refine calls_of_g (n := 124) Try.func4 rfl rfl rfl ?_
  change G _ _ _ _ _ [(0, _)] _
  refine g_seq ?_
  refine g_region ?_
  refine xV rfl rfl rfl (v_assign rfl) ?_
  refine rl_nil (g_le (xK (Fr.le_refl _)) ?_)
  refine g_seq ?_
  refine g_region ?_
  refine rl_k rfl (k_callf Try.func12 rfl rfl rfl rfl ?_)
  refine Calls.mono (tnew_calls (g := hpOf W) (hw.xQ)) ?_
  rintro _ w ⟨h, A, rfl, hI, hw⟩
  refine ⟨_, rfl, ?_⟩
  refine xV rfl rfl rfl (v_assign rfl) ?_
  refine rl_nil (g_le (xK (xS rfl (Fr.le_refl _))) ?_)
  refine g_seq (g_seq ?_)
  refine g_region ?_
  refine xV rfl rfl rfl (v_move rfl) ?_
  refine xV rfl rfl rfl (v_eqlNil T.ptr_26 rfl rfl) ?_
  refine rl_nil (g_le (xK (xS rfl (Fr.le_refl _))) ?_)
  refine g_cond_false rfl ?_
  refine g_skip (g_seq ?_)
  refine g_region ?_
  refine xV rfl rfl rfl (v_move rfl) ?_
  refine xV rfl rfl rfl (v_mkIface T.ptr_26 rfl) ?_
  refine rl_k rfl (k_callf Try.func17 rfl rfl rfl rfl ?_)
  refine Calls.mono (tempty_calls hI (hw.xQ)) ?_
  rintro _ w ⟨g1, A1, hg1, hI1, rfl, ht1, hok1, hw⟩
  refine ⟨_, rfl, ?_⟩
  refine xV rfl rfl rfl (v_move rfl) ?_
  refine xV rfl rfl rfl (v_extract rfl rfl) ?_
  refine xV rfl rfl rfl (v_extract rfl rfl) ?_
  refine rl_k rfl (k_alloc hw T.zero_25 rfl rfl (fun bk4_6 w hw => ?_))
  refine rl_k rfl (k_storeWhole hw T.agg_25_4 rfl rfl (by simp [Value.oneCell']) rfl (by (repeat first | with_reducible exact xH | apply xT); first | done | fail) rfl (fun w hw => ?_))
  refine xV rfl rfl rfl (v_assign rfl) ?_
  refine rl_nil (g_le (xK (xK (xS rfl (xS rfl (xS rfl (xS rfl (xS rfl (xS rfl (Fr.le_refl _))))))))) ?_)
  refine g_seq (g_seq ?_)
  refine g_region ?_
  refine xV rfl rfl rfl (v_move rfl) ?_
  refine xV rfl rfl rfl (v_neqF rfl rfl (by omega)) ?_
  refine rl_nil (g_le (xK (xS rfl (Fr.le_refl _))) ?_)
  refine g_cond_false rfl ?_
  refine g_skip (g_seq ?_)
  refine g_region ?_
  refine xV rfl rfl rfl (v_assign rfl) ?_
  refine rl_nil (g_le (xK (Fr.le_refl _)) ?_)
  refine g_seq (g_seq ?_)
  refine g_region ?_
  refine xV rfl rfl rfl (v_move rfl) ?_
  refine rl_k rfl (k_callf Try.func18 rfl rfl rfl rfl ?_)
  refine Calls.mono (short7_calls a xs.length cap 20 (by omega) (by omega) hw) ?_
  rintro _ w ⟨rfl, hw⟩
  refine ⟨_, rfl, ?_⟩
  refine xV rfl rfl rfl (v_lenSlice T.sl_41_46_5 rfl) ?_
  refine xV rfl rfl rfl (v_move rfl) ?_
  refine rl_nil (g_le (xK (xK (xK (xS rfl (Fr.le_refl _))))) ?_)
  refine g_block ?_
  refine g_loopC (σ := Int × Hp × List Nd × As × Rf × Value × List Op7) (fun C x => (36, .int .i64 x.1) :: (6, x.2.2.2.2.2.1) :: C) [(2, _), (3, _), (4, _), (34, _), (35, _)] (by repeat (first | exact Fr.le_nil _ | refine Fr.le_cons rfl ?_)) (fun z w => 0 ≤ z.1 ∧ z.1 ≤ min xs.length 20 ∧ (hpOf W).le z.2.1 ∧ HeapI h z.2.1 z.2.2.1 z.2.2.2.1 ∧ z.2.2.2.2.1.ok ∧ (∃ hh u, TreeAt z.2.2.1 z.2.2.2.2.1 hh u ∧ MapOf z.2.2.2.2.2.2 (entsU hh u)) ∧ (z.2.2.2.2.2.2.length : Int) ≤ z.1 ∧ (z.2.2.1.length : Int) ≤ 1 + 17 * z.1 ∧ (rdSl 72 5 rdOp7) z.2.1 [z.2.2.2.2.2.1] z.2.2.2.2.2.2 ∧ Sat (envOf W) w (z.2.2.2.1 :: pt bk4_6 (.cells z.2.2.2.2.1.cells.toArray 25 (0, 0)) :: RO z.2.1 :: [])) (fun z => (xs.length - z.1).toNat) ?_ (0, g1, [nodeU 0 ([] : List En)], A1, refO 0, .slice none 0 0, []) (by repeat (first | exact Fr.le_nil _ | refine Fr.le_cons rfl ?_)) ⟨by simp, by simp only; omega, hg1, hI1, hok1, ⟨0, _, ht1, MapOf.nil⟩, by simp, by simp, rdSl_nil _, hw.xQ⟩
  rintro ⟨i, g, s, A, root, lv, l⟩ w ⟨hi0, hi1, hg, hI, hrk, ⟨hh, u, ht, hmp⟩, hll, hsl, hl, hw⟩ ih
  dsimp only at hi0 hi1 hg hI hrk ht hmp hll hsl hl hw ih ⊢
  obtain ⟨la, ln, lc, rfl⟩ := rdSl_shape hl
  obtain ⟨rfl, hle9, hm9, hb9, lcells, hlels, hsrc⟩ := rdSl_cells hl
  simp only [reachBytes] at hb9
  simp only [maxLen] at hm9
  have hel := ents_le hmp (n := 20) (by omega)
  have h7 := ht.low (by omega)
  refine g_seq ?_
  refine g_region ?_
  refine xV rfl rfl rfl (v_lss rfl rfl) ?_
  refine rl_nil (g_le (xK (Fr.le_refl _)) ?_)
  refine g_seq ?_
  refine g_cond rfl (fun h3 => ?_) (fun h3 => ?_)
  · try with_reducible exact ft_elim h3
    all_goals
      try replace h3 := of_decide_eq_true h3
      refine g_skip (g_seq (g_block (g_seq ?_)))
      have hz := hw
      clear hw
      obtain ⟨_, _, _, _, gl⟩ := rdSl_get (mono_sl mono_Op7 hg hr)
      obtain ⟨b4, o1, x, ecs, rfl, hx, hat1, hl1, hrd⟩ := gl i hi0 (by omega)
      obtain ⟨sa, sn, sc, rfl, hns, hvs, hsegs, hdw, hbw⟩ := op7_told hrd
      have hw := hz
      refine g_region ?_
      refine xV rfl rfl rfl (v_indexAddr T.sl_41_46_5 rfl rfl (by omega) (by omega)) ?_
      refine rl_v rfl rfl rfl (by exact ro_ats hw (by (repeat first | with_reducible exact xH | apply xT); first | done | fail) (by assumption)) (v_loadAgg (vs := [_, _, _, _, _]) T.agg_46_5 rfl rfl) ?_
      refine rl_k rfl (k_alloc hw T.zero_46 rfl rfl (fun bk10_2 w hw => ?_))
      refine rl_k rfl (k_storeWhole hw T.agg_46_5 rfl rfl (by simp [Value.oneCell']) rfl (by (repeat first | with_reducible exact xH | apply xT); first | done | fail) rfl (fun w hw => ?_))
      refine rl_nil (g_le (xK (xK (xK (Fr.le_refl _)))) ?_)
      refine g_seq ?_
      refine g_region ?_
      refine rl_v rfl rfl rfl (by exact sat_cells hw (by (repeat first | with_reducible exact xH | apply xT); first | done | fail) ⟨rfl, rfl, rfl, rfl, rfl, trivial⟩) (v_loadAgg (vs := [_, _, _, _, _]) T.agg_46_5 rfl rfl) ?_
      refine rl_k rfl (k_callf Try.func19 rfl rfl rfl rfl ?_)
      refine Calls.mono (secret_calls (hw.xQ) rfl) ?_
      rintro _ w ⟨vb, rfl, hw⟩
      refine ⟨_, rfl, ?_⟩
      refine rl_k rfl (k_alloc hw T.zero_49 rfl rfl (fun bk11_2 w hw => ?_))
      refine rl_k rfl (k_storeWhole hw T.agg_49_2 rfl rfl (by simp [Value.oneCell']) rfl (by (repeat first | with_reducible exact xH | apply xT); first | done | fail) rfl (fun w hw => ?_))
      refine rl_nil (g_le (xK (xK (xK (Fr.le_refl _)))) ?_)
      refine g_seq ?_
      obtain ⟨ge, hge, hw⟩ := Sat.lend (hw.xP (A := pt vb (.cells (⟨1, x.value, ByteArray.empty⟩ : Vn).cells.toArray 53 (0, 0))))
      have hen : rdEn ge [.string x.name, .slice (some ⟨vb, 0, none⟩) 1 1] (secO x) := ⟨_, _, rfl, ⟨rfl, hns⟩, ver_lit hge (sec_ok hvs)⟩
      refine g_region ?_
      refine xV rfl rfl rfl (v_move rfl) ?_
      refine xV rfl rfl rfl (v_mkIface T.ptr_26 rfl) ?_
      refine rl_v rfl rfl rfl (by exact sat_cells hw (by (repeat first | with_reducible exact xH | apply xT); first | done | fail) ⟨rfl, rfl, rfl, rfl, trivial⟩) (v_loadAgg (vs := [_, _, _, _]) T.agg_25_4 rfl rfl) ?_
      refine rl_v rfl rfl rfl (by exact sat_cells hw (by (repeat first | with_reducible exact xH | apply xT); first | done | fail) ⟨rfl, rfl, trivial⟩) (v_loadAgg (vs := [_, _]) T.agg_49_2 rfl rfl) ?_
      refine rl_k rfl (k_callf Try.func20 rfl rfl rfl rfl ?_)
      refine Calls.mono (tput2_calls hen ht (by omega) (by omega) hrk hI (hw.xQ)) ?_
      rintro _ w ⟨g4, A4, s4, root4, q4, u4, hg4, hI4, rfl, hok4, hst, _, h74, hw⟩
      refine ⟨_, rfl, ?_⟩
      refine xV rfl rfl rfl (v_move rfl) ?_
      refine xV rfl rfl rfl (v_extract rfl rfl) ?_
      refine xV rfl rfl rfl (v_extract rfl rfl) ?_
      refine rl_k rfl (k_alloc hw T.zero_25 rfl rfl (fun bk12_8 w hw => ?_))
      refine rl_k rfl (k_storeWhole hw T.agg_25_4 rfl rfl (by simp [Value.oneCell']) rfl (by (repeat first | with_reducible exact xH | apply xT); first | done | fail) rfl (fun w hw => ?_))
      refine xV rfl rfl rfl (v_assign rfl) ?_
      refine rl_nil (g_le (xK (xK (xK (xK (xK (xK (xK (xK (xK (xK (Fr.le_refl _))))))))))) ?_)
      have hw := Sat.back hge (hw.xP (A := RO ge))
      refine g_seq ?_
      refine g_region ?_
      refine xV rfl rfl rfl (v_fieldAddr0 T.fld_49_1_1 rfl) ?_
      refine rl_v rfl rfl rfl (by exact sat_cell hw (by (repeat first | with_reducible exact xH | apply xT); first | done | fail) rfl) (v_load T.scal_47 rfl) ?_
      refine xV rfl rfl rfl (v_indexAddr T.sl_47_53_3 rfl rfl (by omega) (by omega)) ?_
      refine xV rfl rfl rfl (v_fieldAddr0 T.fld_53_1_1 rfl) ?_
      refine rl_k rfl (k_store hw T.scal_9 rfl rfl rfl (by (repeat first | with_reducible exact xH | apply xT); first | done | fail) rfl (by simp only [List.set, Int.reduceToNat, Nat.reduceMul, Nat.reduceAdd]; rfl) (fun w hw => ?_))
      refine rl_nil (g_le (xK (xK (xK (xK (Fr.le_refl _))))) ?_)
      refine g_seq (g_seq ?_)
      refine g_region ?_
      refine xV rfl rfl rfl (v_move rfl) ?_
      refine xV rfl rfl rfl (v_neqF rfl rfl (by omega)) ?_
      refine rl_nil (g_le (xK (xK (Fr.le_refl _))) ?_)
      refine g_cond_false rfl ?_
      refine g_skip (g_seq ?_)
      refine g_region ?_
      refine rl_v rfl rfl rfl (by exact sat_cells hw (by (repeat first | with_reducible exact xH | apply xT); first | done | fail) ⟨rfl, rfl, rfl, rfl, trivial⟩) (v_loadAgg (vs := [_, _, _, _]) T.agg_25_4 rfl rfl) ?_
      refine rl_k rfl (k_storeWhole hw T.agg_25_4 rfl rfl (by simp [Value.oneCell']) rfl (by (repeat first | with_reducible exact xH | apply xT); first | done | fail) rfl (fun w hw => ?_))
      refine rl_nil (g_le (xK (Fr.le_refl _)) ?_)
      refine g_seq ?_
      refine g_cutc (σ := Hp × Value) (fun C x => (6, x.2) :: C) [(2, _), (3, _), (4, _), (8, _), (9, _), (10, _), (11, _), (34, _), (35, _), (36, _), (37, _), (38, _), (39, _), (40, _), (41, _), (42, _), (43, _), (44, _), (45, _), (46, _), (47, _), (48, _), (49, _), (50, _), (51, _), (52, _), (53, _), (54, _), (55, _), (56, _)] (by repeat (first | exact Fr.le_nil _ | refine Fr.le_cons rfl ?_)) (fun z w => g4.le z.1 ∧ (rdSl 72 5 rdOp7) z.1 [z.2] (withoutO l x.name ++ [x]) ∧ Sat (envOf W) w (A4 :: pt bk4_6 (.cells root4.cells.toArray 25 (0, 0)) :: pt bk10_2 (.cells [.int .i64 (x).do_, .string (x).name, .string (x).value, .slice sa sn sc, .int .i64 (x).back].toArray 46 (0, 0)) :: RO z.1 :: [])) ?_ ?_
      · skip
        rintro ⟨g6, wv⟩ w ⟨hg6, hl6, hw⟩
        dsimp only at hg6 hl6 hw ⊢
        have hm4 : MapOf (withoutO l x.name ++ [x]) (entsU q4 u4) := by rw [hst.ents]; exact hmp.ins x
        have hst1 := hst.len
        have hwl := without_len l x.name
        have hel4 := ents_le hm4 (n := 21) (by simp only [List.length_append, List.length_singleton]; omega)
        have h74 := hst.tree.low (by omega)
        all_goals
          refine g_seq ?_
          refine g_region ?_
          refine xV rfl rfl rfl (v_move rfl) ?_
          refine xV rfl rfl rfl (v_mkIface T.ptr_26 rfl) ?_
          refine rl_v rfl rfl rfl (by exact sat_cells hw (by (repeat first | with_reducible exact xH | apply xT); first | done | fail) ⟨rfl, rfl, rfl, rfl, trivial⟩) (v_loadAgg (vs := [_, _, _, _]) T.agg_25_4 rfl rfl) ?_
          refine xV rfl rfl rfl (v_fieldAddr0 T.fld_46_1_1 rfl) ?_
          refine rl_v rfl rfl rfl (by exact sat_cell hw (by (repeat first | with_reducible exact xH | apply xT); first | done | fail) rfl) (v_load T.scal_9 rfl) ?_
          refine rl_k rfl (k_callf Try.func22 rfl rfl rfl rfl ?_)
          refine Calls.mono (tget_calls x.name hst.tree (by omega) hok4 (HeapI.mono hg6 hI4) (hw.xQ)) ?_
          generalize hvr : ((findE (entsU q4 u4) x.name).getD en0).versions = vers
          generalize hnr : ((findE (entsU q4 u4) x.name).getD en0).name = nmr
          rintro _ w ⟨g7, A7, vv, hg7, hI7, rfl, _, hw⟩
          obtain ⟨va, vc, rfl, hv1, hv2, hva⟩ := hw.own_shape
          have hvn : (vers.flatMap Vn.cells).length = vers.length * 3 := hw.own_len
          refine ⟨_, rfl, ?_⟩
          refine xV rfl rfl rfl (v_move rfl) ?_
          refine xV rfl rfl rfl (v_extract rfl rfl) ?_
          refine xV rfl rfl rfl (v_extract rfl rfl) ?_
          refine xV rfl rfl rfl (v_extract rfl rfl) ?_
          refine rl_k rfl (k_alloc hw T.zero_49 rfl rfl (fun bk18_10 w hw => ?_))
          refine rl_k rfl (k_storeWhole hw T.agg_49_2 rfl rfl (by simp [Value.oneCell']) rfl (by (repeat first | with_reducible exact xH | apply xT); first | done | fail) rfl (fun w hw => ?_))
          refine xV rfl rfl rfl (v_assign rfl) ?_
          refine xV rfl rfl rfl (v_assign rfl) ?_
          refine rl_nil (g_le (xS rfl (xS rfl (xK (xK (xK (xK (xK (xK (xK (xK (xK (xK (xK (Fr.le_refl _)))))))))))))) ?_)
          refine g_seq ?_
          refine g_region ?_
          refine xV rfl rfl rfl (v_fieldAddr0 T.fld_49_1_1 rfl) ?_
          refine rl_v rfl rfl rfl (by exact sat_cell hw (by (repeat first | with_reducible exact xH | apply xT); first | done | fail) rfl) (v_load T.scal_47 rfl) ?_
          refine xV rfl rfl rfl (v_lenSlice T.sl_47_53_3 rfl) ?_
          refine xV rfl rfl rfl (v_move rfl) ?_
          refine rl_nil (g_le (xK (xK (xK (xK (Fr.le_refl _))))) ?_)
          refine g_block ?_
          simp only [maxLen] at hv2
          refine g_loopC (σ := Int × List Value) (fun C x => (77, .int .i64 x.1) :: C) [(2, _), (3, _), (4, _), (6, _), (8, _), (9, _), (10, _), (11, _), (12, _), (34, _), (35, _), (36, _), (37, _), (38, _), (39, _), (40, _), (41, _), (42, _), (43, _), (44, _), (45, _), (46, _), (47, _), (48, _), (49, _), (50, _), (51, _), (52, _), (53, _), (54, _), (55, _), (56, _), (64, _), (65, _), (66, _), (67, _), (68, _), (69, _), (70, _), (71, _), (72, _), (73, _), (74, _), (75, _), (76, _)] (by repeat (first | exact Fr.le_nil _ | refine Fr.le_cons rfl ?_)) (fun z w => 0 ≤ z.1 ∧ z.1 ≤ vers.length ∧ z.2.length = vers.length * 3 ∧ Sat (envOf W) w (OwnSl 53 3 (.slice va vers.length vc) vers.length z.2 :: pt bk18_10 (.cells [.string nmr, .slice va vers.length vc].toArray 49 (0, 0)) :: A7 :: pt bk4_6 (.cells root4.cells.toArray 25 (0, 0)) :: RO g7 :: [])) (fun z => (vers.length - z.1).toNat) ?_ (0, vers.flatMap Vn.cells) (by repeat (first | exact Fr.le_nil _ | refine Fr.le_cons rfl ?_)) ⟨by simp, by simp, hvn, hw.xQ⟩
          rintro ⟨j, vcs⟩ w ⟨hj0, hj1, hvn', hw⟩ ih2
          dsimp only at hj0 hj1 hvn' hw ⊢
          refine g_seq ?_
          refine g_region ?_
          refine xV rfl rfl rfl (v_lss rfl rfl) ?_
          refine rl_nil (g_le (xK (Fr.le_refl _)) ?_)
          refine g_seq ?_
          refine g_cond rfl (fun h5 => ?_) (fun h5 => ?_)
          · try with_reducible exact ft_elim h5
            all_goals
              try replace h5 := of_decide_eq_true h5
              refine g_skip (g_seq (g_block (g_seq ?_)))
              refine g_region ?_
              refine xV rfl rfl rfl (v_move rfl) ?_
              refine xV rfl rfl rfl (v_assign rfl) ?_
              refine rl_nil (g_le (xK (xK (Fr.le_refl _))) ?_)
              have hz := hw
              clear hw
              obtain ⟨vb2, rfl⟩ := hva (by omega)
              have hj : 0 + j.toNat * 3 + 1 < vcs.length := by omega
              have hw := hz
              refine g_region ?_
              refine xV rfl rfl rfl (v_fieldAddr0 T.fld_49_1_1 rfl) ?_
              refine rl_v rfl rfl rfl (by exact sat_cell hw (by (repeat first | with_reducible exact xH | apply xT); first | done | fail) rfl) (v_load T.scal_47 rfl) ?_
              refine xV rfl rfl rfl (v_move rfl) ?_
              refine xV rfl rfl rfl (v_indexAddr T.sl_47_53_3 rfl rfl (by omega) (by omega)) ?_
              refine xV rfl rfl rfl (v_fieldAddr T.fld_53_1_1 rfl) ?_
              refine rl_k rfl (k_storeOwn hw T.scal_9 rfl rfl rfl (by (repeat first | with_reducible exact xH | apply xT); first | done | fail) (by assumption) (fun w hw => ?_))
              refine rl_nil (g_le (xK (xK (xK (xK (xK (Fr.le_refl _)))))) ?_)
              refine g_inBlock ?_
              refine g_region ?_
              refine xV rfl rfl rfl (v_add rfl rfl (by omega)) ?_
              refine xV rfl rfl rfl (v_move rfl) ?_
              refine rl_nil (g_le (xK (xK (Fr.le_refl _))) ?_)
              exact g_le (by repeat (first | exact Fr.le_nil _ | refine Fr.le_cons rfl ?_)) (ih2 (j + 1, vcs.set (0 + j.toNat * 3 + 1) (.string ⟨#[115, 112, 111, 105, 108, 116, 32, 116, 111, 111]⟩)) w ⟨by simp only; omega, by simp only; omega, by simp only [List.length_set]; exact hvn', hw.xQ⟩ (by simp only; omega))
          · try with_reducible exact tf_elim h5
            all_goals
              try replace h5 := of_decide_eq_false h5
              refine g_exit rfl (g_inBlock ?_)
              refine g_region ?_
              refine xV rfl rfl rfl (v_add rfl rfl (by omega)) ?_
              refine xV rfl rfl rfl (v_move rfl) ?_
              refine rl_nil (g_le (xK (xK (Fr.le_refl _))) ?_)
              exact g_le (by repeat (first | exact Fr.le_nil _ | refine Fr.le_cons rfl ?_)) (ih (i + 1, g7, s4, A7, root4, wv, withoutO l x.name ++ [x]) w ⟨by simp only; omega, by simp only; omega, hg.trans (hg4.trans (hg6.trans hg7)), hI7, hok4, ⟨q4, u4, hst.tree, hm4⟩, by simp only [List.length_append, List.length_singleton]; omega, by simp only; omega, mono_sl mono_Op7 hg7 hl6, hw.xQ⟩ (by simp only; omega))
      · intro joins17
        refine g_drawR ord_f4_r17_H07O (by kernel_rfl) T.mixed hw (fun w hw => ?_)
        refine rs_a 0 rfl rfl rfl rfl (v_move rfl) ?_
        refine rs_a 1 rfl rfl rfl rfl (v_fieldAddr0 T.fld_46_1_1 rfl) ?_
        refine rs_v 2 rfl rfl rfl rfl (OpV.mono (v_load T.scal_9 rfl) (fun w hw => by exact sat_cell hw (by (repeat first | with_reducible exact xH | apply xT); first | done | fail) rfl)) (by exact hw) ?_
        refine rs_v 4 rfl rfl rfl rfl (OpV.mono (v_loadAgg (vs := [_, _, _, _, _]) T.agg_46_5 rfl rfl) (fun w hw => by exact sat_cells hw (by (repeat first | with_reducible exact xH | apply xT); first | done | fail) ⟨rfl, rfl, rfl, rfl, rfl, trivial⟩)) (by exact hw) ?_
        refine rs_b2 3 5 rfl rfl rfl rfl ?_ ?_ 
        · skip
          refine (k_callf Try.func21 rfl rfl rfl rfl ?_)
          refine Calls.mono (without_calls x.name (mono_sl mono_Op7 hg4 hl) (hw.xP (A := RO g4))) ?_
          rintro _ w ⟨wv, wcells, rfl, hwels, hw⟩
          obtain ⟨wa, wc, rfl, _, _, _⟩ := hw.own_shape
          have hlen : wcells.length = (withoutO l x.name).length * 5 := hwels.len
          have hone := hwels.ones one_Op7
          have hwl := without_len l x.name
          refine ⟨_, rfl, ?_⟩
          refine ⟨fun _ => (by exact Sat.sub hw (by (repeat (first | with_reducible exact Sub.refl _ | exact Sub.nil _ | (apply Sub.cons; focus ((repeat (first | with_reducible exact Pick.here _ | apply Pick.there)); (first | done | fail))) | with_reducible apply Sub.drop)); first | done | fail)), ?_⟩
          refine rs_k 5 rfl rfl (k_buildSlice (cells := [_, _, _, _, _]) hw T.sl_41_46_5 T.zero_46 rfl rfl rfl rfl rfl rfl (fun bk17_5 w hw => ?_))
          refine ⟨fun _ => (by exact Sat.sub hw (by (repeat (first | with_reducible exact Sub.refl _ | exact Sub.nil _ | (apply Sub.cons; focus ((repeat (first | with_reducible exact Pick.here _ | apply Pick.there)); (first | done | fail))) | with_reducible apply Sub.drop)); first | done | fail)), ?_⟩
          refine rs_k 6 rfl rfl (k_append (news := [_, _, _, _, _]) hw T.sl_41_46_5 T.zero_46 T.bytes_46_72 rfl (by decide) rfl rfl (by (repeat first | with_reducible exact xH | apply xT); first | done | fail) rfl (by exact sat_cells hw (by (repeat first | with_reducible exact xH | apply xT); first | done | fail) ⟨rfl, rfl, rfl, rfl, rfl, trivial⟩) (by simp [Value.oneCell']) (by omega) (by simp only [maxLen]; omega) rfl (fun vv17_6 w hw hnil => ?_))
          refine ⟨fun hn => absurd (by decide) hn, ?_⟩
          refine rs_kv 7 rfl rfl rfl rfl (S' := fun _ => True) trivial (v_assign rfl) ?_
          refine rs_done (g_le (xK (xK (xK (xK (xK (xK (xK (xK (Fr.le_refl _))))))))) ?_)
          obtain ⟨g6, hg6, hl6, hw⟩ := (hw.xQ : Sat (envOf W) w (RO g4 :: OwnSl 46 5 vv17_6 ((withoutO l x.name).length + 1) (wcells ++ [.int .i64 x.do_, .string x.name, .string x.value, .slice sa sn sc, .int .i64 x.back]) :: A4 :: pt bk4_6 (.cells root4.cells.toArray 25 (0, 0)) :: pt bk10_2 (.cells [.int .i64 (x).do_, .string (x).name, .string (x).value, .slice sa sn sc, .int .i64 (x).back].toArray 46 (0, 0)) :: [])).freeze_sl (bytes := 72) (xs := withoutO l x.name ++ [x]) mono_Op7 (hwels.append (Els.one rfl (mono_Op7 hg4 hrd))) (by simp) (by simp only [List.length_append, List.length_singleton, reachBytes]; omega)
          exact joins17 (g6, vv17_6) w _ (by repeat (first | exact Fr.le_nil _ | refine Fr.le_cons rfl ?_)) ⟨hg6, hl6, hw.xQ⟩
        · skip
          refine (k_buildSlice (cells := [_, _, _, _, _]) hw T.sl_41_46_5 T.zero_46 rfl rfl rfl rfl rfl rfl (fun bk17_5 w hw => ?_))
          refine ⟨fun _ => (by exact Sat.sub hw (by (repeat (first | with_reducible exact Sub.refl _ | exact Sub.nil _ | (apply Sub.cons; focus ((repeat (first | with_reducible exact Pick.here _ | apply Pick.there)); (first | done | fail))) | with_reducible apply Sub.drop)); first | done | fail)), ?_⟩
          refine rs_k 3 rfl rfl (k_callf Try.func21 rfl rfl rfl rfl ?_)
          refine Calls.mono (without_calls x.name (mono_sl mono_Op7 hg4 hl) (hw.xP (A := RO g4))) ?_
          rintro _ w ⟨wv, wcells, rfl, hwels, hw⟩
          obtain ⟨wa, wc, rfl, _, _, _⟩ := hw.own_shape
          have hlen : wcells.length = (withoutO l x.name).length * 5 := hwels.len
          have hone := hwels.ones one_Op7
          have hwl := without_len l x.name
          refine ⟨_, rfl, ?_⟩
          refine ⟨fun _ => (by exact Sat.sub hw (by (repeat (first | with_reducible exact Sub.refl _ | exact Sub.nil _ | (apply Sub.cons; focus ((repeat (first | with_reducible exact Pick.here _ | apply Pick.there)); (first | done | fail))) | with_reducible apply Sub.drop)); first | done | fail)), ?_⟩
          refine rs_k 6 rfl rfl (k_append (news := [_, _, _, _, _]) hw T.sl_41_46_5 T.zero_46 T.bytes_46_72 rfl (by decide) rfl rfl (by (repeat first | with_reducible exact xH | apply xT); first | done | fail) rfl (by exact sat_cells hw (by (repeat first | with_reducible exact xH | apply xT); first | done | fail) ⟨rfl, rfl, rfl, rfl, rfl, trivial⟩) (by simp [Value.oneCell']) (by omega) (by simp only [maxLen]; omega) rfl (fun vv17_6 w hw hnil => ?_))
          refine ⟨fun hn => absurd (by decide) hn, ?_⟩
          refine rs_kv 7 rfl rfl rfl rfl (S' := fun _ => True) trivial (v_assign rfl) ?_
          refine rs_done (g_le (xK (xK (xK (xK (xK (xK (xK (xK (Fr.le_refl _))))))))) ?_)
          obtain ⟨g6, hg6, hl6, hw⟩ := (hw.xQ : Sat (envOf W) w (RO g4 :: OwnSl 46 5 vv17_6 ((withoutO l x.name).length + 1) (wcells ++ [.int .i64 x.do_, .string x.name, .string x.value, .slice sa sn sc, .int .i64 x.back]) :: A4 :: pt bk4_6 (.cells root4.cells.toArray 25 (0, 0)) :: pt bk10_2 (.cells [.int .i64 (x).do_, .string (x).name, .string (x).value, .slice sa sn sc, .int .i64 (x).back].toArray 46 (0, 0)) :: [])).freeze_sl (bytes := 72) (xs := withoutO l x.name ++ [x]) mono_Op7 (hwels.append (Els.one rfl (mono_Op7 hg4 hrd))) (by simp) (by simp only [List.length_append, List.length_singleton, reachBytes]; omega)
          exact joins17 (g6, vv17_6) w _ (by repeat (first | exact Fr.le_nil _ | refine Fr.le_cons rfl ?_)) ⟨hg6, hl6, hw.xQ⟩
  · try with_reducible exact tf_elim h3
    all_goals
      try replace h3 := of_decide_eq_false h3
      refine g_exit rfl (g_seq ?_)
      refine g_region ?_
      refine xV rfl rfl rfl (v_move rfl) ?_
      refine xV rfl rfl rfl (v_mkIface T.ptr_26 rfl) ?_
      refine rl_v rfl rfl rfl (by exact sat_cells hw (by (repeat first | with_reducible exact xH | apply xT); first | done | fail) ⟨rfl, rfl, rfl, rfl, trivial⟩) (v_loadAgg (vs := [_, _, _, _]) T.agg_25_4 rfl rfl) ?_
      refine rl_k rfl (k_callf Try.func23 rfl rfl rfl rfl ?_)
      refine Calls.mono (tallO_calls ht (by omega) hrk hI (hw.xQ)) ?_
      rintro _ w ⟨g2, A2, sv, ts, hg2, hI2, rfl, hsn5, hw⟩
      generalize hnw : seenU hh 1 root u = now at hsn5 hw
      have htl := (hw.pick .at1).each_len
      obtain ⟨sla, slc, rfl, hsl1, hsl2, hsla⟩ := hw.own_shape
      refine ⟨_, rfl, ?_⟩
      refine xV rfl rfl rfl (v_move rfl) ?_
      refine xV rfl rfl rfl (v_extract rfl rfl) ?_
      refine xV rfl rfl rfl (v_extract rfl rfl) ?_
      refine xV rfl rfl rfl (v_assign rfl) ?_
      refine xV rfl rfl rfl (v_assign rfl) ?_
      refine rl_nil (g_le (xK (xK (xS rfl (xS rfl (xS rfl (xS rfl (xS rfl (xS rfl (xS rfl (Fr.le_refl _)))))))))) ?_)
      refine g_seq (g_seq ?_)
      refine g_region ?_
      refine xV rfl rfl rfl (v_move rfl) ?_
      refine xV rfl rfl rfl (v_lenSlice T.sl_57_61_8 rfl) ?_
      refine xV rfl rfl rfl (v_move rfl) ?_
      refine rl_nil (g_le (xK (xK (xK (Fr.le_refl _)))) ?_)
      refine g_block ?_
      simp only [maxLen] at hsl2
      refine g_loopC (σ := Nat) (fun C x => (96, .int .i64 (x : Nat)) :: C) [(2, _), (3, _), (4, _), (6, _), (17, _), (94, _), (95, _)] (by repeat (first | exact Fr.le_nil _ | refine Fr.le_cons rfl ?_)) (fun z w => z ≤ now.length ∧ Sat (envOf W) w (OwnSl 61 8 (.slice sla now.length slc) now.length (snCells now ts) :: eachOf NdOf (ts.drop z) (now.drop z) :: A2 :: pt bk4_6 (.cells root.cells.toArray 25 (0, 0)) :: RO g2 :: [])) (fun z => now.length - z) ?_ 0 (by repeat (first | exact Fr.le_nil _ | refine Fr.le_cons rfl ?_)) ⟨by simp, by simp only [List.drop_zero]; exact hw.xQ⟩
      rintro k w ⟨hk1, hw⟩ ih3
      refine g_seq ?_
      refine g_region ?_
      refine xV rfl rfl rfl (v_lss rfl rfl) ?_
      refine rl_nil (g_le (xK (Fr.le_refl _)) ?_)
      refine g_seq ?_
      refine g_cond rfl (fun h6 => ?_) (fun h6 => ?_)
      · try with_reducible exact ft_elim h6
        all_goals
          try replace h6 := of_decide_eq_true h6
          refine g_skip (g_seq (g_block (g_seq ?_)))
          have hz := hw
          clear hw
          obtain ⟨sb, rfl⟩ := hsla (by omega)
          obtain ⟨y, hy⟩ : ∃ y, now[k]? = some y := ⟨_, List.getElem?_eq_getElem (by omega)⟩
          obtain ⟨t, ht9⟩ : ∃ t, ts[k]? = some t := ⟨_, List.getElem?_eq_getElem (by omega)⟩
          have hsub := snCells_at hy ht9
          obtain ⟨hy1, hy2⟩ := List.getElem?_eq_some_iff.1 hy
          obtain ⟨ht1, ht2⟩ := List.getElem?_eq_some_iff.1 ht9
          rw [List.drop_eq_getElem_cons hy1, List.drop_eq_getElem_cons ht1, hy2, ht2] at hz
          obtain ⟨ev, kv, vs⟩ := t
          dsimp only at hsub
          have hw := Sat.flat (X := OwnSl 49 2 ev (y.node).entries.length (enCells (y.node).entries vs) :: eachOf VnsOf vs (y.node).entries :: KdsAt kv (y.node).kids :: []) (Sat.each_cons.1 (hz.pick .at1))
          simp only [List.cons_append, List.nil_append, Rf.cells] at hw hsub
          obtain ⟨a8, c8, rfl, _, _, _⟩ := hw.own_shape
          obtain ⟨a9, c9, rfl, _, _, _⟩ := (hw.pick .at2).own_shape
          refine g_region ?_
          refine xV rfl rfl rfl (v_indexAddr T.sl_57_61_8 rfl rfl (by omega) (by omega)) ?_
          refine rl_v rfl rfl rfl (by exact own_cells hw (by (repeat first | with_reducible exact xH | apply xT); first | done | fail) (by assumption)) (v_loadAgg (vs := [_, _, _, _, _, _, _, _]) T.agg_61_8 rfl rfl) ?_
          refine rl_k rfl (k_alloc hw T.zero_61 rfl rfl (fun bk28_2 w hw => ?_))
          refine rl_k rfl (k_storeWhole hw T.agg_61_8 rfl rfl (by simp [Value.oneCell']) rfl (by (repeat first | with_reducible exact xH | apply xT); first | done | fail) rfl (fun w hw => ?_))
          refine rl_nil (g_le (xK (xK (xK (Fr.le_refl _)))) ?_)
          refine g_region ?_
          refine xV rfl rfl rfl (v_fieldAddr0 T.fld_61_2_5 rfl) ?_
          refine rl_v rfl rfl rfl (by exact sat_cells hw (by (repeat first | with_reducible exact xH | apply xT); first | done | fail) ⟨rfl, rfl, rfl, trivial⟩) (v_loadAgg (vs := [_, _, _]) T.agg_32_3 rfl rfl) ?_
          refine rl_k rfl (k_callf Try.func24 rfl rfl rfl rfl ?_)
          refine Calls.mono (spoil7_calls (hw.xQ)) ?_
          rintro _ w ⟨rfl, hw⟩
          refine ⟨_, rfl, ?_⟩
          refine rl_nil (g_le (xS rfl (xK (xK (Fr.le_refl _)))) ?_)
          refine g_inBlock ?_
          refine g_region ?_
          refine xV rfl rfl rfl (v_add rfl rfl (by omega)) ?_
          refine xV rfl rfl rfl (v_move rfl) ?_
          refine rl_nil (g_le (xK (xK (Fr.le_refl _))) ?_)
          exact g_le (by repeat (first | exact Fr.le_nil _ | refine Fr.le_cons rfl ?_)) (ih3 (k + 1) w ⟨by omega, hw.xQ⟩ (by omega))
      · try with_reducible exact tf_elim h6
        all_goals
          try replace h6 := of_decide_eq_false h6
          refine g_exit rfl (g_seq ?_)
          refine g_region ?_
          refine xV rfl rfl rfl (v_move rfl) ?_
          refine rl_v rfl rfl rfl (by exact sat_cells hw (by (repeat first | with_reducible exact xH | apply xT); first | done | fail) ⟨rfl, rfl, rfl, rfl, trivial⟩) (v_loadAgg (vs := [_, _, _, _]) T.agg_25_4 rfl rfl) ?_
          refine rl_k rfl (k_callf Try.func15 rfl rfl rfl rfl ?_)
          refine Calls.mono (tread_calls root hrk hI2 (hw.xQ)) ?_
          rw [show rdH s root = (nodeU hh u, 0, s) from ht.pg]
          rintro _ w ⟨ev, kv, vs, rfl, hw⟩
          obtain ⟨a8, c8, rfl, _, _, _⟩ := hw.own_shape
          obtain ⟨a9, c9, rfl, _, _, _⟩ := (hw.pick .at2).own_shape
          refine ⟨_, rfl, ?_⟩
          refine xV rfl rfl rfl (v_move rfl) ?_
          refine xV rfl rfl rfl (v_extract rfl rfl) ?_
          refine xV rfl rfl rfl (v_extract rfl rfl) ?_
          refine rl_k rfl (k_alloc hw T.zero_32 rfl rfl (fun bk31_6 w hw => ?_))
          refine rl_k rfl (k_storeWhole hw T.agg_32_3 rfl rfl (by simp [Value.oneCell']) rfl (by (repeat first | with_reducible exact xH | apply xT); first | done | fail) rfl (fun w hw => ?_))
          refine xV rfl rfl rfl (v_assign rfl) ?_
          refine rl_nil (g_le (xK (xK (xS rfl (xS rfl (xS rfl (xS rfl (xS rfl (xS rfl (Fr.le_refl _))))))))) ?_)
          refine g_seq ?_
          refine g_region ?_
          refine rl_v rfl rfl rfl (by exact sat_cells hw (by (repeat first | with_reducible exact xH | apply xT); first | done | fail) ⟨rfl, rfl, rfl, trivial⟩) (v_loadAgg (vs := [_, _, _]) T.agg_32_3 rfl rfl) ?_
          refine rl_k rfl (k_callf Try.func24 rfl rfl rfl rfl ?_)
          refine Calls.mono (spoil7_calls (x := nodeU hh u) (hw.xQ)) ?_
          rintro _ w ⟨rfl, hw⟩
          refine ⟨_, rfl, ?_⟩
          refine rl_nil (g_le (xS rfl (xS rfl (Fr.le_refl _))) ?_)
          refine g_seq ?_
          refine g_region ?_
          refine xV rfl rfl rfl (v_move rfl) ?_
          refine xV rfl rfl rfl (v_eqlT rfl rfl (by omega)) ?_
          refine xV rfl rfl rfl (v_move rfl) ?_
          refine rl_vg (met_on rfl rfl rfl rfl) rfl rfl (S := fun _ => True) trivial (v_move rfl) ?_
          refine rl_vg (met_on rfl rfl rfl rfl) rfl rfl (S := fun _ => True) trivial (v_eqlT rfl rfl (by rfl)) ?_
          refine xV rfl rfl rfl (v_pick_true rfl rfl) ?_
          refine xV rfl rfl rfl (v_move rfl) ?_
          refine rl_vg (met_on rfl rfl rfl rfl) rfl rfl (S := fun _ => True) trivial (v_move rfl) ?_
          refine rl_vg (met_on rfl rfl rfl rfl) rfl rfl (by exact sat_cells hw (by (repeat first | with_reducible exact xH | apply xT); first | done | fail) ⟨rfl, rfl, rfl, rfl, trivial⟩) (v_loadAgg (vs := [_, _, _, _]) T.agg_25_4 rfl rfl) ?_
          refine rl_vg (met_on rfl rfl rfl rfl) rfl rfl (S := fun _ => True) trivial (v_move rfl) ?_
          refine rl_kg (met_on rfl rfl rfl rfl) (k_callf Try.func25 rfl rfl rfl rfl ?_); refine Calls.mono (shows_calls (mono_sl mono_Op7 hg2 hl) hmp ht (by omega) hrk hI2 (hw.xQ)) ?_; rintro _ w ⟨g9, A9, hg9, hI9, rfl, hw⟩; refine ⟨_, rfl, ?_⟩
          refine xV rfl rfl rfl (v_pick_true rfl rfl) ?_
          refine xV rfl rfl rfl (v_assign rfl) ?_
          refine rl_nil (g_le (xK (xS rfl (xS rfl (xS rfl (xS rfl (xS rfl (xS rfl (xS rfl (xS rfl (xS rfl (xS rfl (xS rfl (xS rfl (Fr.le_refl _)))))))))))))) ?_)
          refine g_ret1 Try.func4 rfl rfl ?_
          exact ⟨rfl, (hw.xQ : Sat (envOf W) w [RO g9]).shrink (hg.trans (hg2.trans hg9))⟩

set_option maxRecDepth 100000 in
theorem TreeOwn_lifted (os : Os) (started : os.Started) (H : Type) (enc : TypeId × Value → H) :
    ReturnsInHanded {} Try.checked os 4 .any (Rows.treeOwnSpec.pre6 enc Try.prog Try.f4 Rows.treeOwnRow.domain false) (Rows.treeOwnSpec.post enc Try.prog Try.f4 false true false false) := by
  refine returnsInHanded_of_change_sized (C := Try.checked) T.own started (by kernel_rfl) Try.func4
    (ChangeSpec.witness6 (enc := enc) (C := Try.checked) false ⟨#[], #[(.slice none 0 0)], []⟩ 8 (by kernel_rfl) (by kernel_rfl) (by kernel_rfl) (by kernel_rfl)) ?_
  intro W base args ds gs before hval0 hW hcnd hsz0 _
  have hval : ∀ (j : Nat) t v, Try.f4.params[j]? = some t → args[j]? = some v → Value.okWide Try.prog W .any base t v := hval0
  have hW' := hW
  obtain ⟨p, q, hA0, hV, rfl, hfz, hnd⟩ := hW
  have hA : DataW.TrodAll enc Try.prog W 0 (fun _ => true) true Try.f4.params.toList args.toList ds p := hA0
  obtain ⟨rfl, rfl⟩ := trodVars_none hV
  have hsz : (DataW.weightsEach Try.prog (Try.f4.params.toList ++ []) (ds ++ [])).all (· ≤ reachBytes) = true := hsz0
  rw [List.append_nil, List.append_nil] at hsz
  rw [Try.params4] at hA hval hsz
  obtain ⟨v0, vs0, d0, ds0, p0, q0, hargs, rfl, rfl, h0, r0⟩ := trodAll_cons hA
  obtain ⟨rfl, rfl, rfl⟩ := trodAll_nil r0
  obtain rfl : args = #[v0] := by cases args; simp_all
  have lt0 : ∀ x ∈ p0, x.block < W.heap.size := by obtain ⟨m, hm⟩ := h0; exact DataW.trod_lt m _ _ _ hm
  obtain ⟨x0, w0⟩ := arg_of (j := 0) (reads_sl T.sl_41_46_5 T.bytes_46_72 (by decide) reads_Op7) h0 hsz rfl rfl
  obtain ⟨a0, l0, c0, rfl⟩ := okWide_slice Try.underlying41 (hval 0 41 v0 rfl rfl)
  refine (TreeOwn_law w0).mono fun e W' ⟨he, hb⟩ => ?_
  have bel := hb.below
  subst he
  exact ⟨_, rfl, _, _, _, [], _, [], hW', trodAll_mk1 (shut_bool Try.underlying4 _), (trodAll_cons_mk (Below.trod T.laidOut (by kernel_rfl) (of_decide_eq_true (by kernel_rfl)) h0 bel lt0) trodAll_mk0), rfl, bel.frame _, fun h => by cases h⟩
theorem TreeOwn_holds : Rows.TreeOwnSaid :=
  OpenClaim.holds_of_wide 4 Try.f4 rfl rfl rfl rfl rfl rfl rfl ⟨rfl, rfl, rfl, rfl, rfl⟩ rfl rfl rfl rfl rfl (by kernel_rfl) Try.func4 (by kernel_rfl)
    (of_decide_eq_true (by kernel_rfl)) (by unfold Func.isWrapper; rw [if_neg (of_decide_eq_false (by kernel_rfl))]; exact ⟨rfl, rfl⟩)
    (fun os started H enc _ => TreeOwn_lifted os started H enc)
#print axioms TreeOwn_holds
end Go.Proofs.Ytmbngahboaljpaa
