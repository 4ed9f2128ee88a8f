/-
  Layer 8's laws: the document's Range, Nth, Floor.
-/
import Derived.Test.YtdiocmjhencbpaaL10
namespace Go.Proofs.Ytdiocmjhencbpaa
set_option maxRecDepth 8000
set_option linter.unusedSimpArgs false
set_option linter.unusedVariables false
open Go Xe
def lastO (q : List En) : En × Bool := match q.getLast? with | some e => (e, true) | none => (en0, false)
theorem lastO_snoc (q : List En) (e : En) : lastO (q ++ [e]) = (e, true) := by simp [lastO]
theorem lastO_at (q : List En) : atO8 q ((q.length : Int) - 1) 0 = ((lastO q).1, (lastO q).2, 0) := by
  unfold atO8 lastO
  cases h : q.getLast? with
  | none =>
    have : q = [] := List.getLast?_eq_none_iff.1 h
    subst this
    rw [if_pos (by simp)]
  | some e =>
    have hq : q ≠ [] := by rintro rfl; simp at h
    have hl := List.length_pos_iff.2 hq
    rw [if_neg (by omega), show ((q.length : Int) - 1).toNat = q.length - 1 by omega, List.getD_eq_getElem?_getD, ← List.getLast?_eq_getElem?, h]
    rfl
set_option maxHeartbeats 1000000 in
theorem rrange_calls {E : Env} {w : World} {L : List As} {g : Hp} {a : Option Addr} {n c : Nat} {es : List En} (from_ to : ByteArray) (hes : (rdSl 40 2 rdEn) g [.slice a n c] es) (hel : es.length ≤ 400000) (hw : Sat E w (RO g :: L)) :
    Calls Try.prog 21 #[.slice a n c, .string from_, .string to] w fun v w' => ∃ g' la ln lc, g.le g' ∧ v = .returned (.slice la ln lc) ∧ (rdSl 40 2 rdEn) g' [.slice la ln lc] (es.filter (pRange from_ to)) ∧ Sat E w' (RO g' :: L) := by
  obtain ⟨rfl, _, _, _, ge⟩ := rdSl_get hes
  refine calls_of_g (n := 37) Try.func21 rfl rfl rfl ?_
  change G _ _ _ _ _ [(0, _), (1, _), (2, _)] _
  refine g_seq ?_
  refine g_region ?_
  refine xV rfl rfl rfl (v_assign rfl) ?_
  refine rl_nil (g_le (xK (Fr.le_refl _)) ?_)
  refine g_seq ?_
  refine g_region ?_
  refine rl_k rfl (k_buildSlice0 hw T.sl_33_40_2 T.zero_40 rfl (fun bk1_0 w hw => ?_))
  refine xV rfl rfl rfl (v_assign rfl) ?_
  refine rl_nil (g_le (xK (xS rfl (Fr.le_refl _))) ?_)
  refine g_seq (g_seq ?_)
  refine g_region ?_
  refine xV rfl rfl rfl (v_move rfl) ?_
  refine xV rfl rfl rfl (v_lenSlice T.sl_33_40_2 rfl) ?_
  refine xV rfl rfl rfl (v_move rfl) ?_
  refine rl_nil (g_le (xK (xK (xK (Fr.le_refl _)))) ?_)
  refine g_block ?_
  refine g_loopC (σ := Nat × Value × List Value) (fun C x => (13, .int .i64 (x.1 : Nat)) :: (7, x.2.1) :: C) [(1, _), (2, _), (6, _), (11, _), (12, _)] (by repeat (first | exact Fr.le_nil _ | refine Fr.le_cons rfl ?_)) (fun z w => z.1 ≤ es.length ∧ Els rdEn 2 g z.2.2 ((es.take z.1).filter (pRange from_ to)) ∧ Sat E w (OwnSl 40 2 z.2.1 ((es.take z.1).filter (pRange from_ to)).length z.2.2 :: RO g :: L)) (fun z => es.length - z.1) ?_ (0, .slice (some ⟨bk1_0, 0, none⟩) 0 0, []) (by repeat (first | exact Fr.le_nil _ | refine Fr.le_cons rfl ?_)) ⟨by simp, Els.nil, by simp only [List.take_zero, List.filter_nil, List.length_nil]; exact hw.xQ⟩
  rintro ⟨k, ov, ocs⟩ w ⟨hk1, hels, hw⟩ ih
  dsimp only at hk1 hels hw ih ⊢
  refine g_seq ?_
  refine g_region ?_
  refine xV rfl rfl rfl (v_lss rfl rfl) ?_
  refine rl_nil (g_le (xK (Fr.le_refl _)) ?_)
  refine g_seq ?_
  refine g_cond rfl (fun h1 => ?_) (fun h1 => ?_)
  · try with_reducible exact ft_elim h1
    all_goals
      try replace h1 := of_decide_eq_true h1
      refine g_skip (g_seq (g_block (g_seq ?_)))
      have hz := hw
      clear hw
      obtain ⟨b6, o6, e, ecs, rfl, he, hat6, hl6, hrde⟩ := ge (k : Nat) (by omega) (by omega)
      rw [Int.toNat_natCast] at he hat6
      obtain ⟨va, vn, vc, rfl, hrde⟩ := en_told hrde
      have hte : es.take (k + 1) = es.take k ++ [e] := by rw [List.take_add_one, he]; rfl
      have htl : ((es.take k).filter (pRange from_ to)).length ≤ 400000 := by have := List.length_filter_le (pRange from_ to) (es.take k); rw [List.length_take] at this; omega
      obtain ⟨oa, oc, rfl, _, _, _⟩ := hz.own_shape
      have hlen := hels.len
      have hone := hels.ones one_En
      have hw := hz
      refine g_region ?_
      refine xV rfl rfl rfl (v_indexAddr T.sl_33_40_2 rfl rfl (by omega) (by omega)) ?_
      refine rl_v rfl rfl rfl (by exact ro_ats hw (by (repeat first | with_reducible exact xH | apply xT); first | done | fail) (by assumption)) (v_loadAgg (vs := [_, _]) T.agg_40_2 rfl rfl) ?_
      refine rl_k rfl (k_alloc hw T.zero_40 rfl rfl (fun bk4_2 w hw => ?_))
      refine rl_k rfl (k_storeWhole hw T.agg_40_2 rfl rfl (by simp [Value.oneCell']) rfl (by (repeat first | with_reducible exact xH | apply xT); first | done | fail) rfl (fun w hw => ?_))
      refine rl_nil (g_le (xK (xK (xK (Fr.le_refl _)))) ?_)
      refine g_seq ?_
      refine g_cutc (σ := Unit) (fun C x => (30, .bool (pRange from_ to e)) :: C) [(1, _), (2, _), (6, _), (7, _), (9, _), (11, _), (12, _), (13, _), (14, _), (15, _), (16, _)] (by repeat (first | exact Fr.le_nil _ | refine Fr.le_cons rfl ?_)) (fun z w => Sat E w (OwnSl 40 2 (.slice oa ((es.take k).filter (pRange from_ to)).length oc) ((es.take k).filter (pRange from_ to)).length ocs :: pt bk4_2 (.cells [Value.string e.name, .slice va vn vc].toArray 40 (0, 0)) :: RO g :: L)) ?_ ?_
      · skip
        rintro ⟨⟩ w hw
        all_goals
          refine g_cond rfl (fun h2 => ?_) (fun h2 => ?_)
          · try with_reducible exact ft_elim h2
            all_goals
              try replace h2 := of_decide_eq_true h2
              refine g_region ?_
              refine xV rfl rfl rfl (v_move rfl) ?_
              refine rl_v rfl rfl rfl (by exact sat_cells hw (by (repeat first | with_reducible exact xH | apply xT); first | done | fail) ⟨rfl, rfl, trivial⟩) (v_loadAgg (vs := [_, _]) T.agg_40_2 rfl rfl) ?_
              refine rl_k rfl (k_buildSlice (cells := [_, _]) hw T.sl_33_40_2 T.zero_40 rfl rfl rfl rfl rfl rfl (fun bk6_2 w hw => ?_))
              refine rl_k rfl (k_append (news := [_, _]) hw T.sl_33_40_2 T.zero_40 T.bytes_40_40 rfl (by decide) rfl rfl (by (repeat first | with_reducible exact xH | apply xT); first | done | fail) rfl (by exact sat_cells hw (by (repeat first | with_reducible exact xH | apply xT); first | done | fail) ⟨rfl, rfl, trivial⟩) (by simp [Value.oneCell']) (by omega) (by simp only [maxLen]; omega) rfl (fun vv6_3 w hw hnil => ?_))
              refine xV rfl rfl rfl (v_assign rfl) ?_
              refine rl_nil (g_le (xK (xK (xK (xK (xK (Fr.le_refl _)))))) ?_)
              refine g_inBlock ?_
              refine g_region ?_
              refine xV rfl rfl rfl (v_add rfl rfl (by omega)) ?_
              refine xV rfl rfl rfl (v_move rfl) ?_
              refine rl_nil (g_le (xK (xK (Fr.le_refl _))) ?_)
              have e1 : (es.take (k + 1)).filter (pRange from_ to) = (es.take k).filter (pRange from_ to) ++ [e] := by rw [hte, List.filter_append]; simp [h2]
              exact g_le (by repeat (first | exact Fr.le_nil _ | refine Fr.le_cons rfl ?_)) (ih (k + 1, vv6_3, _) w ⟨by simp only; omega, by dsimp only; rw [e1]; exact hels.snoc rfl hrde, by dsimp only; rw [e1, List.length_append (bs := [e]), List.length_singleton]; exact hw.xQ⟩ (by simp only; omega))
          · try with_reducible exact tf_elim h2
            all_goals
              try replace h2 := of_decide_eq_false h2
              refine g_skip (g_inBlock ?_)
              refine g_region ?_
              refine xV rfl rfl rfl (v_add rfl rfl (by omega)) ?_
              refine xV rfl rfl rfl (v_move rfl) ?_
              refine rl_nil (g_le (xK (xK (Fr.le_refl _))) ?_)
              have e1 : (es.take (k + 1)).filter (pRange from_ to) = (es.take k).filter (pRange from_ to) := by rw [hte, List.filter_append]; simp [h2]
              exact g_le (by repeat (first | exact Fr.le_nil _ | refine Fr.le_cons rfl ?_)) (ih (k + 1, _, ocs) w ⟨by simp only; omega, by dsimp only; rw [e1]; exact hels, by dsimp only; rw [e1]; exact hw.xQ⟩ (by simp only; omega))
      · intro joins5
        refine g_region ?_
        refine xV rfl rfl rfl (v_fieldAddr0 T.fld_40_0_0 rfl) ?_
        refine rl_v rfl rfl rfl (by exact sat_cell hw (by (repeat first | with_reducible exact xH | apply xT); first | done | fail) rfl) (v_load T.scal_9 rfl) ?_
        refine xV rfl rfl rfl (v_move rfl) ?_
        refine xV rfl rfl rfl (v_geqStr rfl rfl) ?_
        refine xV rfl rfl rfl (v_move rfl) ?_
        refine rl_split (s := 21) rfl (fun g5_4 => ?_) (fun g5_4 => ?_)
        · try with_reducible exact ft_elim g5_4
          all_goals
            try replace g5_4 := of_decide_eq_true g5_4
            refine rl_vg (met_on rfl rfl rfl rfl) rfl rfl (S := fun _ => True) trivial (v_move rfl) ?_
            refine rl_vg (met_on rfl rfl rfl rfl) rfl rfl (S := fun _ => True) trivial (v_eqlStr rfl rfl) ?_
            refine rl_vg (met_on rfl rfl rfl rfl) rfl rfl (S := fun _ => True) trivial (v_move rfl) ?_
            refine rl_split (s := 24) rfl (fun g5_7 => ?_) (fun g5_7 => ?_)
            · try with_reducible exact ft_elim g5_7
              all_goals
                try replace g5_7 := of_decide_eq_true g5_7
                refine rl_off (met_off rfl rfl rfl rfl rfl) rfl rfl ?_
                refine rl_off (met_off rfl rfl rfl rfl rfl) rfl rfl ?_
                refine rl_off (met_off rfl rfl rfl rfl rfl) rfl rfl ?_
                refine rl_off (met_off rfl rfl rfl rfl rfl) rfl rfl ?_
                refine rl_vg (met_on rfl rfl rfl rfl) rfl rfl (S := fun _ => True) trivial (v_pick_true rfl rfl) ?_
                refine xV rfl rfl rfl (v_pick_true rfl rfl) ?_
                refine rl_nil (g_le (xK (xK (xK (xK (xK (xK (xK (xK (xK (xK (xK (xK (xK (xK (xK (xK (Fr.le_refl _))))))))))))))))) ?_)
                have e1 : pRange from_ to e = true := by unfold pRange; rw [if_pos g5_4, if_pos (show to = ByteArray.empty from g5_7)]
                refine joins5 () w _ ?_ (hw.xQ)
                rw [e1]
                exact (by repeat (first | exact Fr.le_nil _ | refine Fr.le_cons rfl ?_))
            · try with_reducible exact tf_elim g5_7
              all_goals
                try replace g5_7 := of_decide_eq_false g5_7
                refine rl_vg (met_on rfl rfl rfl rfl) rfl rfl (S := fun _ => True) trivial (v_fieldAddr0 T.fld_40_0_0 rfl) ?_
                refine rl_vg (met_on rfl rfl rfl rfl) rfl rfl (by exact sat_cell hw (by (repeat first | with_reducible exact xH | apply xT); first | done | fail) rfl) (v_load T.scal_9 rfl) ?_
                refine rl_vg (met_on rfl rfl rfl rfl) rfl rfl (S := fun _ => True) trivial (v_move rfl) ?_
                refine rl_vg (met_on rfl rfl rfl rfl) rfl rfl (S := fun _ => True) trivial (v_lssStr rfl rfl) ?_
                refine rl_vg (met_on rfl rfl rfl rfl) rfl rfl (S := fun _ => True) trivial (v_pick_false rfl rfl) ?_
                refine xV rfl rfl rfl (v_pick_true rfl rfl) ?_
                refine rl_nil (g_le (xK (xK (xK (xK (xK (xK (xK (xK (xK (xK (xK (xK (xK (xK (xK (xK (Fr.le_refl _))))))))))))))))) ?_)
                have e1 : pRange from_ to e = sl e.name to := by unfold pRange; rw [if_pos g5_4, if_neg (show ¬ to = ByteArray.empty from g5_7)]
                refine joins5 () w _ ?_ (hw.xQ)
                rw [e1]
                exact (by repeat (first | exact Fr.le_nil _ | refine Fr.le_cons rfl ?_))
        · try with_reducible exact tf_elim g5_4
          all_goals
            try replace g5_4 := of_decide_eq_false g5_4
            refine rl_off (met_off rfl rfl rfl rfl rfl) rfl rfl ?_
            refine rl_off (met_off rfl rfl rfl rfl rfl) rfl rfl ?_
            refine rl_off (met_off rfl rfl rfl rfl rfl) rfl rfl ?_
            refine rl_off (met_gone rfl rfl rfl rfl) rfl rfl ?_
            refine rl_off (met_gone rfl rfl rfl rfl) rfl rfl ?_
            refine rl_off (met_gone rfl rfl rfl rfl) rfl rfl ?_
            refine rl_off (met_gone rfl rfl rfl rfl) rfl rfl ?_
            refine rl_off (met_off rfl rfl rfl rfl rfl) rfl rfl ?_
            refine xV rfl rfl rfl (v_pick_false rfl rfl) ?_
            refine rl_nil (g_le (xK (xK (xK (xK (xK (xK (xK (xK (xK (xK (xK (xK (xK (xK (xK (Fr.le_refl _)))))))))))))))) ?_)
            have e1 : pRange from_ to e = false := by unfold pRange; rw [if_neg (by rw [g5_4]; simp)]
            refine joins5 () w _ ?_ (hw.xQ)
            rw [e1]
            exact (by repeat (first | exact Fr.le_nil _ | refine Fr.le_cons rfl ?_))
  · try with_reducible exact tf_elim h1
    all_goals
      try replace h1 := of_decide_eq_false h1
      refine g_exit rfl (g_seq ?_)
      rw [List.take_of_length_le (by omega)] at hels hw
      have hfl := List.length_filter_le (pRange from_ to) es
      obtain ⟨oa, oc, rfl, hoc, _, _⟩ := hw.own_shape
      obtain ⟨g2, hg2, hres, hw⟩ := (hw.xQ : Sat E w (RO g :: OwnSl 40 2 (.slice oa (es.filter (pRange from_ to)).length oc) (es.filter (pRange from_ to)).length ocs :: L)).freeze_sl (bytes := 40) mono_En hels rfl (by simp only [reachBytes]; omega)
      refine g_region ?_
      refine xV rfl rfl rfl (v_move rfl) ?_
      refine xV rfl rfl rfl (v_assign rfl) ?_
      refine rl_nil (g_le (xK (xS rfl (Fr.le_refl _))) ?_)
      refine g_ret1 Try.func21 rfl rfl ?_
      exact ⟨g2, _, _, _, hg2, rfl, hres, hw.xQ⟩
theorem rnth_calls {E : Env} {w : World} {L : List As} {g : Hp} {la : Option Addr} {ln lc : Nat} {l : List En} (n : Int) (hl : (rdSl 40 2 rdEn) g [.slice la ln lc] l) (hw : Sat E w (RO g :: L)) :
    Calls Try.prog 18 #[.slice la ln lc, .int .i64 n] w fun v w' => ∃ ecs, v = .returned (.tuple #[.agg ecs.toArray, .bool (atO8 l n 0).2.1]) ∧ rdEn g ecs (atO8 l n 0).1 ∧ Sat E w' (RO g :: L) := by
  obtain ⟨rfl, _, hnc, hnm, gn⟩ := rdSl_get hl
  simp only [maxLen] at hnm
  have hen0 : rdEn g [.string ByteArray.empty, .slice none 0 0] en0 := ⟨_, _, rfl, ⟨rfl, by decide⟩, rdSl_nil _⟩
  refine calls_of_g (n := 19) Try.func18 rfl rfl rfl ?_
  change G _ _ _ _ _ [(0, _), (1, _)] _
  refine g_seq ?_
  refine g_region ?_
  refine rl_k rfl (k_alloc hw T.zero_40 rfl rfl (fun bk0_0 w hw => ?_))
  refine xV rfl rfl rfl (v_assign rfl) ?_
  refine rl_nil (g_le (xK (xK (Fr.le_refl _))) ?_)
  refine g_seq (g_seq ?_)
  refine g_region ?_
  refine xV rfl rfl rfl (v_move rfl) ?_
  refine xV rfl rfl rfl (v_lss rfl rfl) ?_
  refine xV rfl rfl rfl (v_move rfl) ?_
  refine rl_split (s := 8) rfl (fun g1_2 => ?_) (fun g1_2 => ?_)
  · try with_reducible exact ft_elim g1_2
    all_goals
      try replace g1_2 := of_decide_eq_true g1_2
      refine rl_off (met_off rfl rfl rfl rfl rfl) rfl rfl ?_
      refine rl_off (met_off rfl rfl rfl rfl rfl) rfl rfl ?_
      refine rl_off (met_off rfl rfl rfl rfl rfl) rfl rfl ?_
      refine rl_off (met_off rfl rfl rfl rfl rfl) rfl rfl ?_
      refine xV rfl rfl rfl (v_pick_true rfl rfl) ?_
      refine rl_nil (g_le (xK (xS rfl (xS rfl (xS rfl (xS rfl (xS rfl (xS rfl (xS rfl (xS rfl (Fr.le_refl _)))))))))) ?_)
      refine g_cond_true rfl ?_
      refine g_seq ?_
      refine g_region ?_
      refine xV rfl rfl rfl (v_build rfl (T.build_40 ..)) ?_
      refine rl_k rfl (k_storeWhole hw T.agg_40_2 rfl rfl (by simp [Value.oneCell']) rfl (by (repeat first | with_reducible exact xH | apply xT); first | done | fail) rfl (fun w hw => ?_))
      refine xV rfl rfl rfl (v_assign rfl) ?_
      refine rl_nil (g_le (xK (xS rfl (Fr.le_refl _))) ?_)
      refine g_res2 Try.func18 rfl ⟨_, rfl, holds_agg (vs := [_, _]) T.agg_40_2 rfl (by exact sat_cells hw (by (repeat first | with_reducible exact xH | apply xT); first | done | fail) ⟨rfl, rfl, trivial⟩)⟩ rfl ?_
      have e : atO8 l n 0 = (en0, false, 0) := if_pos (by omega)
      rw [e]
      exact ⟨_, rfl, hen0, hw.xQ⟩
  · try with_reducible exact tf_elim g1_2
    all_goals
      try replace g1_2 := of_decide_eq_false g1_2
      refine rl_vg (met_on rfl rfl rfl rfl) rfl rfl (S := fun _ => True) trivial (v_move rfl) ?_
      refine rl_vg (met_on rfl rfl rfl rfl) rfl rfl (S := fun _ => True) trivial (v_move rfl) ?_
      refine rl_vg (met_on rfl rfl rfl rfl) rfl rfl (S := fun _ => True) trivial (v_lenSlice T.sl_33_40_2 rfl) ?_
      refine rl_vg (met_on rfl rfl rfl rfl) rfl rfl (S := fun _ => True) trivial (v_geq rfl rfl) ?_
      refine xV rfl rfl rfl (v_pick_false rfl rfl) ?_
      refine rl_nil (g_le (xK (xS rfl (xS rfl (xS rfl (xS rfl (xS rfl (xS rfl (xS rfl (xS rfl (Fr.le_refl _)))))))))) ?_)
      refine g_cond rfl (fun h1 => ?_) (fun h1 => ?_)
      · try with_reducible exact ft_elim h1
        all_goals
          try replace h1 := of_decide_eq_true h1
          refine g_seq ?_
          refine g_region ?_
          refine xV rfl rfl rfl (v_build rfl (T.build_40 ..)) ?_
          refine rl_k rfl (k_storeWhole hw T.agg_40_2 rfl rfl (by simp [Value.oneCell']) rfl (by (repeat first | with_reducible exact xH | apply xT); first | done | fail) rfl (fun w hw => ?_))
          refine xV rfl rfl rfl (v_assign rfl) ?_
          refine rl_nil (g_le (xK (xS rfl (Fr.le_refl _))) ?_)
          refine g_res2 Try.func18 rfl ⟨_, rfl, holds_agg (vs := [_, _]) T.agg_40_2 rfl (by exact sat_cells hw (by (repeat first | with_reducible exact xH | apply xT); first | done | fail) ⟨rfl, rfl, trivial⟩)⟩ rfl ?_
          have e : atO8 l n 0 = (en0, false, 0) := if_pos (by omega)
          rw [e]
          exact ⟨_, rfl, hen0, hw.xQ⟩
      · try with_reducible exact tf_elim h1
        all_goals
          try replace h1 := of_decide_eq_false h1
          refine g_skip (g_seq ?_)
          obtain ⟨b6, o6, e, ecs, rfl, he, hat6, hl6, hrde⟩ := gn n (by omega) (by omega)
          obtain ⟨va, vn, vc, rfl, hrde⟩ := en_told hrde
          refine g_region ?_
          refine xV rfl rfl rfl (v_move rfl) ?_
          refine xV rfl rfl rfl (v_move rfl) ?_
          refine xV rfl rfl rfl (v_indexAddr T.sl_33_40_2 rfl rfl (by omega) (by omega)) ?_
          refine rl_v rfl rfl rfl (by exact ro_ats hw (by (repeat first | with_reducible exact xH | apply xT); first | done | fail) (by assumption)) (v_loadAgg (vs := [_, _]) T.agg_40_2 rfl rfl) ?_
          refine rl_k rfl (k_storeWhole hw T.agg_40_2 rfl rfl (by simp [Value.oneCell']) rfl (by (repeat first | with_reducible exact xH | apply xT); first | done | fail) rfl (fun w hw => ?_))
          refine xV rfl rfl rfl (v_assign rfl) ?_
          refine rl_nil (g_le (xK (xS rfl (xS rfl (xS rfl (xS rfl (Fr.le_refl _)))))) ?_)
          refine g_res2 Try.func18 rfl ⟨_, rfl, holds_agg (vs := [_, _]) T.agg_40_2 rfl (by exact sat_cells hw (by (repeat first | with_reducible exact xH | apply xT); first | done | fail) ⟨rfl, rfl, trivial⟩)⟩ rfl ?_
          have e9 : atO8 l n 0 = (e, true, 0) := by unfold atO8; rw [if_neg (by omega), List.getD_eq_getElem?_getD, he]; rfl
          rw [e9]
          exact ⟨_, rfl, hrde, hw.xQ⟩
theorem rfloor_calls {E : Env} {w : World} {L : List As} {g : Hp} {la : Option Addr} {ln lc : Nat} {es : List En} (name : ByteArray) (hl : (rdSl 40 2 rdEn) g [.slice la ln lc] es) (hw : Sat E w (RO g :: L)) :
    Calls Try.prog 19 #[.slice la ln lc, .string name] w fun v w' => ∃ ecs, v = .returned (.tuple #[.agg ecs.toArray, .bool (lastO (es.filter (pFloor name))).2]) ∧ rdEn g ecs (lastO (es.filter (pFloor name))).1 ∧ Sat E w' (RO g :: L) := by
  obtain ⟨rfl, _, hnc, hnm, ge⟩ := rdSl_get hl
  simp only [maxLen] at hnm
  have hen0 : rdEn g [.string ByteArray.empty, .slice none 0 0] en0 := ⟨_, _, rfl, ⟨rfl, by decide⟩, rdSl_nil _⟩
  refine calls_of_g (n := 25) Try.func19 rfl rfl rfl ?_
  change G _ _ _ _ _ [(0, _), (1, _)] _
  refine g_seq ?_
  refine g_region ?_
  refine rl_k rfl (k_alloc hw T.zero_40 rfl rfl (fun bk0_0 w hw => ?_))
  refine xV rfl rfl rfl (v_assign rfl) ?_
  refine rl_nil (g_le (xK (xK (Fr.le_refl _))) ?_)
  refine g_seq ?_
  refine g_region ?_
  refine xV rfl rfl rfl (v_build rfl (T.build_40 ..)) ?_
  refine rl_k rfl (k_alloc hw T.zero_40 rfl rfl (fun bk1_1 w hw => ?_))
  refine rl_k rfl (k_storeWhole hw T.agg_40_2 rfl rfl (by simp [Value.oneCell']) rfl (by (repeat first | with_reducible exact xH | apply xT); first | done | fail) rfl (fun w hw => ?_))
  refine rl_nil (g_le (xK (xS rfl (Fr.le_refl _))) ?_)
  refine g_seq ?_
  refine g_region ?_
  refine xV rfl rfl rfl (v_assign rfl) ?_
  refine rl_nil (g_le (xK (Fr.le_refl _)) ?_)
  refine g_seq (g_seq ?_)
  refine g_region ?_
  refine xV rfl rfl rfl (v_move rfl) ?_
  refine xV rfl rfl rfl (v_lenSlice T.sl_33_40_2 rfl) ?_
  refine xV rfl rfl rfl (v_move rfl) ?_
  refine rl_nil (g_le (xK (xK (xK (Fr.le_refl _)))) ?_)
  refine g_block ?_
  refine g_loopC (σ := Nat × ByteArray × Option Addr × Nat × Nat) (fun C x => (13, .int .i64 (x.1 : Nat)) :: (7, .bool (lastO ((es.take x.1).filter (pFloor name))).2) :: C) [(1, _), (4, _), (5, _), (6, _), (11, _), (12, _)] (by repeat (first | exact Fr.le_nil _ | refine Fr.le_cons rfl ?_)) (fun z w => z.1 ≤ es.length ∧ rdEn g [.string z.2.1, .slice z.2.2.1 z.2.2.2.1 z.2.2.2.2] (lastO ((es.take z.1).filter (pFloor name))).1 ∧ Sat E w (pt bk1_1 (.cells [Value.string z.2.1, .slice z.2.2.1 z.2.2.2.1 z.2.2.2.2].toArray 40 (0, 0)) :: pt bk0_0 (.cells [Value.string ByteArray.empty, .slice none 0 0].toArray 40 (0, 0)) :: RO g :: L)) (fun z => es.length - z.1) ?_ (0, ByteArray.empty, none, 0, 0) (by repeat (first | exact Fr.le_nil _ | refine Fr.le_cons rfl ?_)) ⟨by simp, hen0, hw.xQ⟩
  rintro ⟨k, fn, fa, fl, fc⟩ w ⟨hk1, hfd, hw⟩ ih
  dsimp only at hk1 hfd hw ih ⊢
  refine g_seq ?_
  refine g_region ?_
  refine xV rfl rfl rfl (v_lss rfl rfl) ?_
  refine rl_nil (g_le (xK (Fr.le_refl _)) ?_)
  refine g_seq ?_
  refine g_cond rfl (fun h1 => ?_) (fun h1 => ?_)
  · try with_reducible exact ft_elim h1
    all_goals
      try replace h1 := of_decide_eq_true h1
      refine g_skip (g_seq (g_block (g_seq ?_)))
      have hz := hw
      clear hw
      obtain ⟨b6, o6, e, ecs, rfl, he, hat6, hl6, hrde⟩ := ge (k : Nat) (by omega) (by omega)
      rw [Int.toNat_natCast] at he hat6
      obtain ⟨va, vn, vc, rfl, hrde⟩ := en_told hrde
      have hte : es.take (k + 1) = es.take k ++ [e] := by rw [List.take_add_one, he]; rfl
      have hw := hz
      refine g_region ?_
      refine xV rfl rfl rfl (v_indexAddr T.sl_33_40_2 rfl rfl (by omega) (by omega)) ?_
      refine rl_v rfl rfl rfl (by exact ro_ats hw (by (repeat first | with_reducible exact xH | apply xT); first | done | fail) (by assumption)) (v_loadAgg (vs := [_, _]) T.agg_40_2 rfl rfl) ?_
      refine rl_k rfl (k_alloc hw T.zero_40 rfl rfl (fun bk5_2 w hw => ?_))
      refine rl_k rfl (k_storeWhole hw T.agg_40_2 rfl rfl (by simp [Value.oneCell']) rfl (by (repeat first | with_reducible exact xH | apply xT); first | done | fail) rfl (fun w hw => ?_))
      refine rl_nil (g_le (xK (xK (xK (Fr.le_refl _)))) ?_)
      refine g_seq ?_
      refine g_region ?_
      refine xV rfl rfl rfl (v_fieldAddr0 T.fld_40_0_0 rfl) ?_
      refine rl_v rfl rfl rfl (by exact sat_cell hw (by (repeat first | with_reducible exact xH | apply xT); first | done | fail) rfl) (v_load T.scal_9 rfl) ?_
      refine xV rfl rfl rfl (v_move rfl) ?_
      refine xV rfl rfl rfl (v_leqStr rfl rfl) ?_
      refine rl_nil (g_le (xK (xK (xK (xK (Fr.le_refl _))))) ?_)
      refine g_cond rfl (fun h2 => ?_) (fun h2 => ?_)
      · try with_reducible exact ft_elim h2
        all_goals
          try replace h2 := of_decide_eq_true h2
          refine g_seq ?_
          refine g_region ?_
          refine rl_v rfl rfl rfl (by exact sat_cells hw (by (repeat first | with_reducible exact xH | apply xT); first | done | fail) ⟨rfl, rfl, trivial⟩) (v_loadAgg (vs := [_, _]) T.agg_40_2 rfl rfl) ?_
          refine rl_k rfl (k_storeWhole hw T.agg_40_2 rfl rfl (by simp [Value.oneCell']) rfl (by (repeat first | with_reducible exact xH | apply xT); first | done | fail) rfl (fun w hw => ?_))
          refine rl_nil (g_le (xK (Fr.le_refl _)) ?_)
          refine g_region ?_
          refine xV rfl rfl rfl (v_assign rfl) ?_
          refine rl_nil (g_le (xK (Fr.le_refl _)) ?_)
          refine g_inBlock ?_
          refine g_region ?_
          refine xV rfl rfl rfl (v_add rfl rfl (by omega)) ?_
          refine xV rfl rfl rfl (v_move rfl) ?_
          refine rl_nil (g_le (xK (xK (Fr.le_refl _))) ?_)
          have e1 : (es.take (k + 1)).filter (pFloor name) = (es.take k).filter (pFloor name) ++ [e] := by rw [hte, List.filter_append]; simp [pFloor, h2]
          refine g_le ?_ (ih (k + 1, e.name, va, vn, vc) w ⟨by simp only; omega, by dsimp only; rw [e1, lastO_snoc]; exact hrde, hw.xQ⟩ (by simp only; omega))
          dsimp only
          rw [e1, lastO_snoc]
          exact (by repeat (first | exact Fr.le_nil _ | refine Fr.le_cons rfl ?_))
      · try with_reducible exact tf_elim h2
        all_goals
          try replace h2 := of_decide_eq_false h2
          refine g_skip (g_inBlock ?_)
          refine g_region ?_
          refine xV rfl rfl rfl (v_add rfl rfl (by omega)) ?_
          refine xV rfl rfl rfl (v_move rfl) ?_
          refine rl_nil (g_le (xK (xK (Fr.le_refl _))) ?_)
          have e1 : (es.take (k + 1)).filter (pFloor name) = (es.take k).filter (pFloor name) := by rw [hte, List.filter_append]; simp [pFloor, h2]
          refine g_le ?_ (ih (k + 1, fn, fa, fl, fc) w ⟨by simp only; omega, by dsimp only; rw [e1]; exact hfd, hw.xQ⟩ (by simp only; omega))
          dsimp only
          rw [e1]
          exact (by repeat (first | exact Fr.le_nil _ | refine Fr.le_cons rfl ?_))
  · try with_reducible exact tf_elim h1
    all_goals
      try replace h1 := of_decide_eq_false h1
      refine g_exit rfl (g_seq ?_)
      refine g_region ?_
      refine rl_v rfl rfl rfl (by exact sat_cells hw (by (repeat first | with_reducible exact xH | apply xT); first | done | fail) ⟨rfl, rfl, trivial⟩) (v_loadAgg (vs := [_, _]) T.agg_40_2 rfl rfl) ?_
      refine xV rfl rfl rfl (v_move rfl) ?_
      refine rl_k rfl (k_storeWhole hw T.agg_40_2 rfl rfl (by simp [Value.oneCell']) rfl (by (repeat first | with_reducible exact xH | apply xT); first | done | fail) rfl (fun w hw => ?_))
      refine xV rfl rfl rfl (v_assign rfl) ?_
      refine rl_nil (g_le (xK (xS rfl (xS rfl (Fr.le_refl _)))) ?_)
      refine g_res2 Try.func19 rfl ⟨_, rfl, holds_agg (vs := [_, _]) T.agg_40_2 rfl (by exact sat_cells hw (by (repeat first | with_reducible exact xH | apply xT); first | done | fail) ⟨rfl, rfl, trivial⟩)⟩ rfl ?_
      rw [List.take_of_length_le (by omega)] at hfd ⊢
      exact ⟨_, rfl, hfd, hw.xQ⟩
end Go.Proofs.Ytdiocmjhencbpaa
