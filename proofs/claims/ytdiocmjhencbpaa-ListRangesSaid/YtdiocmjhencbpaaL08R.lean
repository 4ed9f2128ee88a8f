/-
  ListRanges: ranges, counts, places, floors of a tree of any secrets, as the document says.
-/
import Derived.Test.YtdiocmjhencbpaaL11
import Derived.Test.YtdiocmjhencbpaaRows
namespace Go.Proofs.Ytdiocmjhencbpaa
set_option maxRecDepth 8000
set_option linter.unusedSimpArgs false
set_option linter.unusedVariables false
open Go Xe Go.Lib Go.RowKit Go.ChangeShapes Go.WideShapes Go.ChangeAt
set_option maxHeartbeats 4000000 in
theorem ListRanges_law {w : World} {a : Option Addr} {len cap : Nat} {xs : List En} {from_ to : ByteArray} {n : Int} (hr : rdArg (rdSl 40 2 rdEn) w (.slice a len cap) xs) (hf1 : from_.size ≤ reachBytes) (ht1 : to.size ≤ reachBytes) (hn1 : (Lit.int .i64 n).wf = true) :
    Law Try.prog 4 [.slice a len cap, .string from_, .string to, .int .i64 n] w := by
  unfold Law
  have hw := Sat.old w
  generalize w = W at hr hw ⊢
  have hr : (rdSl 40 2 rdEn) (hpOf W) [.slice a len cap] xs := hr
  refine calls_of_g (n := 126) Try.func4 rfl rfl rfl ?_
  change G _ _ _ _ _ [(0, _), (1, _), (2, _), (3, _)] _
  refine g_seq ?_
  refine g_region ?_
  refine xV rfl rfl rfl (v_assign rfl) ?_
  refine rl_nil (g_le (xK (Fr.le_refl _)) ?_)
  refine g_seq ?_
  refine g_region ?_
  refine xV rfl rfl rfl (v_move rfl) ?_
  refine rl_k rfl (k_callf Try.func17 rfl rfl rfl rfl ?_)
  refine Calls.mono (grown_calls hr (hw.xQ)) ?_
  rintro _ w ⟨g1, h, A1, st, root, hh, u, la, ln, lc, hg1, hI1, hok, ht, _, hel, h7, hs, rfl, hall, hw⟩
  refine ⟨_, rfl, ?_⟩
  refine xV rfl rfl rfl (v_move rfl) ?_
  refine xV rfl rfl rfl (v_extract rfl rfl) ?_
  refine xV rfl rfl rfl (v_extract rfl rfl) ?_
  refine xV rfl rfl rfl (v_extract rfl rfl) ?_
  refine rl_k rfl (k_alloc hw T.zero_26 rfl rfl (fun bk1_6 w hw => ?_))
  refine xV rfl rfl rfl (v_assign rfl) ?_
  refine rl_k rfl (k_storeWhole hw T.agg_26_4 rfl rfl (by simp [Value.oneCell']) rfl (by (repeat first | with_reducible exact xH | apply xT); first | done | fail) rfl (fun w hw => ?_))
  refine xV rfl rfl rfl (v_assign rfl) ?_
  refine rl_nil (g_le (xK (xK (xK (xS rfl (xS rfl (xS rfl (xS rfl (xS rfl (xS rfl (Fr.le_refl _)))))))))) ?_)
  refine g_seq (g_seq ?_)
  refine g_region ?_
  refine xV rfl rfl rfl (v_move rfl) ?_
  refine xV rfl rfl rfl (v_eqlNil T.ptr_27 rfl rfl) ?_
  refine rl_nil (g_le (xK (xS rfl (Fr.le_refl _))) ?_)
  refine g_cond_false rfl ?_
  refine g_skip (g_seq ?_)
  refine g_region ?_
  refine xV rfl rfl rfl (v_move rfl) ?_
  refine xV rfl rfl rfl (v_mkIface T.ptr_27 rfl) ?_
  refine rl_v rfl rfl rfl (by exact sat_cells hw (by (repeat first | with_reducible exact xH | apply xT); first | done | fail) ⟨rfl, rfl, rfl, rfl, trivial⟩) (v_loadAgg (vs := [_, _, _, _]) T.agg_26_4 rfl rfl) ?_
  refine xV rfl rfl rfl (v_move rfl) ?_
  refine xV rfl rfl rfl (v_move rfl) ?_
  refine rl_k rfl (k_callf Try.func11 rfl rfl rfl rfl ?_)
  refine Calls.mono (lrange_calls ht (by omega) hok hI1 from_ to (hw.xQ)) ?_
  rintro _ w ⟨g2, A2, ra, rn, rc, hg2, hI2, rfl, hrg, hw⟩
  refine ⟨_, rfl, ?_⟩
  refine xV rfl rfl rfl (v_move rfl) ?_
  refine xV rfl rfl rfl (v_extract rfl rfl) ?_
  refine xV rfl rfl rfl (v_extract rfl rfl) ?_
  refine xV rfl rfl rfl (v_assign rfl) ?_
  refine xV rfl rfl rfl (v_assign rfl) ?_
  refine rl_nil (g_le (xK (xK (xS rfl (xS rfl (xS rfl (xS rfl (xS rfl (xS rfl (xS rfl (xS rfl (xS rfl (Fr.le_refl _)))))))))))) ?_)
  refine g_seq ?_
  refine g_region ?_
  refine xV rfl rfl rfl (v_move rfl) ?_
  refine xV rfl rfl rfl (v_mkIface T.ptr_27 rfl) ?_
  refine rl_v rfl rfl rfl (by exact sat_cells hw (by (repeat first | with_reducible exact xH | apply xT); first | done | fail) ⟨rfl, rfl, rfl, rfl, trivial⟩) (v_loadAgg (vs := [_, _, _, _]) T.agg_26_4 rfl rfl) ?_
  refine rl_k rfl (k_callf Try.func12 rfl rfl rfl rfl ?_)
  refine Calls.mono (lcount_calls ht (by omega) hok hI2 (hw.xQ)) ?_
  rintro _ w ⟨g3, A3, hg3, hI3, rfl, hw⟩
  refine ⟨_, rfl, ?_⟩
  refine xV rfl rfl rfl (v_move rfl) ?_
  refine xV rfl rfl rfl (v_extract rfl rfl) ?_
  refine xV rfl rfl rfl (v_extract rfl rfl) ?_
  refine xV rfl rfl rfl (v_assign rfl) ?_
  refine xV rfl rfl rfl (v_assign rfl) ?_
  refine rl_nil (g_le (xK (xK (xS rfl (xS rfl (xS rfl (xS rfl (xS rfl (xS rfl (xS rfl (Fr.le_refl _)))))))))) ?_)
  refine g_seq ?_
  refine g_region ?_
  refine xV rfl rfl rfl (v_move rfl) ?_
  refine xV rfl rfl rfl (v_mkIface T.ptr_27 rfl) ?_
  refine rl_v rfl rfl rfl (by exact sat_cells hw (by (repeat first | with_reducible exact xH | apply xT); first | done | fail) ⟨rfl, rfl, rfl, rfl, trivial⟩) (v_loadAgg (vs := [_, _, _, _]) T.agg_26_4 rfl rfl) ?_
  refine xV rfl rfl rfl (v_move rfl) ?_
  refine rl_k rfl (k_callf Try.func13 rfl rfl rfl rfl ?_)
  refine Calls.mono (lnth_calls ht (by omega) hok hI3 n (hw.xQ)) ?_
  rintro _ w ⟨g4, A4, xcs, hg4, hI4, rfl, hx4, hw⟩
  obtain ⟨xva, xvn, xvc, rfl, hx4⟩ := en_told hx4
  refine ⟨_, rfl, ?_⟩
  refine xV rfl rfl rfl (v_move rfl) ?_
  refine xV rfl rfl rfl (v_extract rfl rfl) ?_
  refine xV rfl rfl rfl (v_extract rfl rfl) ?_
  refine xV rfl rfl rfl (v_extract rfl rfl) ?_
  refine rl_k rfl (k_alloc hw T.zero_40 rfl rfl (fun bk6_9 w hw => ?_))
  refine rl_k rfl (k_storeWhole hw T.agg_40_2 rfl rfl (by simp [Value.oneCell']) rfl (by (repeat first | with_reducible exact xH | apply xT); first | done | fail) rfl (fun w hw => ?_))
  refine xV rfl rfl rfl (v_assign rfl) ?_
  refine xV rfl rfl rfl (v_assign rfl) ?_
  refine rl_nil (g_le (xK (xK (xK (xS rfl (xS rfl (xS rfl (xS rfl (xS rfl (xS rfl (xS rfl (xS rfl (xS rfl (Fr.le_refl _))))))))))))) ?_)
  refine g_seq ?_
  refine g_region ?_
  refine xV rfl rfl rfl (v_move rfl) ?_
  refine xV rfl rfl rfl (v_move rfl) ?_
  refine rl_k rfl (k_callf Try.func18 rfl rfl rfl rfl ?_)
  refine Calls.mono (rnth_calls n (mono_sl mono_En (hg2.trans (hg3.trans hg4)) hall) (hw.xQ)) ?_
  rintro _ w ⟨ycs, rfl, hy4, hw⟩
  obtain ⟨yva, yvn, yvc, rfl, hy4⟩ := en_told hy4
  refine ⟨_, rfl, ?_⟩
  refine xV rfl rfl rfl (v_move rfl) ?_
  refine xV rfl rfl rfl (v_extract rfl rfl) ?_
  refine xV rfl rfl rfl (v_extract rfl rfl) ?_
  refine rl_k rfl (k_alloc hw T.zero_40 rfl rfl (fun bk7_6 w hw => ?_))
  refine rl_k rfl (k_storeWhole hw T.agg_40_2 rfl rfl (by simp [Value.oneCell']) rfl (by (repeat first | with_reducible exact xH | apply xT); first | done | fail) rfl (fun w hw => ?_))
  refine xV rfl rfl rfl (v_assign rfl) ?_
  refine rl_nil (g_le (xK (xK (xS rfl (xS rfl (xS rfl (xS rfl (xS rfl (xS rfl (Fr.le_refl _))))))))) ?_)
  refine g_seq ?_
  refine g_region ?_
  refine xV rfl rfl rfl (v_move rfl) ?_
  refine xV rfl rfl rfl (v_mkIface T.ptr_27 rfl) ?_
  refine rl_v rfl rfl rfl (by exact sat_cells hw (by (repeat first | with_reducible exact xH | apply xT); first | done | fail) ⟨rfl, rfl, rfl, rfl, trivial⟩) (v_loadAgg (vs := [_, _, _, _]) T.agg_26_4 rfl rfl) ?_
  refine xV rfl rfl rfl (v_move rfl) ?_
  refine rl_k rfl (k_callf Try.func14 rfl rfl rfl rfl ?_)
  refine Calls.mono (lfloor_calls ht (by omega) hok hI4 from_ (hw.xQ)) ?_
  rintro _ w ⟨g5, A5, zcs, q, rfl, hg5, hI5, rfl, hz5, hw⟩
  obtain ⟨zva, zvn, zvc, rfl, hz5⟩ := en_told hz5
  refine ⟨_, rfl, ?_⟩
  refine xV rfl rfl rfl (v_move rfl) ?_
  refine xV rfl rfl rfl (v_extract rfl rfl) ?_
  refine xV rfl rfl rfl (v_extract rfl rfl) ?_
  refine xV rfl rfl rfl (v_extract rfl rfl) ?_
  refine rl_k rfl (k_alloc hw T.zero_40 rfl rfl (fun bk8_9 w hw => ?_))
  refine rl_k rfl (k_storeWhole hw T.agg_40_2 rfl rfl (by simp [Value.oneCell']) rfl (by (repeat first | with_reducible exact xH | apply xT); first | done | fail) rfl (fun w hw => ?_))
  refine xV rfl rfl rfl (v_assign rfl) ?_
  refine xV rfl rfl rfl (v_assign rfl) ?_
  refine rl_nil (g_le (xK (xK (xK (xS rfl (xS rfl (xS rfl (xS rfl (xS rfl (xS rfl (xS rfl (xS rfl (xS rfl (Fr.le_refl _))))))))))))) ?_)
  refine g_seq ?_
  refine g_region ?_
  refine xV rfl rfl rfl (v_move rfl) ?_
  refine xV rfl rfl rfl (v_move rfl) ?_
  refine rl_k rfl (k_callf Try.func19 rfl rfl rfl rfl ?_)
  refine Calls.mono (rfloor_calls from_ (mono_sl mono_En (hg2.trans (hg3.trans (hg4.trans hg5))) hall) (hw.xQ)) ?_
  rintro _ w ⟨wcs, rfl, hw5, hw⟩
  obtain ⟨wva, wvn, wvc, rfl, hw5⟩ := en_told hw5
  refine ⟨_, rfl, ?_⟩
  refine xV rfl rfl rfl (v_move rfl) ?_
  refine xV rfl rfl rfl (v_extract rfl rfl) ?_
  refine xV rfl rfl rfl (v_extract rfl rfl) ?_
  refine rl_k rfl (k_alloc hw T.zero_40 rfl rfl (fun bk9_6 w hw => ?_))
  refine rl_k rfl (k_storeWhole hw T.agg_40_2 rfl rfl (by simp [Value.oneCell']) rfl (by (repeat first | with_reducible exact xH | apply xT); first | done | fail) rfl (fun w hw => ?_))
  refine xV rfl rfl rfl (v_assign rfl) ?_
  refine rl_nil (g_le (xK (xK (xS rfl (xS rfl (xS rfl (xS rfl (xS rfl (xS rfl (Fr.le_refl _))))))))) ?_)
  refine g_seq (g_seq ?_)
  have hlo := lastO_at ((entsU hh u).filter (pFloor from_))
  have hb4 : (atO8 (entsU hh u) n 0).2.2 = 0 := by unfold atO8; split <;> rfl
  rw [hb4, hlo]
  rw [hlo] at hz5
  dsimp only at hz5 ⊢
  rw [hlo] at hw
  dsimp only at hw
  refine g_region ?_
  refine xV rfl rfl rfl (v_move rfl) ?_
  refine xV rfl rfl rfl (v_neqF rfl rfl (by omega)) ?_
  refine xV rfl rfl rfl (v_move rfl) ?_
  refine rl_split (s := 82) rfl (fun g10_2 => ?_) (fun g10_2 => ?_)
  · try with_reducible exact ft_elim g10_2
    all_goals
      try replace g10_2 := of_decide_eq_true g10_2
      refine rl_off (met_off rfl rfl rfl rfl rfl) rfl rfl ?_
      refine rl_off (met_off rfl rfl rfl rfl rfl) rfl rfl ?_
      first | (refine xV rfl rfl rfl (v_pick_true rfl rfl) ?_) | (refine xV rfl rfl rfl (v_pick_false rfl rfl) ?_) | (refine xV rfl rfl rfl (v_pick rfl rfl rfl) ?_)
      refine xV rfl rfl rfl (v_move rfl) ?_
      refine rl_off (met_off rfl rfl rfl rfl rfl) rfl rfl ?_
      refine rl_off (met_off rfl rfl rfl rfl rfl) rfl rfl ?_
      first | (refine xV rfl rfl rfl (v_pick_true rfl rfl) ?_) | (refine xV rfl rfl rfl (v_pick_false rfl rfl) ?_) | (refine xV rfl rfl rfl (v_pick rfl rfl rfl) ?_)
      refine xV rfl rfl rfl (v_move rfl) ?_
      refine rl_off (met_off rfl rfl rfl rfl rfl) rfl rfl ?_
      refine rl_off (met_off rfl rfl rfl rfl rfl) rfl rfl ?_
      first | (refine xV rfl rfl rfl (v_pick_true rfl rfl) ?_) | (refine xV rfl rfl rfl (v_pick_false rfl rfl) ?_) | (refine xV rfl rfl rfl (v_pick rfl rfl rfl) ?_)
      refine rl_nil (g_le (xK (xS rfl (xS rfl (xS rfl (xS rfl (xS rfl (xS rfl (xS rfl (xS rfl (xS rfl (xS rfl (xS rfl (xS rfl (xS rfl (xS rfl (Fr.le_refl _)))))))))))))))) ?_)
      refine g_cond_false rfl ?_
      refine g_skip (g_seq ?_)
      have hlnn := (rdSl_get hall).1
      refine g_region ?_
      refine xV rfl rfl rfl (v_move rfl) ?_
      refine xV rfl rfl rfl (v_move rfl) ?_
      refine xV rfl rfl rfl (v_move rfl) ?_
      refine xV rfl rfl rfl (v_move rfl) ?_
      refine rl_k rfl (k_callf Try.func21 rfl rfl rfl rfl ?_)
      refine Calls.mono (rrange_calls from_ to (mono_sl mono_En (hg2.trans (hg3.trans (hg4.trans hg5))) hall) (by omega) (hw.xQ)) ?_
      rintro _ w ⟨g6, sa, sn, sc, hg6, rfl, hs6, hw⟩
      refine ⟨_, rfl, ?_⟩
      refine rl_k rfl (k_callf Try.func20 rfl rfl rfl rfl ?_)
      refine Calls.mono (likeAll_calls (mono_sl mono_En (hg3.trans (hg4.trans (hg5.trans hg6))) hrg) hs6 (hw.xQ)) ?_
      rw [decide_eq_true rfl]
      rintro _ w ⟨rfl, hw⟩
      refine ⟨_, rfl, ?_⟩
      refine xV rfl rfl rfl (v_move rfl) ?_
      first | (refine rl_vg (met_on rfl rfl rfl rfl) rfl rfl (S := fun _ => True) trivial (v_move rfl) ?_) | (refine rl_off (by first | exact met_off rfl rfl rfl rfl rfl | exact met_gone rfl rfl rfl rfl) rfl rfl ?_)
      first | (refine rl_vg (met_on rfl rfl rfl rfl) rfl rfl (S := fun _ => True) trivial (v_move rfl) ?_) | (refine rl_off (by first | exact met_off rfl rfl rfl rfl rfl | exact met_gone rfl rfl rfl rfl) rfl rfl ?_)
      first | (refine rl_vg (met_on rfl rfl rfl rfl) rfl rfl (S := fun _ => True) trivial (v_lenSlice T.sl_33_40_2 rfl) ?_) | (refine rl_off (by first | exact met_off rfl rfl rfl rfl rfl | exact met_gone rfl rfl rfl rfl) rfl rfl ?_)
      first | (refine rl_vg (met_on rfl rfl rfl rfl) rfl rfl (S := fun _ => True) trivial (v_eqlT rfl rfl (by first | omega | rfl)) ?_) | (refine rl_vg (met_on rfl rfl rfl rfl) rfl rfl (S := fun _ => True) trivial (v_eqlF rfl rfl (by omega)) ?_) | (refine rl_vg (met_on rfl rfl rfl rfl) rfl rfl (S := fun _ => True) trivial (v_eql rfl rfl) ?_) | (refine rl_off (by first | exact met_off rfl rfl rfl rfl rfl | exact met_gone rfl rfl rfl rfl) rfl rfl ?_)
      first | (refine xV rfl rfl rfl (v_pick_true rfl rfl) ?_) | (refine xV rfl rfl rfl (v_pick_false rfl rfl) ?_) | (refine xV rfl rfl rfl (v_pick rfl rfl rfl) ?_)
      refine xV rfl rfl rfl (v_move rfl) ?_
      first | (refine rl_vg (met_on rfl rfl rfl rfl) rfl rfl (S := fun _ => True) trivial (v_move rfl) ?_) | (refine rl_off (by first | exact met_off rfl rfl rfl rfl rfl | exact met_gone rfl rfl rfl rfl) rfl rfl ?_)
      first | (refine rl_vg (met_on rfl rfl rfl rfl) rfl rfl (S := fun _ => True) trivial (v_move rfl) ?_) | (refine rl_off (by first | exact met_off rfl rfl rfl rfl rfl | exact met_gone rfl rfl rfl rfl) rfl rfl ?_)
      first | (refine rl_vg (met_on rfl rfl rfl rfl) rfl rfl (S := fun _ => True) trivial (v_eqlBoolT T.bool_4 rfl rfl (by first | rfl | assumption)) ?_) | (refine rl_vg (met_on rfl rfl rfl rfl) rfl rfl (S := fun _ => True) trivial (v_eqlBool T.bool_4 rfl rfl) ?_) | (refine rl_off (by first | exact met_off rfl rfl rfl rfl rfl | exact met_gone rfl rfl rfl rfl) rfl rfl ?_)
      first | (refine xV rfl rfl rfl (v_pick_true rfl rfl) ?_) | (refine xV rfl rfl rfl (v_pick_false rfl rfl) ?_) | (refine xV rfl rfl rfl (v_pick rfl rfl rfl) ?_)
      refine xV rfl rfl rfl (v_move rfl) ?_
      first | (refine rl_vg (met_on rfl rfl rfl rfl) rfl rfl (by first | exact sat_cells hw (by (repeat first | with_reducible exact xH | apply xT); first | done | fail) ⟨rfl, rfl, trivial⟩ | exact ro_ats hw (by (repeat first | with_reducible exact xH | apply xT); first | done | fail) (by assumption) | exact own_cells hw (by (repeat first | with_reducible exact xH | apply xT); first | done | fail) (by assumption) | exact old_cells hw (by (repeat first | with_reducible exact xH | apply xT); first | done | fail) (by assumption)) (v_loadAgg (vs := [_, _]) T.agg_40_2 rfl rfl) ?_) | (refine rl_off (by first | exact met_off rfl rfl rfl rfl rfl | exact met_gone rfl rfl rfl rfl) rfl rfl ?_)
      first | (refine rl_vg (met_on rfl rfl rfl rfl) rfl rfl (by first | exact sat_cells hw (by (repeat first | with_reducible exact xH | apply xT); first | done | fail) ⟨rfl, rfl, trivial⟩ | exact ro_ats hw (by (repeat first | with_reducible exact xH | apply xT); first | done | fail) (by assumption) | exact own_cells hw (by (repeat first | with_reducible exact xH | apply xT); first | done | fail) (by assumption) | exact old_cells hw (by (repeat first | with_reducible exact xH | apply xT); first | done | fail) (by assumption)) (v_loadAgg (vs := [_, _]) T.agg_40_2 rfl rfl) ?_) | (refine rl_off (by first | exact met_off rfl rfl rfl rfl rfl | exact met_gone rfl rfl rfl rfl) rfl rfl ?_)
      first | (refine rl_kg (met_on rfl rfl rfl rfl) (k_callf Try.func22 rfl rfl rfl rfl ?_); refine Calls.mono (likeEn_calls (mono_En (hg5.trans hg6) hx4) (mono_En (hg5.trans hg6) hy4) (hw.xQ)) ?_; rw [decide_eq_true rfl]; rintro _ w ⟨rfl, hw⟩; refine ⟨_, rfl, ?_⟩) | (refine rl_off (by first | exact met_off rfl rfl rfl rfl rfl | exact met_gone rfl rfl rfl rfl) rfl rfl ?_)
      first | (refine xV rfl rfl rfl (v_pick_true rfl rfl) ?_) | (refine xV rfl rfl rfl (v_pick_false rfl rfl) ?_) | (refine xV rfl rfl rfl (v_pick rfl rfl rfl) ?_)
      refine xV rfl rfl rfl (v_move rfl) ?_
      first | (refine rl_vg (met_on rfl rfl rfl rfl) rfl rfl (S := fun _ => True) trivial (v_move rfl) ?_) | (refine rl_off (by first | exact met_off rfl rfl rfl rfl rfl | exact met_gone rfl rfl rfl rfl) rfl rfl ?_)
      first | (refine rl_vg (met_on rfl rfl rfl rfl) rfl rfl (S := fun _ => True) trivial (v_move rfl) ?_) | (refine rl_off (by first | exact met_off rfl rfl rfl rfl rfl | exact met_gone rfl rfl rfl rfl) rfl rfl ?_)
      first | (refine rl_vg (met_on rfl rfl rfl rfl) rfl rfl (S := fun _ => True) trivial (v_eqlBoolT T.bool_4 rfl rfl (by first | rfl | assumption)) ?_) | (refine rl_vg (met_on rfl rfl rfl rfl) rfl rfl (S := fun _ => True) trivial (v_eqlBool T.bool_4 rfl rfl) ?_) | (refine rl_off (by first | exact met_off rfl rfl rfl rfl rfl | exact met_gone rfl rfl rfl rfl) rfl rfl ?_)
      first | (refine xV rfl rfl rfl (v_pick_true rfl rfl) ?_) | (refine xV rfl rfl rfl (v_pick_false rfl rfl) ?_) | (refine xV rfl rfl rfl (v_pick rfl rfl rfl) ?_)
      refine xV rfl rfl rfl (v_move rfl) ?_
      first | (refine rl_vg (met_on rfl rfl rfl rfl) rfl rfl (by first | exact sat_cells hw (by (repeat first | with_reducible exact xH | apply xT); first | done | fail) ⟨rfl, rfl, trivial⟩ | exact ro_ats hw (by (repeat first | with_reducible exact xH | apply xT); first | done | fail) (by assumption) | exact own_cells hw (by (repeat first | with_reducible exact xH | apply xT); first | done | fail) (by assumption) | exact old_cells hw (by (repeat first | with_reducible exact xH | apply xT); first | done | fail) (by assumption)) (v_loadAgg (vs := [_, _]) T.agg_40_2 rfl rfl) ?_) | (refine rl_off (by first | exact met_off rfl rfl rfl rfl rfl | exact met_gone rfl rfl rfl rfl) rfl rfl ?_)
      first | (refine rl_vg (met_on rfl rfl rfl rfl) rfl rfl (by first | exact sat_cells hw (by (repeat first | with_reducible exact xH | apply xT); first | done | fail) ⟨rfl, rfl, trivial⟩ | exact ro_ats hw (by (repeat first | with_reducible exact xH | apply xT); first | done | fail) (by assumption) | exact own_cells hw (by (repeat first | with_reducible exact xH | apply xT); first | done | fail) (by assumption) | exact old_cells hw (by (repeat first | with_reducible exact xH | apply xT); first | done | fail) (by assumption)) (v_loadAgg (vs := [_, _]) T.agg_40_2 rfl rfl) ?_) | (refine rl_off (by first | exact met_off rfl rfl rfl rfl rfl | exact met_gone rfl rfl rfl rfl) rfl rfl ?_)
      first | (refine rl_kg (met_on rfl rfl rfl rfl) (k_callf Try.func22 rfl rfl rfl rfl ?_); refine Calls.mono (likeEn_calls (mono_En hg6 hz5) (mono_En hg6 hw5) (hw.xQ)) ?_; rw [decide_eq_true rfl]; rintro _ w ⟨rfl, hw⟩; refine ⟨_, rfl, ?_⟩) | (refine rl_off (by first | exact met_off rfl rfl rfl rfl rfl | exact met_gone rfl rfl rfl rfl) rfl rfl ?_)
      first | (refine xV rfl rfl rfl (v_pick_true rfl rfl) ?_) | (refine xV rfl rfl rfl (v_pick_false rfl rfl) ?_) | (refine xV rfl rfl rfl (v_pick rfl rfl rfl) ?_)
      refine xV rfl rfl rfl (v_assign rfl) ?_
      refine rl_nil (g_le (xK (xS rfl (xS rfl (xS rfl (xS rfl (xS rfl (xS rfl (xS rfl (xS rfl (xS rfl (xS rfl (xS rfl (xS rfl (xS rfl (xS rfl (xS rfl (xS rfl (xS rfl (xS rfl (xS rfl (xS rfl (xS rfl (xS rfl (xS rfl (xS rfl (xS rfl (xS rfl (xS rfl (xS rfl (xS rfl (xS rfl (xS rfl (xS rfl (Fr.le_refl _)))))))))))))))))))))))))))))))))) ?_)
      refine g_ret1 Try.func4 rfl rfl ?_
      exact ⟨rfl, (hw.xQ : Sat (envOf W) w [RO g6]).shrink (hg1.trans (hg2.trans (hg3.trans (hg4.trans (hg5.trans hg6)))))⟩
  · try with_reducible exact tf_elim g10_2
    all_goals
      try replace g10_2 := of_decide_eq_false g10_2
      refine rl_vg (met_on rfl rfl rfl rfl) rfl rfl (S := fun _ => True) trivial (v_move rfl) ?_
      refine rl_vg (met_on rfl rfl rfl rfl) rfl rfl (S := fun _ => True) trivial (v_neqF rfl rfl (by omega)) ?_
      refine xV rfl rfl rfl (v_pick_false rfl rfl) ?_
      refine xV rfl rfl rfl (v_move rfl) ?_
      refine rl_split (s := 86) rfl (fun g10_6 => ?_) (fun g10_6 => ?_)
      · try with_reducible exact ft_elim g10_6
        all_goals
          try replace g10_6 := of_decide_eq_true g10_6
          refine rl_off (met_off rfl rfl rfl rfl rfl) rfl rfl ?_
          refine rl_off (met_off rfl rfl rfl rfl rfl) rfl rfl ?_
          first | (refine xV rfl rfl rfl (v_pick_true rfl rfl) ?_) | (refine xV rfl rfl rfl (v_pick_false rfl rfl) ?_) | (refine xV rfl rfl rfl (v_pick rfl rfl rfl) ?_)
          refine xV rfl rfl rfl (v_move rfl) ?_
          refine rl_off (met_off rfl rfl rfl rfl rfl) rfl rfl ?_
          refine rl_off (met_off rfl rfl rfl rfl rfl) rfl rfl ?_
          first | (refine xV rfl rfl rfl (v_pick_true rfl rfl) ?_) | (refine xV rfl rfl rfl (v_pick_false rfl rfl) ?_) | (refine xV rfl rfl rfl (v_pick rfl rfl rfl) ?_)
          refine rl_nil (g_le (xK (xS rfl (xS rfl (xS rfl (xS rfl (xS rfl (xS rfl (xS rfl (xS rfl (xS rfl (xS rfl (xS rfl (xS rfl (xS rfl (xS rfl (xS rfl (Fr.le_refl _))))))))))))))))) ?_)
          refine g_cond_false rfl ?_
          refine g_skip (g_seq ?_)
          have hlnn := (rdSl_get hall).1
          refine g_region ?_
          refine xV rfl rfl rfl (v_move rfl) ?_
          refine xV rfl rfl rfl (v_move rfl) ?_
          refine xV rfl rfl rfl (v_move rfl) ?_
          refine xV rfl rfl rfl (v_move rfl) ?_
          refine rl_k rfl (k_callf Try.func21 rfl rfl rfl rfl ?_)
          refine Calls.mono (rrange_calls from_ to (mono_sl mono_En (hg2.trans (hg3.trans (hg4.trans hg5))) hall) (by omega) (hw.xQ)) ?_
          rintro _ w ⟨g6, sa, sn, sc, hg6, rfl, hs6, hw⟩
          refine ⟨_, rfl, ?_⟩
          refine rl_k rfl (k_callf Try.func20 rfl rfl rfl rfl ?_)
          refine Calls.mono (likeAll_calls (mono_sl mono_En (hg3.trans (hg4.trans (hg5.trans hg6))) hrg) hs6 (hw.xQ)) ?_
          rw [decide_eq_true rfl]
          rintro _ w ⟨rfl, hw⟩
          refine ⟨_, rfl, ?_⟩
          refine xV rfl rfl rfl (v_move rfl) ?_
          first | (refine rl_vg (met_on rfl rfl rfl rfl) rfl rfl (S := fun _ => True) trivial (v_move rfl) ?_) | (refine rl_off (by first | exact met_off rfl rfl rfl rfl rfl | exact met_gone rfl rfl rfl rfl) rfl rfl ?_)
          first | (refine rl_vg (met_on rfl rfl rfl rfl) rfl rfl (S := fun _ => True) trivial (v_move rfl) ?_) | (refine rl_off (by first | exact met_off rfl rfl rfl rfl rfl | exact met_gone rfl rfl rfl rfl) rfl rfl ?_)
          first | (refine rl_vg (met_on rfl rfl rfl rfl) rfl rfl (S := fun _ => True) trivial (v_lenSlice T.sl_33_40_2 rfl) ?_) | (refine rl_off (by first | exact met_off rfl rfl rfl rfl rfl | exact met_gone rfl rfl rfl rfl) rfl rfl ?_)
          first | (refine rl_vg (met_on rfl rfl rfl rfl) rfl rfl (S := fun _ => True) trivial (v_eqlT rfl rfl (by first | omega | rfl)) ?_) | (refine rl_vg (met_on rfl rfl rfl rfl) rfl rfl (S := fun _ => True) trivial (v_eqlF rfl rfl (by omega)) ?_) | (refine rl_vg (met_on rfl rfl rfl rfl) rfl rfl (S := fun _ => True) trivial (v_eql rfl rfl) ?_) | (refine rl_off (by first | exact met_off rfl rfl rfl rfl rfl | exact met_gone rfl rfl rfl rfl) rfl rfl ?_)
          first | (refine xV rfl rfl rfl (v_pick_true rfl rfl) ?_) | (refine xV rfl rfl rfl (v_pick_false rfl rfl) ?_) | (refine xV rfl rfl rfl (v_pick rfl rfl rfl) ?_)
          refine xV rfl rfl rfl (v_move rfl) ?_
          first | (refine rl_vg (met_on rfl rfl rfl rfl) rfl rfl (S := fun _ => True) trivial (v_move rfl) ?_) | (refine rl_off (by first | exact met_off rfl rfl rfl rfl rfl | exact met_gone rfl rfl rfl rfl) rfl rfl ?_)
          first | (refine rl_vg (met_on rfl rfl rfl rfl) rfl rfl (S := fun _ => True) trivial (v_move rfl) ?_) | (refine rl_off (by first | exact met_off rfl rfl rfl rfl rfl | exact met_gone rfl rfl rfl rfl) rfl rfl ?_)
          first | (refine rl_vg (met_on rfl rfl rfl rfl) rfl rfl (S := fun _ => True) trivial (v_eqlBoolT T.bool_4 rfl rfl (by first | rfl | assumption)) ?_) | (refine rl_vg (met_on rfl rfl rfl rfl) rfl rfl (S := fun _ => True) trivial (v_eqlBool T.bool_4 rfl rfl) ?_) | (refine rl_off (by first | exact met_off rfl rfl rfl rfl rfl | exact met_gone rfl rfl rfl rfl) rfl rfl ?_)
          first | (refine xV rfl rfl rfl (v_pick_true rfl rfl) ?_) | (refine xV rfl rfl rfl (v_pick_false rfl rfl) ?_) | (refine xV rfl rfl rfl (v_pick rfl rfl rfl) ?_)
          refine xV rfl rfl rfl (v_move rfl) ?_
          first | (refine rl_vg (met_on rfl rfl rfl rfl) rfl rfl (by first | exact sat_cells hw (by (repeat first | with_reducible exact xH | apply xT); first | done | fail) ⟨rfl, rfl, trivial⟩ | exact ro_ats hw (by (repeat first | with_reducible exact xH | apply xT); first | done | fail) (by assumption) | exact own_cells hw (by (repeat first | with_reducible exact xH | apply xT); first | done | fail) (by assumption) | exact old_cells hw (by (repeat first | with_reducible exact xH | apply xT); first | done | fail) (by assumption)) (v_loadAgg (vs := [_, _]) T.agg_40_2 rfl rfl) ?_) | (refine rl_off (by first | exact met_off rfl rfl rfl rfl rfl | exact met_gone rfl rfl rfl rfl) rfl rfl ?_)
          first | (refine rl_vg (met_on rfl rfl rfl rfl) rfl rfl (by first | exact sat_cells hw (by (repeat first | with_reducible exact xH | apply xT); first | done | fail) ⟨rfl, rfl, trivial⟩ | exact ro_ats hw (by (repeat first | with_reducible exact xH | apply xT); first | done | fail) (by assumption) | exact own_cells hw (by (repeat first | with_reducible exact xH | apply xT); first | done | fail) (by assumption) | exact old_cells hw (by (repeat first | with_reducible exact xH | apply xT); first | done | fail) (by assumption)) (v_loadAgg (vs := [_, _]) T.agg_40_2 rfl rfl) ?_) | (refine rl_off (by first | exact met_off rfl rfl rfl rfl rfl | exact met_gone rfl rfl rfl rfl) rfl rfl ?_)
          first | (refine rl_kg (met_on rfl rfl rfl rfl) (k_callf Try.func22 rfl rfl rfl rfl ?_); refine Calls.mono (likeEn_calls (mono_En (hg5.trans hg6) hx4) (mono_En (hg5.trans hg6) hy4) (hw.xQ)) ?_; rw [decide_eq_true rfl]; rintro _ w ⟨rfl, hw⟩; refine ⟨_, rfl, ?_⟩) | (refine rl_off (by first | exact met_off rfl rfl rfl rfl rfl | exact met_gone rfl rfl rfl rfl) rfl rfl ?_)
          first | (refine xV rfl rfl rfl (v_pick_true rfl rfl) ?_) | (refine xV rfl rfl rfl (v_pick_false rfl rfl) ?_) | (refine xV rfl rfl rfl (v_pick rfl rfl rfl) ?_)
          refine xV rfl rfl rfl (v_move rfl) ?_
          first | (refine rl_vg (met_on rfl rfl rfl rfl) rfl rfl (S := fun _ => True) trivial (v_move rfl) ?_) | (refine rl_off (by first | exact met_off rfl rfl rfl rfl rfl | exact met_gone rfl rfl rfl rfl) rfl rfl ?_)
          first | (refine rl_vg (met_on rfl rfl rfl rfl) rfl rfl (S := fun _ => True) trivial (v_move rfl) ?_) | (refine rl_off (by first | exact met_off rfl rfl rfl rfl rfl | exact met_gone rfl rfl rfl rfl) rfl rfl ?_)
          first | (refine rl_vg (met_on rfl rfl rfl rfl) rfl rfl (S := fun _ => True) trivial (v_eqlBoolT T.bool_4 rfl rfl (by first | rfl | assumption)) ?_) | (refine rl_vg (met_on rfl rfl rfl rfl) rfl rfl (S := fun _ => True) trivial (v_eqlBool T.bool_4 rfl rfl) ?_) | (refine rl_off (by first | exact met_off rfl rfl rfl rfl rfl | exact met_gone rfl rfl rfl rfl) rfl rfl ?_)
          first | (refine xV rfl rfl rfl (v_pick_true rfl rfl) ?_) | (refine xV rfl rfl rfl (v_pick_false rfl rfl) ?_) | (refine xV rfl rfl rfl (v_pick rfl rfl rfl) ?_)
          refine xV rfl rfl rfl (v_move rfl) ?_
          first | (refine rl_vg (met_on rfl rfl rfl rfl) rfl rfl (by first | exact sat_cells hw (by (repeat first | with_reducible exact xH | apply xT); first | done | fail) ⟨rfl, rfl, trivial⟩ | exact ro_ats hw (by (repeat first | with_reducible exact xH | apply xT); first | done | fail) (by assumption) | exact own_cells hw (by (repeat first | with_reducible exact xH | apply xT); first | done | fail) (by assumption) | exact old_cells hw (by (repeat first | with_reducible exact xH | apply xT); first | done | fail) (by assumption)) (v_loadAgg (vs := [_, _]) T.agg_40_2 rfl rfl) ?_) | (refine rl_off (by first | exact met_off rfl rfl rfl rfl rfl | exact met_gone rfl rfl rfl rfl) rfl rfl ?_)
          first | (refine rl_vg (met_on rfl rfl rfl rfl) rfl rfl (by first | exact sat_cells hw (by (repeat first | with_reducible exact xH | apply xT); first | done | fail) ⟨rfl, rfl, trivial⟩ | exact ro_ats hw (by (repeat first | with_reducible exact xH | apply xT); first | done | fail) (by assumption) | exact own_cells hw (by (repeat first | with_reducible exact xH | apply xT); first | done | fail) (by assumption) | exact old_cells hw (by (repeat first | with_reducible exact xH | apply xT); first | done | fail) (by assumption)) (v_loadAgg (vs := [_, _]) T.agg_40_2 rfl rfl) ?_) | (refine rl_off (by first | exact met_off rfl rfl rfl rfl rfl | exact met_gone rfl rfl rfl rfl) rfl rfl ?_)
          first | (refine rl_kg (met_on rfl rfl rfl rfl) (k_callf Try.func22 rfl rfl rfl rfl ?_); refine Calls.mono (likeEn_calls (mono_En hg6 hz5) (mono_En hg6 hw5) (hw.xQ)) ?_; rw [decide_eq_true rfl]; rintro _ w ⟨rfl, hw⟩; refine ⟨_, rfl, ?_⟩) | (refine rl_off (by first | exact met_off rfl rfl rfl rfl rfl | exact met_gone rfl rfl rfl rfl) rfl rfl ?_)
          first | (refine xV rfl rfl rfl (v_pick_true rfl rfl) ?_) | (refine xV rfl rfl rfl (v_pick_false rfl rfl) ?_) | (refine xV rfl rfl rfl (v_pick rfl rfl rfl) ?_)
          refine xV rfl rfl rfl (v_assign rfl) ?_
          refine rl_nil (g_le (xK (xS rfl (xS rfl (xS rfl (xS rfl (xS rfl (xS rfl (xS rfl (xS rfl (xS rfl (xS rfl (xS rfl (xS rfl (xS rfl (xS rfl (xS rfl (xS rfl (xS rfl (xS rfl (xS rfl (xS rfl (xS rfl (xS rfl (xS rfl (xS rfl (xS rfl (xS rfl (xS rfl (xS rfl (xS rfl (xS rfl (xS rfl (xS rfl (Fr.le_refl _)))))))))))))))))))))))))))))))))) ?_)
          refine g_ret1 Try.func4 rfl rfl ?_
          exact ⟨rfl, (hw.xQ : Sat (envOf W) w [RO g6]).shrink (hg1.trans (hg2.trans (hg3.trans (hg4.trans (hg5.trans hg6)))))⟩
      · try with_reducible exact tf_elim g10_6
        all_goals
          try replace g10_6 := of_decide_eq_false g10_6
          refine rl_vg (met_on rfl rfl rfl rfl) rfl rfl (S := fun _ => True) trivial (v_move rfl) ?_
          refine rl_vg (met_on rfl rfl rfl rfl) rfl rfl (S := fun _ => True) trivial (v_neqF rfl rfl (by omega)) ?_
          refine xV rfl rfl rfl (v_pick_false rfl rfl) ?_
          refine xV rfl rfl rfl (v_move rfl) ?_
          refine rl_split (s := 90) rfl (fun g10_10 => ?_) (fun g10_10 => ?_)
          · try with_reducible exact ft_elim g10_10
            all_goals
              try replace g10_10 := of_decide_eq_true g10_10
              refine rl_off (met_off rfl rfl rfl rfl rfl) rfl rfl ?_
              refine rl_off (met_off rfl rfl rfl rfl rfl) rfl rfl ?_
              first | (refine xV rfl rfl rfl (v_pick_true rfl rfl) ?_) | (refine xV rfl rfl rfl (v_pick_false rfl rfl) ?_) | (refine xV rfl rfl rfl (v_pick rfl rfl rfl) ?_)
              refine rl_nil (g_le (xK (xS rfl (xS rfl (xS rfl (xS rfl (xS rfl (xS rfl (xS rfl (xS rfl (xS rfl (xS rfl (xS rfl (xS rfl (xS rfl (xS rfl (xS rfl (xS rfl (Fr.le_refl _)))))))))))))))))) ?_)
              refine g_cond_false rfl ?_
              refine g_skip (g_seq ?_)
              have hlnn := (rdSl_get hall).1
              refine g_region ?_
              refine xV rfl rfl rfl (v_move rfl) ?_
              refine xV rfl rfl rfl (v_move rfl) ?_
              refine xV rfl rfl rfl (v_move rfl) ?_
              refine xV rfl rfl rfl (v_move rfl) ?_
              refine rl_k rfl (k_callf Try.func21 rfl rfl rfl rfl ?_)
              refine Calls.mono (rrange_calls from_ to (mono_sl mono_En (hg2.trans (hg3.trans (hg4.trans hg5))) hall) (by omega) (hw.xQ)) ?_
              rintro _ w ⟨g6, sa, sn, sc, hg6, rfl, hs6, hw⟩
              refine ⟨_, rfl, ?_⟩
              refine rl_k rfl (k_callf Try.func20 rfl rfl rfl rfl ?_)
              refine Calls.mono (likeAll_calls (mono_sl mono_En (hg3.trans (hg4.trans (hg5.trans hg6))) hrg) hs6 (hw.xQ)) ?_
              rw [decide_eq_true rfl]
              rintro _ w ⟨rfl, hw⟩
              refine ⟨_, rfl, ?_⟩
              refine xV rfl rfl rfl (v_move rfl) ?_
              first | (refine rl_vg (met_on rfl rfl rfl rfl) rfl rfl (S := fun _ => True) trivial (v_move rfl) ?_) | (refine rl_off (by first | exact met_off rfl rfl rfl rfl rfl | exact met_gone rfl rfl rfl rfl) rfl rfl ?_)
              first | (refine rl_vg (met_on rfl rfl rfl rfl) rfl rfl (S := fun _ => True) trivial (v_move rfl) ?_) | (refine rl_off (by first | exact met_off rfl rfl rfl rfl rfl | exact met_gone rfl rfl rfl rfl) rfl rfl ?_)
              first | (refine rl_vg (met_on rfl rfl rfl rfl) rfl rfl (S := fun _ => True) trivial (v_lenSlice T.sl_33_40_2 rfl) ?_) | (refine rl_off (by first | exact met_off rfl rfl rfl rfl rfl | exact met_gone rfl rfl rfl rfl) rfl rfl ?_)
              first | (refine rl_vg (met_on rfl rfl rfl rfl) rfl rfl (S := fun _ => True) trivial (v_eqlT rfl rfl (by first | omega | rfl)) ?_) | (refine rl_vg (met_on rfl rfl rfl rfl) rfl rfl (S := fun _ => True) trivial (v_eqlF rfl rfl (by omega)) ?_) | (refine rl_vg (met_on rfl rfl rfl rfl) rfl rfl (S := fun _ => True) trivial (v_eql rfl rfl) ?_) | (refine rl_off (by first | exact met_off rfl rfl rfl rfl rfl | exact met_gone rfl rfl rfl rfl) rfl rfl ?_)
              first | (refine xV rfl rfl rfl (v_pick_true rfl rfl) ?_) | (refine xV rfl rfl rfl (v_pick_false rfl rfl) ?_) | (refine xV rfl rfl rfl (v_pick rfl rfl rfl) ?_)
              refine xV rfl rfl rfl (v_move rfl) ?_
              first | (refine rl_vg (met_on rfl rfl rfl rfl) rfl rfl (S := fun _ => True) trivial (v_move rfl) ?_) | (refine rl_off (by first | exact met_off rfl rfl rfl rfl rfl | exact met_gone rfl rfl rfl rfl) rfl rfl ?_)
              first | (refine rl_vg (met_on rfl rfl rfl rfl) rfl rfl (S := fun _ => True) trivial (v_move rfl) ?_) | (refine rl_off (by first | exact met_off rfl rfl rfl rfl rfl | exact met_gone rfl rfl rfl rfl) rfl rfl ?_)
              first | (refine rl_vg (met_on rfl rfl rfl rfl) rfl rfl (S := fun _ => True) trivial (v_eqlBoolT T.bool_4 rfl rfl (by first | rfl | assumption)) ?_) | (refine rl_vg (met_on rfl rfl rfl rfl) rfl rfl (S := fun _ => True) trivial (v_eqlBool T.bool_4 rfl rfl) ?_) | (refine rl_off (by first | exact met_off rfl rfl rfl rfl rfl | exact met_gone rfl rfl rfl rfl) rfl rfl ?_)
              first | (refine xV rfl rfl rfl (v_pick_true rfl rfl) ?_) | (refine xV rfl rfl rfl (v_pick_false rfl rfl) ?_) | (refine xV rfl rfl rfl (v_pick rfl rfl rfl) ?_)
              refine xV rfl rfl rfl (v_move rfl) ?_
              first | (refine rl_vg (met_on rfl rfl rfl rfl) rfl rfl (by first | exact sat_cells hw (by (repeat first | with_reducible exact xH | apply xT); first | done | fail) ⟨rfl, rfl, trivial⟩ | exact ro_ats hw (by (repeat first | with_reducible exact xH | apply xT); first | done | fail) (by assumption) | exact own_cells hw (by (repeat first | with_reducible exact xH | apply xT); first | done | fail) (by assumption) | exact old_cells hw (by (repeat first | with_reducible exact xH | apply xT); first | done | fail) (by assumption)) (v_loadAgg (vs := [_, _]) T.agg_40_2 rfl rfl) ?_) | (refine rl_off (by first | exact met_off rfl rfl rfl rfl rfl | exact met_gone rfl rfl rfl rfl) rfl rfl ?_)
              first | (refine rl_vg (met_on rfl rfl rfl rfl) rfl rfl (by first | exact sat_cells hw (by (repeat first | with_reducible exact xH | apply xT); first | done | fail) ⟨rfl, rfl, trivial⟩ | exact ro_ats hw (by (repeat first | with_reducible exact xH | apply xT); first | done | fail) (by assumption) | exact own_cells hw (by (repeat first | with_reducible exact xH | apply xT); first | done | fail) (by assumption) | exact old_cells hw (by (repeat first | with_reducible exact xH | apply xT); first | done | fail) (by assumption)) (v_loadAgg (vs := [_, _]) T.agg_40_2 rfl rfl) ?_) | (refine rl_off (by first | exact met_off rfl rfl rfl rfl rfl | exact met_gone rfl rfl rfl rfl) rfl rfl ?_)
              first | (refine rl_kg (met_on rfl rfl rfl rfl) (k_callf Try.func22 rfl rfl rfl rfl ?_); refine Calls.mono (likeEn_calls (mono_En (hg5.trans hg6) hx4) (mono_En (hg5.trans hg6) hy4) (hw.xQ)) ?_; rw [decide_eq_true rfl]; rintro _ w ⟨rfl, hw⟩; refine ⟨_, rfl, ?_⟩) | (refine rl_off (by first | exact met_off rfl rfl rfl rfl rfl | exact met_gone rfl rfl rfl rfl) rfl rfl ?_)
              first | (refine xV rfl rfl rfl (v_pick_true rfl rfl) ?_) | (refine xV rfl rfl rfl (v_pick_false rfl rfl) ?_) | (refine xV rfl rfl rfl (v_pick rfl rfl rfl) ?_)
              refine xV rfl rfl rfl (v_move rfl) ?_
              first | (refine rl_vg (met_on rfl rfl rfl rfl) rfl rfl (S := fun _ => True) trivial (v_move rfl) ?_) | (refine rl_off (by first | exact met_off rfl rfl rfl rfl rfl | exact met_gone rfl rfl rfl rfl) rfl rfl ?_)
              first | (refine rl_vg (met_on rfl rfl rfl rfl) rfl rfl (S := fun _ => True) trivial (v_move rfl) ?_) | (refine rl_off (by first | exact met_off rfl rfl rfl rfl rfl | exact met_gone rfl rfl rfl rfl) rfl rfl ?_)
              first | (refine rl_vg (met_on rfl rfl rfl rfl) rfl rfl (S := fun _ => True) trivial (v_eqlBoolT T.bool_4 rfl rfl (by first | rfl | assumption)) ?_) | (refine rl_vg (met_on rfl rfl rfl rfl) rfl rfl (S := fun _ => True) trivial (v_eqlBool T.bool_4 rfl rfl) ?_) | (refine rl_off (by first | exact met_off rfl rfl rfl rfl rfl | exact met_gone rfl rfl rfl rfl) rfl rfl ?_)
              first | (refine xV rfl rfl rfl (v_pick_true rfl rfl) ?_) | (refine xV rfl rfl rfl (v_pick_false rfl rfl) ?_) | (refine xV rfl rfl rfl (v_pick rfl rfl rfl) ?_)
              refine xV rfl rfl rfl (v_move rfl) ?_
              first | (refine rl_vg (met_on rfl rfl rfl rfl) rfl rfl (by first | exact sat_cells hw (by (repeat first | with_reducible exact xH | apply xT); first | done | fail) ⟨rfl, rfl, trivial⟩ | exact ro_ats hw (by (repeat first | with_reducible exact xH | apply xT); first | done | fail) (by assumption) | exact own_cells hw (by (repeat first | with_reducible exact xH | apply xT); first | done | fail) (by assumption) | exact old_cells hw (by (repeat first | with_reducible exact xH | apply xT); first | done | fail) (by assumption)) (v_loadAgg (vs := [_, _]) T.agg_40_2 rfl rfl) ?_) | (refine rl_off (by first | exact met_off rfl rfl rfl rfl rfl | exact met_gone rfl rfl rfl rfl) rfl rfl ?_)
              first | (refine rl_vg (met_on rfl rfl rfl rfl) rfl rfl (by first | exact sat_cells hw (by (repeat first | with_reducible exact xH | apply xT); first | done | fail) ⟨rfl, rfl, trivial⟩ | exact ro_ats hw (by (repeat first | with_reducible exact xH | apply xT); first | done | fail) (by assumption) | exact own_cells hw (by (repeat first | with_reducible exact xH | apply xT); first | done | fail) (by assumption) | exact old_cells hw (by (repeat first | with_reducible exact xH | apply xT); first | done | fail) (by assumption)) (v_loadAgg (vs := [_, _]) T.agg_40_2 rfl rfl) ?_) | (refine rl_off (by first | exact met_off rfl rfl rfl rfl rfl | exact met_gone rfl rfl rfl rfl) rfl rfl ?_)
              first | (refine rl_kg (met_on rfl rfl rfl rfl) (k_callf Try.func22 rfl rfl rfl rfl ?_); refine Calls.mono (likeEn_calls (mono_En hg6 hz5) (mono_En hg6 hw5) (hw.xQ)) ?_; rw [decide_eq_true rfl]; rintro _ w ⟨rfl, hw⟩; refine ⟨_, rfl, ?_⟩) | (refine rl_off (by first | exact met_off rfl rfl rfl rfl rfl | exact met_gone rfl rfl rfl rfl) rfl rfl ?_)
              first | (refine xV rfl rfl rfl (v_pick_true rfl rfl) ?_) | (refine xV rfl rfl rfl (v_pick_false rfl rfl) ?_) | (refine xV rfl rfl rfl (v_pick rfl rfl rfl) ?_)
              refine xV rfl rfl rfl (v_assign rfl) ?_
              refine rl_nil (g_le (xK (xS rfl (xS rfl (xS rfl (xS rfl (xS rfl (xS rfl (xS rfl (xS rfl (xS rfl (xS rfl (xS rfl (xS rfl (xS rfl (xS rfl (xS rfl (xS rfl (xS rfl (xS rfl (xS rfl (xS rfl (xS rfl (xS rfl (xS rfl (xS rfl (xS rfl (xS rfl (xS rfl (xS rfl (xS rfl (xS rfl (xS rfl (xS rfl (Fr.le_refl _)))))))))))))))))))))))))))))))))) ?_)
              refine g_ret1 Try.func4 rfl rfl ?_
              exact ⟨rfl, (hw.xQ : Sat (envOf W) w [RO g6]).shrink (hg1.trans (hg2.trans (hg3.trans (hg4.trans (hg5.trans hg6)))))⟩
          · try with_reducible exact tf_elim g10_10
            all_goals
              try replace g10_10 := of_decide_eq_false g10_10
              refine rl_vg (met_on rfl rfl rfl rfl) rfl rfl (S := fun _ => True) trivial (v_move rfl) ?_
              refine rl_vg (met_on rfl rfl rfl rfl) rfl rfl (S := fun _ => True) trivial (v_neqF rfl rfl (by omega)) ?_
              refine xV rfl rfl rfl (v_pick_false rfl rfl) ?_
              refine rl_nil (g_le (xK (xS rfl (xS rfl (xS rfl (xS rfl (xS rfl (xS rfl (xS rfl (xS rfl (xS rfl (xS rfl (xS rfl (xS rfl (xS rfl (xS rfl (xS rfl (xS rfl (Fr.le_refl _)))))))))))))))))) ?_)
              refine g_cond_false rfl ?_
              refine g_skip (g_seq ?_)
              have hlnn := (rdSl_get hall).1
              refine g_region ?_
              refine xV rfl rfl rfl (v_move rfl) ?_
              refine xV rfl rfl rfl (v_move rfl) ?_
              refine xV rfl rfl rfl (v_move rfl) ?_
              refine xV rfl rfl rfl (v_move rfl) ?_
              refine rl_k rfl (k_callf Try.func21 rfl rfl rfl rfl ?_)
              refine Calls.mono (rrange_calls from_ to (mono_sl mono_En (hg2.trans (hg3.trans (hg4.trans hg5))) hall) (by omega) (hw.xQ)) ?_
              rintro _ w ⟨g6, sa, sn, sc, hg6, rfl, hs6, hw⟩
              refine ⟨_, rfl, ?_⟩
              refine rl_k rfl (k_callf Try.func20 rfl rfl rfl rfl ?_)
              refine Calls.mono (likeAll_calls (mono_sl mono_En (hg3.trans (hg4.trans (hg5.trans hg6))) hrg) hs6 (hw.xQ)) ?_
              rw [decide_eq_true rfl]
              rintro _ w ⟨rfl, hw⟩
              refine ⟨_, rfl, ?_⟩
              refine xV rfl rfl rfl (v_move rfl) ?_
              refine rl_vg (met_on rfl rfl rfl rfl) rfl rfl (S := fun _ => True) trivial (v_move rfl) ?_
              refine rl_vg (met_on rfl rfl rfl rfl) rfl rfl (S := fun _ => True) trivial (v_move rfl) ?_
              refine rl_vg (met_on rfl rfl rfl rfl) rfl rfl (S := fun _ => True) trivial (v_lenSlice T.sl_33_40_2 rfl) ?_
              refine rl_vg (met_on rfl rfl rfl rfl) rfl rfl (S := fun _ => True) trivial (v_eqlT rfl rfl (by omega)) ?_
              refine xV rfl rfl rfl (v_pick_true rfl rfl) ?_
              refine xV rfl rfl rfl (v_move rfl) ?_
              refine rl_vg (met_on rfl rfl rfl rfl) rfl rfl (S := fun _ => True) trivial (v_move rfl) ?_
              refine rl_vg (met_on rfl rfl rfl rfl) rfl rfl (S := fun _ => True) trivial (v_move rfl) ?_
              refine rl_vg (met_on rfl rfl rfl rfl) rfl rfl (S := fun _ => True) trivial (v_eqlBoolT T.bool_4 rfl rfl (by first | rfl | assumption)) ?_
              refine xV rfl rfl rfl (v_pick_true rfl rfl) ?_
              refine xV rfl rfl rfl (v_move rfl) ?_
              refine rl_vg (met_on rfl rfl rfl rfl) rfl rfl (by exact sat_cells hw (by (repeat first | with_reducible exact xH | apply xT); first | done | fail) ⟨rfl, rfl, trivial⟩) (v_loadAgg (vs := [_, _]) T.agg_40_2 rfl rfl) ?_
              refine rl_vg (met_on rfl rfl rfl rfl) rfl rfl (by exact sat_cells hw (by (repeat first | with_reducible exact xH | apply xT); first | done | fail) ⟨rfl, rfl, trivial⟩) (v_loadAgg (vs := [_, _]) T.agg_40_2 rfl rfl) ?_
              refine rl_kg (met_on rfl rfl rfl rfl) (k_callf Try.func22 rfl rfl rfl rfl ?_); refine Calls.mono (likeEn_calls (mono_En (hg5.trans hg6) hx4) (mono_En (hg5.trans hg6) hy4) (hw.xQ)) ?_; rw [decide_eq_true rfl]; rintro _ w ⟨rfl, hw⟩; refine ⟨_, rfl, ?_⟩
              refine xV rfl rfl rfl (v_pick_true rfl rfl) ?_
              refine xV rfl rfl rfl (v_move rfl) ?_
              refine rl_vg (met_on rfl rfl rfl rfl) rfl rfl (S := fun _ => True) trivial (v_move rfl) ?_
              refine rl_vg (met_on rfl rfl rfl rfl) rfl rfl (S := fun _ => True) trivial (v_move rfl) ?_
              refine rl_vg (met_on rfl rfl rfl rfl) rfl rfl (S := fun _ => True) trivial (v_eqlBoolT T.bool_4 rfl rfl (by first | rfl | assumption)) ?_
              refine xV rfl rfl rfl (v_pick_true rfl rfl) ?_
              refine xV rfl rfl rfl (v_move rfl) ?_
              refine rl_vg (met_on rfl rfl rfl rfl) rfl rfl (by exact sat_cells hw (by (repeat first | with_reducible exact xH | apply xT); first | done | fail) ⟨rfl, rfl, trivial⟩) (v_loadAgg (vs := [_, _]) T.agg_40_2 rfl rfl) ?_
              refine rl_vg (met_on rfl rfl rfl rfl) rfl rfl (by exact sat_cells hw (by (repeat first | with_reducible exact xH | apply xT); first | done | fail) ⟨rfl, rfl, trivial⟩) (v_loadAgg (vs := [_, _]) T.agg_40_2 rfl rfl) ?_
              refine rl_kg (met_on rfl rfl rfl rfl) (k_callf Try.func22 rfl rfl rfl rfl ?_); refine Calls.mono (likeEn_calls (mono_En hg6 hz5) (mono_En hg6 hw5) (hw.xQ)) ?_; rw [decide_eq_true rfl]; rintro _ w ⟨rfl, hw⟩; refine ⟨_, rfl, ?_⟩
              refine xV rfl rfl rfl (v_pick_true rfl rfl) ?_
              refine xV rfl rfl rfl (v_assign rfl) ?_
              refine rl_nil (g_le (xK (xS rfl (xS rfl (xS rfl (xS rfl (xS rfl (xS rfl (xS rfl (xS rfl (xS rfl (xS rfl (xS rfl (xS rfl (xS rfl (xS rfl (xS rfl (xS rfl (xS rfl (xS rfl (xS rfl (xS rfl (xS rfl (xS rfl (xS rfl (xS rfl (xS rfl (xS rfl (xS rfl (xS rfl (xS rfl (xS rfl (xS rfl (xS rfl (Fr.le_refl _)))))))))))))))))))))))))))))))))) ?_)
              refine g_ret1 Try.func4 rfl rfl ?_
              exact ⟨rfl, (hw.xQ : Sat (envOf W) w [RO g6]).shrink (hg1.trans (hg2.trans (hg3.trans (hg4.trans (hg5.trans hg6)))))⟩

set_option maxRecDepth 100000 in
theorem ListRanges_lifted (os : Os) (started : os.Started) (H : Type) (enc : TypeId × Value → H) :
    ReturnsInHanded {} Try.checked os 4 .any (Rows.listRangesSpec.pre6 enc Try.prog Try.f4 Rows.listRangesRow.domain false) (Rows.listRangesSpec.post enc Try.prog Try.f4 false true false false) := by
  refine returnsInHanded_of_change_sized (C := Try.checked) T.own started (by kernel_rfl) Try.func4
    (ChangeSpec.witness6 (enc := enc) (C := Try.checked) false ⟨#[], #[(.slice none 0 0), (.string ByteArray.empty), (.string ByteArray.empty), (.int .i64 0)], []⟩ 8 (by kernel_rfl) (by kernel_rfl) (by kernel_rfl) (by kernel_rfl)) ?_
  intro W base args ds gs before hval0 hW hcnd hsz0 _
  have hval : ∀ (j : Nat) t v, Try.f4.params[j]? = some t → args[j]? = some v → Value.okWide Try.prog W .any base t v := hval0
  have hW' := hW
  obtain ⟨p, q, hA0, hV, rfl, hfz, hnd⟩ := hW
  have hA : DataW.TrodAll enc Try.prog W 0 (fun _ => true) true Try.f4.params.toList args.toList ds p := hA0
  obtain ⟨rfl, rfl⟩ := trodVars_none hV
  have hsz : (DataW.weightsEach Try.prog (Try.f4.params.toList ++ []) (ds ++ [])).all (· ≤ reachBytes) = true := hsz0
  rw [List.append_nil, List.append_nil] at hsz
  rw [Try.params4] at hA hval hsz
  obtain ⟨v0, vs0, d0, ds0, p0, q0, hargs, rfl, rfl, h0, r0⟩ := trodAll_cons hA
  obtain ⟨v1, vs1, d1, ds1, p1, q1, rfl, rfl, rfl, h1, r1⟩ := trodAll_cons r0
  obtain ⟨v2, vs2, d2, ds2, p2, q2, rfl, rfl, rfl, h2, r2⟩ := trodAll_cons r1
  obtain ⟨v3, vs3, d3, ds3, p3, q3, rfl, rfl, rfl, h3, r3⟩ := trodAll_cons r2
  obtain ⟨rfl, rfl, rfl⟩ := trodAll_nil r3
  obtain rfl : args = #[v0, v1, v2, v3] := by cases args; simp_all
  have lt0 : ∀ x ∈ p0, x.block < W.heap.size := by obtain ⟨m, hm⟩ := h0; exact DataW.trod_lt m _ _ _ hm
  obtain ⟨x0, w0⟩ := arg_of (j := 0) (reads_sl T.sl_33_40_2 T.bytes_40_40 (by decide) reads_En) h0 hsz rfl rfl
  have lt1 : ∀ x ∈ p1, x.block < W.heap.size := by obtain ⟨m, hm⟩ := h1; exact DataW.trod_lt m _ _ _ hm
  obtain ⟨x1, w1⟩ := arg_of (j := 1) (reads_str T.str_9) h1 hsz rfl rfl
  have lt2 : ∀ x ∈ p2, x.block < W.heap.size := by obtain ⟨m, hm⟩ := h2; exact DataW.trod_lt m _ _ _ hm
  obtain ⟨x2, w2⟩ := arg_of (j := 2) (reads_str T.str_9) h2 hsz rfl rfl
  have lt3 : ∀ x ∈ p3, x.block < W.heap.size := by obtain ⟨m, hm⟩ := h3; exact DataW.trod_lt m _ _ _ hm
  obtain ⟨x3, w3⟩ := arg_of (j := 3) (reads_int T.int_3_i64) h3 hsz rfl rfl
  obtain ⟨a0, l0, c0, rfl⟩ := okWide_slice Try.underlying33 (hval 0 33 v0 rfl rfl)
  obtain ⟨s1, rfl⟩ := okWide_string Try.underlying9 (hval 1 9 v1 rfl rfl)
  obtain ⟨s2, rfl⟩ := okWide_string Try.underlying9 (hval 2 9 v2 rfl rfl)
  obtain ⟨n3, rfl⟩ := okWide_int Try.underlying3 (hval 3 3 v3 rfl rfl)
  obtain ⟨hc1, hr1⟩ := w1
  cases hc1
  obtain ⟨hc2, hr2⟩ := w2
  cases hc2
  obtain ⟨hc3, hr3⟩ := w3
  cases hc3
  refine (ListRanges_law w0 hr1 hr2 hr3).mono fun e W' ⟨he, hb⟩ => ?_
  have bel := hb.below
  subst he
  exact ⟨_, rfl, _, _, _, [], _, [], hW', trodAll_mk1 (shut_bool Try.underlying4 _), (trodAll_cons_mk (Below.trod T.laidOut (by kernel_rfl) (of_decide_eq_true (by kernel_rfl)) h0 bel lt0) (trodAll_cons_mk (Below.trod T.laidOut (by kernel_rfl) (of_decide_eq_true (by kernel_rfl)) h1 bel lt1) (trodAll_cons_mk (Below.trod T.laidOut (by kernel_rfl) (of_decide_eq_true (by kernel_rfl)) h2 bel lt2) (trodAll_cons_mk (Below.trod T.laidOut (by kernel_rfl) (of_decide_eq_true (by kernel_rfl)) h3 bel lt3) trodAll_mk0)))), rfl, bel.frame _, fun h => by cases h⟩
theorem ListRanges_holds : Rows.ListRangesSaid :=
  OpenClaim.holds_of_wide 4 Try.f4 rfl rfl rfl rfl rfl rfl rfl ⟨rfl, rfl, rfl, rfl, rfl⟩ rfl rfl rfl rfl rfl (by kernel_rfl) Try.func4 (by kernel_rfl)
    (of_decide_eq_true (by kernel_rfl)) (by unfold Func.isWrapper; rw [if_neg (of_decide_eq_false (by kernel_rfl))]; exact ⟨rfl, rfl⟩)
    (fun os started H enc _ => ListRanges_lifted os started H enc)
#print axioms ListRanges_holds
end Go.Proofs.Ytdiocmjhencbpaa
