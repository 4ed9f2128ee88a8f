/-
  ListAgree: names of a prefix are those of a range; each place tells the name that stands there; a name's floor is itself; and ranges side by side are all.
-/
import Derived.Test.YtdiocmjhencbpaaL12
import Derived.Test.YtdiocmjhencbpaaRows
namespace Go.Proofs.Ytdiocmjhencbpaa
set_option maxRecDepth 8000
set_option linter.unusedSimpArgs false
set_option linter.unusedVariables false
open Go Xe Go.Lib Go.RowKit Go.ChangeShapes Go.WideShapes Go.ChangeAt
set_option maxHeartbeats 4000000 in
theorem ListAgree_law {w : World} {a : Option Addr} {len cap : Nat} {xs : List En} {s t : ByteArray} (hr : rdArg (rdSl 40 2 rdEn) w (.slice a len cap) xs) (hs1 : s.size ≤ reachBytes) (ht1 : t.size ≤ reachBytes) :
    Law Try.prog 7 [.slice a len cap, .string s, .string t] w := by
  unfold Law
  have hw := Sat.old w
  generalize w = W at hr hw ⊢
  have hr : (rdSl 40 2 rdEn) (hpOf W) [.slice a len cap] xs := hr
  refine calls_of_g (n := 214) Try.func7 rfl rfl rfl ?_
  change G _ _ _ _ _ [(0, _), (1, _), (2, _)] _
  refine g_seq ?_
  refine g_region ?_
  refine xV rfl rfl rfl (v_assign rfl) ?_
  refine rl_nil (g_le (xK (Fr.le_refl _)) ?_)
  refine g_seq ?_
  refine g_region ?_
  refine xV rfl rfl rfl (v_move rfl) ?_
  refine rl_k rfl (k_callf Try.func17 rfl rfl rfl rfl ?_)
  refine Calls.mono (grown_calls hr (hw.xQ)) ?_
  rintro _ w ⟨g1, h, A1, st, root, hh, u, la, ln, lc, hg1, hI1, hok, ht, _, hel, h7, hs, rfl, hall, hw⟩
  have hsr := ht.srt
  refine ⟨_, rfl, ?_⟩
  refine xV rfl rfl rfl (v_move rfl) ?_
  refine xV rfl rfl rfl (v_extract rfl rfl) ?_
  refine xV rfl rfl rfl (v_extract rfl rfl) ?_
  refine xV rfl rfl rfl (v_extract rfl rfl) ?_
  refine rl_k rfl (k_alloc hw T.zero_26 rfl rfl (fun bk1_6 w hw => ?_))
  refine xV rfl rfl rfl (v_assign rfl) ?_
  refine rl_k rfl (k_storeWhole hw T.agg_26_4 rfl rfl (by simp [Value.oneCell']) rfl (by (repeat first | with_reducible exact xH | apply xT); first | done | fail) rfl (fun w hw => ?_))
  refine xV rfl rfl rfl (v_assign rfl) ?_
  refine rl_nil (g_le (xK (xK (xK (xS rfl (xS rfl (xS rfl (xS rfl (xS rfl (xS rfl (Fr.le_refl _)))))))))) ?_)
  refine g_seq (g_seq ?_)
  refine g_region ?_
  refine xV rfl rfl rfl (v_move rfl) ?_
  refine xV rfl rfl rfl (v_eqlNil T.ptr_27 rfl rfl) ?_
  refine rl_nil (g_le (xK (xS rfl (Fr.le_refl _))) ?_)
  refine g_cond_false rfl ?_
  refine g_skip (g_seq ?_)
  refine g_region ?_
  refine xV rfl rfl rfl (v_move rfl) ?_
  refine xV rfl rfl rfl (v_mkIface T.ptr_27 rfl) ?_
  refine rl_v rfl rfl rfl (by exact sat_cells hw (by (repeat first | with_reducible exact xH | apply xT); first | done | fail) ⟨rfl, rfl, rfl, rfl, trivial⟩) (v_loadAgg (vs := [_, _, _, _]) T.agg_26_4 rfl rfl) ?_
  refine xV rfl rfl rfl (v_move rfl) ?_
  refine rl_k rfl (k_buildSlice (cells := [_]) hw T.sl_29_9_1 T.zero_9 rfl rfl rfl rfl rfl rfl (fun bk4_4 w hw => ?_))
  refine rl_k rfl (k_callf Try.func10 rfl rfl rfl rfl ?_)
  obtain ⟨g2, hg2, hl2, hw⟩ := ((hw.xP (A := pt bk4_4 (.cells [Value.string s].toArray 9 (0, 0)))).xP (A := RO g1)).freeze_lit (R := rdStr) (sz := 1) (bytes := 16) mono_str (xs := [s]) (Els.one (cs := [Value.string s]) rfl ⟨rfl, hs1⟩) rfl (by simp [maxLen]) (by simp [reachBytes])
  refine Calls.mono (lnames_calls ht (by omega) hok (HeapI.mono hg2 hI1) hl2 (hw.xQ)) ?_
  rintro _ w ⟨g3, A3, xa, xn, xc, hg3, hI3, rfl, hx3, hw⟩
  refine ⟨_, rfl, ?_⟩
  refine xV rfl rfl rfl (v_move rfl) ?_
  refine xV rfl rfl rfl (v_extract rfl rfl) ?_
  refine xV rfl rfl rfl (v_extract rfl rfl) ?_
  refine xV rfl rfl rfl (v_assign rfl) ?_
  refine xV rfl rfl rfl (v_assign rfl) ?_
  refine rl_nil (g_le (xK (xK (xS rfl (xS rfl (xS rfl (xS rfl (xS rfl (xS rfl (xS rfl (xS rfl (xS rfl (Fr.le_refl _)))))))))))) ?_)
  refine g_seq ?_
  refine g_region ?_
  refine xV rfl rfl rfl (v_move rfl) ?_
  refine xV rfl rfl rfl (v_mkIface T.ptr_27 rfl) ?_
  refine rl_v rfl rfl rfl (by exact sat_cells hw (by (repeat first | with_reducible exact xH | apply xT); first | done | fail) ⟨rfl, rfl, rfl, rfl, trivial⟩) (v_loadAgg (vs := [_, _, _, _]) T.agg_26_4 rfl rfl) ?_
  refine xV rfl rfl rfl (v_move rfl) ?_
  refine rl_k rfl (k_callf Try.func11 rfl rfl rfl rfl ?_)
  refine Calls.mono (lrange_calls ht (by omega) hok hI3 s ByteArray.empty (hw.xQ)) ?_
  rintro _ w ⟨g4, A4, ya, yn, yc, hg4, hI4, rfl, hy4, hw⟩
  refine ⟨_, rfl, ?_⟩
  refine xV rfl rfl rfl (v_move rfl) ?_
  refine xV rfl rfl rfl (v_extract rfl rfl) ?_
  refine xV rfl rfl rfl (v_extract rfl rfl) ?_
  refine xV rfl rfl rfl (v_assign rfl) ?_
  refine xV rfl rfl rfl (v_assign rfl) ?_
  refine rl_nil (g_le (xK (xK (xS rfl (xS rfl (xS rfl (xS rfl (xS rfl (xS rfl (xS rfl (xS rfl (Fr.le_refl _))))))))))) ?_)
  refine g_seq (g_seq ?_)
  obtain ⟨rst, hrst⟩ := begins_first (p := s) hsr
  have e1 : pNames [s] = fun e => begins e.name s := funext fun e => by simp [pNames]
  rw [e1] at hx3
  rw [hrst] at hy4
  generalize hnb : (entsU hh u).filter (fun e => begins e.name s) = nb at *
  have hx4 := mono_sl mono_str hg4 hx3
  have hnl5 : nb.length ≤ 50 := by rw [← hnb]; have := List.length_filter_le (fun e : En => begins e.name s) (entsU hh u); omega
  obtain ⟨rfl, _, _, _, gx⟩ := rdSl_get hx4
  obtain ⟨rfl, _, _, _, gy⟩ := rdSl_get hy4
  simp only [List.length_map, List.length_append] at *
  refine g_region ?_
  refine xV rfl rfl rfl (v_move rfl) ?_
  refine xV rfl rfl rfl (v_neqF rfl rfl (by omega)) ?_
  refine xV rfl rfl rfl (v_move rfl) ?_
  refine rl_split (s := 60) rfl (fun g6_2 => ?_) (fun g6_2 => ?_)
  · try with_reducible exact ft_elim g6_2
    all_goals
      try replace g6_2 := of_decide_eq_true g6_2
      simp at g6_2
  · try with_reducible exact tf_elim g6_2
    all_goals
      try replace g6_2 := of_decide_eq_false g6_2
      refine rl_vg (met_on rfl rfl rfl rfl) rfl rfl (S := fun _ => True) trivial (v_move rfl) ?_
      refine rl_vg (met_on rfl rfl rfl rfl) rfl rfl (S := fun _ => True) trivial (v_neqF rfl rfl (by omega)) ?_
      refine xV rfl rfl rfl (v_pick_false rfl rfl) ?_
      refine xV rfl rfl rfl (v_move rfl) ?_
      refine rl_split (s := 64) rfl (fun g6_6 => ?_) (fun g6_6 => ?_)
      · try with_reducible exact ft_elim g6_6
        all_goals
          try replace g6_6 := of_decide_eq_true g6_6
          simp at g6_6
      · try with_reducible exact tf_elim g6_6
        all_goals
          try replace g6_6 := of_decide_eq_false g6_6
          refine rl_vg (met_on rfl rfl rfl rfl) rfl rfl (S := fun _ => True) trivial (v_move rfl) ?_
          refine rl_vg (met_on rfl rfl rfl rfl) rfl rfl (S := fun _ => True) trivial (v_lenSlice T.sl_29_9_1 rfl) ?_
          refine rl_vg (met_on rfl rfl rfl rfl) rfl rfl (S := fun _ => True) trivial (v_move rfl) ?_
          refine rl_vg (met_on rfl rfl rfl rfl) rfl rfl (S := fun _ => True) trivial (v_lenSlice T.sl_33_40_2 rfl) ?_
          refine rl_vg (met_on rfl rfl rfl rfl) rfl rfl (S := fun _ => True) trivial (v_gtrF rfl rfl (by omega)) ?_
          refine xV rfl rfl rfl (v_pick_false rfl rfl) ?_
          refine rl_nil (g_le (xK (xS rfl (xS rfl (xS rfl (xS rfl (xS rfl (xS rfl (xS rfl (xS rfl (xS rfl (xS rfl (xS rfl (xS rfl (xS rfl (xS rfl (Fr.le_refl _)))))))))))))))) ?_)
          refine g_cond_false rfl ?_
          refine g_skip (g_seq (g_seq ?_))
          refine g_region ?_
          refine xV rfl rfl rfl (v_move rfl) ?_
          refine xV rfl rfl rfl (v_lenSlice T.sl_29_9_1 rfl) ?_
          refine xV rfl rfl rfl (v_move rfl) ?_
          refine rl_nil (g_le (xK (xK (xK (Fr.le_refl _)))) ?_)
          refine g_block ?_
          refine g_loopC (σ := Nat) (fun C x => (73, .int .i64 (x : Nat)) :: C) [(2, _), (6, _), (7, _), (8, _), (9, _), (12, _), (71, _), (72, _)] (by repeat (first | exact Fr.le_nil _ | refine Fr.le_cons rfl ?_)) (fun z w => z ≤ nb.length ∧ Sat (envOf W) w (A4 :: RO g4 :: pt bk1_6 (.cells root.cells.toArray 26 (0, 0)) :: [])) (fun z => nb.length - z) ?_ 0 (by repeat (first | exact Fr.le_nil _ | refine Fr.le_cons rfl ?_)) ⟨by simp, hw.xQ⟩
          rintro i w ⟨hi1, hw⟩ ih
          refine g_seq ?_
          refine g_region ?_
          refine xV rfl rfl rfl (v_lss rfl rfl) ?_
          refine rl_nil (g_le (xK (Fr.le_refl _)) ?_)
          refine g_seq ?_
          refine g_cond rfl (fun h3 => ?_) (fun h3 => ?_)
          · try with_reducible exact ft_elim h3
            all_goals
              try replace h3 := of_decide_eq_true h3
              refine g_skip (g_seq (g_block (g_seq ?_)))
              have hz := hw
              clear hw
              obtain ⟨b4, o1, x, ecs, rfl, hx, hat1, hl1, hq, hxr⟩ := gx (i : Nat) (by omega) (by omega)
              subst hq
              rw [Int.toNat_natCast] at hx hat1
              obtain ⟨b5, o5, y, ycs, rfl, hy, hat5, hl5, hyr⟩ := gy (i : Nat) (by omega) (by omega)
              obtain ⟨va, vn, vc, rfl, hyr⟩ := en_told hyr
              rw [Int.toNat_natCast] at hy hat5
              rw [List.getElem?_append_left (by omega)] at hy
              rw [List.getElem?_map, hy] at hx
              have hyx : y.name = x := by simpa using hx
              have hw := hz
              refine g_region ?_
              refine xV rfl rfl rfl (v_move rfl) ?_
              refine xV rfl rfl rfl (v_indexAddr T.sl_29_9_1 rfl rfl (by omega) (by omega)) ?_
              refine rl_v rfl rfl rfl (by exact ro_at0 hw (by (repeat first | with_reducible exact xH | apply xT); first | done | fail) (by assumption) rfl) (v_load T.scal_9 rfl) ?_
              refine xV rfl rfl rfl (v_assign rfl) ?_
              refine xV rfl rfl rfl (v_assign rfl) ?_
              refine rl_nil (g_le (xK (xK (xK (xK (xK (Fr.le_refl _)))))) ?_)
              refine g_seq ?_
              refine g_region ?_
              refine xV rfl rfl rfl (v_move rfl) ?_
              refine xV rfl rfl rfl (v_move rfl) ?_
              refine xV rfl rfl rfl (v_indexAddr T.sl_33_40_2 rfl rfl (by omega) (by omega)) ?_
              refine xV rfl rfl rfl (v_fieldAddr T.fld_40_0_0 rfl) ?_
              refine rl_v rfl rfl rfl (by exact ro_at0 hw (by (repeat first | with_reducible exact xH | apply xT); first | done | fail) (by assumption) rfl) (v_load T.scal_9 rfl) ?_
              refine xV rfl rfl rfl (v_move rfl) ?_
              refine xV rfl rfl rfl (v_neqStrF rfl rfl (by first | rfl | assumption)) ?_
              refine rl_nil (g_le (xK (xK (xK (xK (xK (xK (xK (Fr.le_refl _)))))))) ?_)
              refine g_cond_false rfl ?_
              refine g_skip (g_inBlock ?_)
              refine g_region ?_
              refine xV rfl rfl rfl (v_add rfl rfl (by omega)) ?_
              refine xV rfl rfl rfl (v_move rfl) ?_
              refine rl_nil (g_le (xK (xK (Fr.le_refl _))) ?_)
              exact g_le (by repeat (first | exact Fr.le_nil _ | refine Fr.le_cons rfl ?_)) (ih (i + 1) w ⟨by omega, hw.xQ⟩ (by omega))
          · try with_reducible exact tf_elim h3
            all_goals
              try replace h3 := of_decide_eq_false h3
              refine g_exit rfl (g_seq ?_)
              refine g_region ?_
              refine xV rfl rfl rfl (v_move rfl) ?_
              refine xV rfl rfl rfl (v_mkIface T.ptr_27 rfl) ?_
              refine rl_v rfl rfl rfl (by exact sat_cells hw (by (repeat first | with_reducible exact xH | apply xT); first | done | fail) ⟨rfl, rfl, rfl, rfl, trivial⟩) (v_loadAgg (vs := [_, _, _, _]) T.agg_26_4 rfl rfl) ?_
              refine rl_k rfl (k_callf Try.func10 rfl rfl rfl rfl ?_)
              refine Calls.mono (lnames_calls ht (by omega) hok hI4 (prefixes := []) (rdSl_nil _) (hw.xQ)) ?_
              rintro _ w ⟨g5, A5, za, zn, zc, hg5, hI5, rfl, hz5, hw⟩
              refine ⟨_, rfl, ?_⟩
              refine xV rfl rfl rfl (v_move rfl) ?_
              refine xV rfl rfl rfl (v_extract rfl rfl) ?_
              refine xV rfl rfl rfl (v_extract rfl rfl) ?_
              refine xV rfl rfl rfl (v_assign rfl) ?_
              refine xV rfl rfl rfl (v_assign rfl) ?_
              refine rl_nil (g_le (xK (xK (xS rfl (xS rfl (xS rfl (xS rfl (xS rfl (xS rfl (xS rfl (Fr.le_refl _)))))))))) ?_)
              refine g_seq ?_
              refine g_region ?_
              refine xV rfl rfl rfl (v_move rfl) ?_
              refine xV rfl rfl rfl (v_mkIface T.ptr_27 rfl) ?_
              refine rl_v rfl rfl rfl (by exact sat_cells hw (by (repeat first | with_reducible exact xH | apply xT); first | done | fail) ⟨rfl, rfl, rfl, rfl, trivial⟩) (v_loadAgg (vs := [_, _, _, _]) T.agg_26_4 rfl rfl) ?_
              refine rl_k rfl (k_callf Try.func12 rfl rfl rfl rfl ?_)
              refine Calls.mono (lcount_calls ht (by omega) hok hI5 (hw.xQ)) ?_
              rintro _ w ⟨g6, A6, hg6, hI6, rfl, hw⟩
              refine ⟨_, rfl, ?_⟩
              refine xV rfl rfl rfl (v_move rfl) ?_
              refine xV rfl rfl rfl (v_extract rfl rfl) ?_
              refine xV rfl rfl rfl (v_extract rfl rfl) ?_
              refine xV rfl rfl rfl (v_assign rfl) ?_
              refine xV rfl rfl rfl (v_assign rfl) ?_
              refine rl_nil (g_le (xK (xK (xS rfl (xS rfl (xS rfl (xS rfl (xS rfl (xS rfl (xS rfl (Fr.le_refl _)))))))))) ?_)
              refine g_seq (g_seq ?_)
              have e2 : (entsU hh u).filter (pNames []) = entsU hh u := List.filter_eq_self.2 fun e _ => by simp [pNames]
              rw [e2] at hz5
              have hz6 := mono_sl mono_str hg6 hz5
              have hall6 := mono_sl mono_En (hg2.trans (hg3.trans (hg4.trans (hg5.trans hg6)))) hall
              obtain ⟨rfl, _, _, _, gz⟩ := rdSl_get hz6
              obtain ⟨rfl, _, _, _, ga⟩ := rdSl_get hall6
              simp only [List.length_map] at *
              refine g_region ?_
              refine xV rfl rfl rfl (v_move rfl) ?_
              refine xV rfl rfl rfl (v_neqF rfl rfl (by omega)) ?_
              refine xV rfl rfl rfl (v_move rfl) ?_
              refine rl_split (s := 102) rfl (fun g16_2 => ?_) (fun g16_2 => ?_)
              · try with_reducible exact ft_elim g16_2
                all_goals
                  try replace g16_2 := of_decide_eq_true g16_2
                  simp at g16_2
              · try with_reducible exact tf_elim g16_2
                all_goals
                  try replace g16_2 := of_decide_eq_false g16_2
                  refine rl_vg (met_on rfl rfl rfl rfl) rfl rfl (S := fun _ => True) trivial (v_move rfl) ?_
                  refine rl_vg (met_on rfl rfl rfl rfl) rfl rfl (S := fun _ => True) trivial (v_neqF rfl rfl (by omega)) ?_
                  refine xV rfl rfl rfl (v_pick_false rfl rfl) ?_
                  refine xV rfl rfl rfl (v_move rfl) ?_
                  refine rl_split (s := 106) rfl (fun g16_6 => ?_) (fun g16_6 => ?_)
                  · try with_reducible exact ft_elim g16_6
                    all_goals
                      try replace g16_6 := of_decide_eq_true g16_6
                      simp at g16_6
                  · try with_reducible exact tf_elim g16_6
                    all_goals
                      try replace g16_6 := of_decide_eq_false g16_6
                      refine rl_vg (met_on rfl rfl rfl rfl) rfl rfl (S := fun _ => True) trivial (v_move rfl) ?_
                      refine rl_vg (met_on rfl rfl rfl rfl) rfl rfl (S := fun _ => True) trivial (v_lenSlice T.sl_29_9_1 rfl) ?_
                      refine rl_vg (met_on rfl rfl rfl rfl) rfl rfl (S := fun _ => True) trivial (v_move rfl) ?_
                      refine rl_vg (met_on rfl rfl rfl rfl) rfl rfl (S := fun _ => True) trivial (v_lenSlice T.sl_33_40_2 rfl) ?_
                      refine rl_vg (met_on rfl rfl rfl rfl) rfl rfl (S := fun _ => True) trivial (v_neqF rfl rfl (by omega)) ?_
                      refine xV rfl rfl rfl (v_pick_false rfl rfl) ?_
                      refine xV rfl rfl rfl (v_move rfl) ?_
                      refine rl_split (s := 113) rfl (fun g16_13 => ?_) (fun g16_13 => ?_)
                      · try with_reducible exact ft_elim g16_13
                        all_goals
                          try replace g16_13 := of_decide_eq_true g16_13
                          simp at g16_13
                      · try with_reducible exact tf_elim g16_13
                        all_goals
                          try replace g16_13 := of_decide_eq_false g16_13
                          refine rl_vg (met_on rfl rfl rfl rfl) rfl rfl (S := fun _ => True) trivial (v_move rfl) ?_
                          refine rl_vg (met_on rfl rfl rfl rfl) rfl rfl (S := fun _ => True) trivial (v_move rfl) ?_
                          refine rl_vg (met_on rfl rfl rfl rfl) rfl rfl (S := fun _ => True) trivial (v_lenSlice T.sl_33_40_2 rfl) ?_
                          refine rl_vg (met_on rfl rfl rfl rfl) rfl rfl (S := fun _ => True) trivial (v_neqF rfl rfl (by omega)) ?_
                          refine xV rfl rfl rfl (v_pick_false rfl rfl) ?_
                          refine rl_nil (g_le (xK (xS rfl (xS rfl (xS rfl (xS rfl (xS rfl (xS rfl (xS rfl (xS rfl (xS rfl (xS rfl (xS rfl (xS rfl (xS rfl (xS rfl (xS rfl (xS rfl (xS rfl (xS rfl (xS rfl (xS rfl (xS rfl (Fr.le_refl _))))))))))))))))))))))) ?_)
                          refine g_cond_false rfl ?_
                          refine g_skip (g_seq (g_seq ?_))
                          refine g_region ?_
                          refine xV rfl rfl rfl (v_move rfl) ?_
                          refine xV rfl rfl rfl (v_lenSlice T.sl_29_9_1 rfl) ?_
                          refine xV rfl rfl rfl (v_move rfl) ?_
                          refine rl_nil (g_le (xK (xK (xK (Fr.le_refl _)))) ?_)
                          refine g_block ?_
                          refine g_loopC (σ := Nat × Hp × As) (fun C x => (121, .int .i64 (x.1 : Nat)) :: C) [(2, _), (6, _), (7, _), (8, _), (9, _), (119, _), (120, _)] (by repeat (first | exact Fr.le_nil _ | refine Fr.le_cons rfl ?_)) (fun z w => z.1 ≤ (entsU hh u).length ∧ g6.le z.2.1 ∧ HeapI h z.2.1 st z.2.2 ∧ Sat (envOf W) w (z.2.2 :: RO z.2.1 :: pt bk1_6 (.cells root.cells.toArray 26 (0, 0)) :: [])) (fun z => (entsU hh u).length - z.1) ?_ (0, g6, A6) (by repeat (first | exact Fr.le_nil _ | refine Fr.le_cons rfl ?_)) ⟨by simp, Hp.le_refl _, hI6, hw.xQ⟩
                          rintro ⟨k, g7, A7⟩ w ⟨hk1, hg7, hI7, hw⟩ ih2
                          dsimp only at hk1 hg7 hI7 hw ih2 ⊢
                          refine g_seq ?_
                          refine g_region ?_
                          refine xV rfl rfl rfl (v_lss rfl rfl) ?_
                          refine rl_nil (g_le (xK (Fr.le_refl _)) ?_)
                          refine g_seq ?_
                          refine g_cond rfl (fun h6 => ?_) (fun h6 => ?_)
                          · try with_reducible exact ft_elim h6
                            all_goals
                              try replace h6 := of_decide_eq_true h6
                              refine g_skip (g_seq (g_block (g_seq ?_)))
                              have hz := hw
                              clear hw
                              obtain ⟨b4, o1, x, ecs, rfl, hx, hat1, hl1, hq, hxr⟩ := gz (k : Nat) (by omega) (by omega)
                              subst hq
                              rw [Int.toNat_natCast] at hx hat1
                              obtain ⟨b5, o5, y, ycs, rfl, hy, hat5, hl5, hyr⟩ := ga (k : Nat) (by omega) (by omega)
                              obtain ⟨va, vn, vc, rfl, hyr⟩ := en_told hyr
                              rw [Int.toNat_natCast] at hy hat5
                              rw [List.getElem?_map, hy] at hx
                              have hyx : y.name = x := by simpa using hx
                              have hat1 := HAt.mono hg7 hat1
                              have hfs := floor_self hsr hy
                              rw [hyx] at hfs
                              have hat8 : atO8 (entsU hh u) (k : Nat) 0 = (y, true, 0) := by unfold atO8; rw [if_neg (by omega), Int.toNat_natCast, List.getD_eq_getElem?_getD, hy]; rfl
                              have hw := hz
                              refine g_region ?_
                              refine xV rfl rfl rfl (v_move rfl) ?_
                              refine xV rfl rfl rfl (v_indexAddr T.sl_29_9_1 rfl rfl (by omega) (by omega)) ?_
                              refine rl_v rfl rfl rfl (by exact ro_at0 hw (by (repeat first | with_reducible exact xH | apply xT); first | done | fail) (by assumption) rfl) (v_load T.scal_9 rfl) ?_
                              refine xV rfl rfl rfl (v_assign rfl) ?_
                              refine xV rfl rfl rfl (v_assign rfl) ?_
                              refine rl_nil (g_le (xK (xK (xK (xK (xK (Fr.le_refl _)))))) ?_)
                              refine g_seq ?_
                              refine g_region ?_
                              refine xV rfl rfl rfl (v_move rfl) ?_
                              refine xV rfl rfl rfl (v_mkIface T.ptr_27 rfl) ?_
                              refine rl_v rfl rfl rfl (by exact sat_cells hw (by (repeat first | with_reducible exact xH | apply xT); first | done | fail) ⟨rfl, rfl, rfl, rfl, trivial⟩) (v_loadAgg (vs := [_, _, _, _]) T.agg_26_4 rfl rfl) ?_
                              refine xV rfl rfl rfl (v_move rfl) ?_
                              refine rl_k rfl (k_callf Try.func13 rfl rfl rfl rfl ?_)
                              refine Calls.mono (lnth_calls ht (by omega) hok hI7 (k : Nat) (hw.xQ)) ?_
                              rw [hat8]
                              rintro _ w ⟨g8, A8, ncs, hg8, hI8, rfl, hn8, hw⟩
                              obtain ⟨nva, nvn, nvc, rfl, hn8⟩ := en_told hn8
                              refine ⟨_, rfl, ?_⟩
                              refine xV rfl rfl rfl (v_move rfl) ?_
                              refine xV rfl rfl rfl (v_extract rfl rfl) ?_
                              refine xV rfl rfl rfl (v_extract rfl rfl) ?_
                              refine xV rfl rfl rfl (v_extract rfl rfl) ?_
                              refine rl_k rfl (k_alloc hw T.zero_40 rfl rfl (fun bk21_9 w hw => ?_))
                              refine rl_k rfl (k_storeWhole hw T.agg_40_2 rfl rfl (by simp [Value.oneCell']) rfl (by (repeat first | with_reducible exact xH | apply xT); first | done | fail) rfl (fun w hw => ?_))
                              refine xV rfl rfl rfl (v_assign rfl) ?_
                              refine xV rfl rfl rfl (v_assign rfl) ?_
                              refine rl_nil (g_le (xK (xK (xK (xK (xK (xK (xK (xK (xK (xK (xK (xK (Fr.le_refl _))))))))))))) ?_)
                              refine g_seq ?_
                              refine g_region ?_
                              refine xV rfl rfl rfl (v_move rfl) ?_
                              refine xV rfl rfl rfl (v_mkIface T.ptr_27 rfl) ?_
                              refine rl_v rfl rfl rfl (by exact sat_cells hw (by (repeat first | with_reducible exact xH | apply xT); first | done | fail) ⟨rfl, rfl, rfl, rfl, trivial⟩) (v_loadAgg (vs := [_, _, _, _]) T.agg_26_4 rfl rfl) ?_
                              refine xV rfl rfl rfl (v_move rfl) ?_
                              refine rl_k rfl (k_callf Try.func14 rfl rfl rfl rfl ?_)
                              refine Calls.mono (lfloor_calls ht (by omega) hok hI8 x (hw.xQ)) ?_
                              rintro _ w ⟨g9, A9, fcs, q, hq9, hg9, hI9, rfl, hf9, hw⟩
                              rw [← hq9] at hfs
                              rw [lastO_at, hfs] at hf9 ⊢
                              dsimp only at hf9 ⊢
                              obtain ⟨fva, fvn, fvc, rfl, hf9⟩ := en_told hf9
                              refine ⟨_, rfl, ?_⟩
                              refine xV rfl rfl rfl (v_move rfl) ?_
                              refine xV rfl rfl rfl (v_extract rfl rfl) ?_
                              refine xV rfl rfl rfl (v_extract rfl rfl) ?_
                              refine xV rfl rfl rfl (v_extract rfl rfl) ?_
                              refine rl_k rfl (k_alloc hw T.zero_40 rfl rfl (fun bk22_9 w hw => ?_))
                              refine rl_k rfl (k_storeWhole hw T.agg_40_2 rfl rfl (by simp [Value.oneCell']) rfl (by (repeat first | with_reducible exact xH | apply xT); first | done | fail) rfl (fun w hw => ?_))
                              refine xV rfl rfl rfl (v_assign rfl) ?_
                              refine xV rfl rfl rfl (v_assign rfl) ?_
                              refine rl_nil (g_le (xK (xK (xK (xK (xK (xK (xK (xK (xK (xK (xK (xK (Fr.le_refl _))))))))))))) ?_)
                              refine g_seq ?_
                              have hat5 := HAt.mono (hg7.trans (hg8.trans hg9)) hat5
                              refine g_region ?_
                              refine xV rfl rfl rfl (v_move rfl) ?_
                              refine xV rfl rfl rfl (v_neqF rfl rfl (by omega)) ?_
                              refine xV rfl rfl rfl (v_move rfl) ?_
                              refine rl_split (s := 146) rfl (fun g23_2 => ?_) (fun g23_2 => ?_)
                              · try with_reducible exact ft_elim g23_2
                                all_goals
                                  try replace g23_2 := of_decide_eq_true g23_2
                                  simp at g23_2
                              · try with_reducible exact tf_elim g23_2
                                all_goals
                                  try replace g23_2 := of_decide_eq_false g23_2
                                  refine rl_vg (met_on rfl rfl rfl rfl) rfl rfl (S := fun _ => True) trivial (v_move rfl) ?_
                                  refine rl_vg (met_on rfl rfl rfl rfl) rfl rfl (S := fun _ => True) trivial (v_neqF rfl rfl (by omega)) ?_
                                  refine xV rfl rfl rfl (v_pick_false rfl rfl) ?_
                                  refine xV rfl rfl rfl (v_move rfl) ?_
                                  refine rl_split (s := 150) rfl (fun g23_6 => ?_) (fun g23_6 => ?_)
                                  · try with_reducible exact ft_elim g23_6
                                    all_goals
                                      try replace g23_6 := of_decide_eq_true g23_6
                                      simp at g23_6
                                  · try with_reducible exact tf_elim g23_6
                                    all_goals
                                      try replace g23_6 := of_decide_eq_false g23_6
                                      refine rl_vg (met_on rfl rfl rfl rfl) rfl rfl (S := fun _ => True) trivial (v_move rfl) ?_
                                      refine rl_vg (met_on rfl rfl rfl rfl) rfl rfl (S := fun _ => True) trivial (v_not rfl) ?_
                                      refine xV rfl rfl rfl (v_pick_false rfl rfl) ?_
                                      refine xV rfl rfl rfl (v_move rfl) ?_
                                      refine rl_split (s := 154) rfl (fun g23_10 => ?_) (fun g23_10 => ?_)
                                      · try with_reducible exact ft_elim g23_10
                                        all_goals
                                          try replace g23_10 := of_decide_eq_true g23_10
                                          simp at g23_10
                                      · try with_reducible exact tf_elim g23_10
                                        all_goals
                                          try replace g23_10 := of_decide_eq_false g23_10
                                          refine rl_vg (met_on rfl rfl rfl rfl) rfl rfl (S := fun _ => True) trivial (v_move rfl) ?_
                                          refine rl_vg (met_on rfl rfl rfl rfl) rfl rfl (S := fun _ => True) trivial (v_not rfl) ?_
                                          refine xV rfl rfl rfl (v_pick_false rfl rfl) ?_
                                          refine xV rfl rfl rfl (v_move rfl) ?_
                                          refine rl_split (s := 158) rfl (fun g23_14 => ?_) (fun g23_14 => ?_)
                                          · try with_reducible exact ft_elim g23_14
                                            all_goals
                                              try replace g23_14 := of_decide_eq_true g23_14
                                              simp at g23_14
                                          · try with_reducible exact tf_elim g23_14
                                            all_goals
                                              try replace g23_14 := of_decide_eq_false g23_14
                                              refine rl_vg (met_on rfl rfl rfl rfl) rfl rfl (S := fun _ => True) trivial (v_fieldAddr0 T.fld_40_0_0 rfl) ?_
                                              refine rl_vg (met_on rfl rfl rfl rfl) rfl rfl (by exact sat_cell hw (by (repeat first | with_reducible exact xH | apply xT); first | done | fail) rfl) (v_load T.scal_9 rfl) ?_
                                              refine rl_vg (met_on rfl rfl rfl rfl) rfl rfl (S := fun _ => True) trivial (v_move rfl) ?_
                                              refine rl_vg (met_on rfl rfl rfl rfl) rfl rfl (S := fun _ => True) trivial (v_neqStrF rfl rfl (by first | rfl | assumption)) ?_
                                              refine xV rfl rfl rfl (v_pick_false rfl rfl) ?_
                                              refine xV rfl rfl rfl (v_move rfl) ?_
                                              refine rl_split (s := 164) rfl (fun g23_20 => ?_) (fun g23_20 => ?_)
                                              · try with_reducible exact ft_elim g23_20
                                                all_goals
                                                  try replace g23_20 := of_decide_eq_true g23_20
                                                  refine rl_off (met_off rfl rfl rfl rfl rfl) rfl rfl ?_
                                                  refine rl_off (met_off rfl rfl rfl rfl rfl) rfl rfl ?_
                                                  refine rl_off (met_off rfl rfl rfl rfl rfl) rfl rfl ?_
                                                  refine rl_off (met_off rfl rfl rfl rfl rfl) rfl rfl ?_
                                                  first | (refine xV rfl rfl rfl (v_pick_true rfl rfl) ?_) | (refine xV rfl rfl rfl (v_pick_false rfl rfl) ?_) | (refine xV rfl rfl rfl (v_pick rfl rfl rfl) ?_)
                                                  refine xV rfl rfl rfl (v_move rfl) ?_
                                                  refine rl_off (met_off rfl rfl rfl rfl rfl) rfl rfl ?_
                                                  refine rl_off (met_off rfl rfl rfl rfl rfl) rfl rfl ?_
                                                  refine rl_off (met_off rfl rfl rfl rfl rfl) rfl rfl ?_
                                                  refine rl_off (met_off rfl rfl rfl rfl rfl) rfl rfl ?_
                                                  refine rl_off (met_off rfl rfl rfl rfl rfl) rfl rfl ?_
                                                  refine rl_off (met_off rfl rfl rfl rfl rfl) rfl rfl ?_
                                                  refine rl_off (met_off rfl rfl rfl rfl rfl) rfl rfl ?_
                                                  first | (refine xV rfl rfl rfl (v_pick_true rfl rfl) ?_) | (refine xV rfl rfl rfl (v_pick_false rfl rfl) ?_) | (refine xV rfl rfl rfl (v_pick rfl rfl rfl) ?_)
                                                  refine rl_nil (g_le (xK (xK (xK (xK (xK (xK (xK (xK (xK (xK (xK (xK (xK (xK (xK (xK (xK (xK (xK (xK (xK (xK (xK (xK (xK (xK (xK (xK (xK (xK (xK (xK (xK (xK (xK (xK (xK (xK (xK (xK (Fr.le_refl _))))))))))))))))))))))))))))))))))))))))) ?_)
                                                  refine g_cond_false rfl ?_
                                                  refine g_skip (g_inBlock ?_)
                                                  refine g_region ?_
                                                  first | (refine xV rfl rfl rfl (v_add rfl rfl (by omega)) ?_) | (refine xV rfl rfl rfl (v_addW rfl rfl) ?_)
                                                  refine xV rfl rfl rfl (v_move rfl) ?_
                                                  refine rl_nil (g_le (xK (xK (Fr.le_refl _))) ?_)
                                                  exact g_le (by repeat (first | exact Fr.le_nil _ | refine Fr.le_cons rfl ?_)) (ih2 (k + 1, g9, A9) w ⟨by simp only; omega, hg7.trans (hg8.trans hg9), hI9, hw.xQ⟩ (by simp only; omega))
                                              · try with_reducible exact tf_elim g23_20
                                                all_goals
                                                  try replace g23_20 := of_decide_eq_false g23_20
                                                  refine rl_vg (met_on rfl rfl rfl rfl) rfl rfl (S := fun _ => True) trivial (v_fieldAddr0 T.fld_40_0_0 rfl) ?_
                                                  refine rl_vg (met_on rfl rfl rfl rfl) rfl rfl (by exact sat_cell hw (by (repeat first | with_reducible exact xH | apply xT); first | done | fail) rfl) (v_load T.scal_9 rfl) ?_
                                                  refine rl_vg (met_on rfl rfl rfl rfl) rfl rfl (S := fun _ => True) trivial (v_move rfl) ?_
                                                  refine rl_vg (met_on rfl rfl rfl rfl) rfl rfl (S := fun _ => True) trivial (v_neqStrF rfl rfl (by first | rfl | assumption)) ?_
                                                  refine xV rfl rfl rfl (v_pick_false rfl rfl) ?_
                                                  refine xV rfl rfl rfl (v_move rfl) ?_
                                                  refine rl_split (s := 170) rfl (fun g23_26 => ?_) (fun g23_26 => ?_)
                                                  · try with_reducible exact ft_elim g23_26
                                                    all_goals
                                                      try replace g23_26 := of_decide_eq_true g23_26
                                                      refine rl_off (met_off rfl rfl rfl rfl rfl) rfl rfl ?_
                                                      refine rl_off (met_off rfl rfl rfl rfl rfl) rfl rfl ?_
                                                      refine rl_off (met_off rfl rfl rfl rfl rfl) rfl rfl ?_
                                                      refine rl_off (met_off rfl rfl rfl rfl rfl) rfl rfl ?_
                                                      refine rl_off (met_off rfl rfl rfl rfl rfl) rfl rfl ?_
                                                      refine rl_off (met_off rfl rfl rfl rfl rfl) rfl rfl ?_
                                                      refine rl_off (met_off rfl rfl rfl rfl rfl) rfl rfl ?_
                                                      first | (refine xV rfl rfl rfl (v_pick_true rfl rfl) ?_) | (refine xV rfl rfl rfl (v_pick_false rfl rfl) ?_) | (refine xV rfl rfl rfl (v_pick rfl rfl rfl) ?_)
                                                      refine rl_nil (g_le (xK (xK (xK (xK (xK (xK (xK (xK (xK (xK (xK (xK (xK (xK (xK (xK (xK (xK (xK (xK (xK (xK (xK (xK (xK (xK (xK (xK (xK (xK (xK (xK (xK (xK (xK (xK (xK (xK (xK (xK (xK (Fr.le_refl _)))))))))))))))))))))))))))))))))))))))))) ?_)
                                                      refine g_cond_false rfl ?_
                                                      refine g_skip (g_inBlock ?_)
                                                      refine g_region ?_
                                                      first | (refine xV rfl rfl rfl (v_add rfl rfl (by omega)) ?_) | (refine xV rfl rfl rfl (v_addW rfl rfl) ?_)
                                                      refine xV rfl rfl rfl (v_move rfl) ?_
                                                      refine rl_nil (g_le (xK (xK (Fr.le_refl _))) ?_)
                                                      exact g_le (by repeat (first | exact Fr.le_nil _ | refine Fr.le_cons rfl ?_)) (ih2 (k + 1, g9, A9) w ⟨by simp only; omega, hg7.trans (hg8.trans hg9), hI9, hw.xQ⟩ (by simp only; omega))
                                                  · try with_reducible exact tf_elim g23_26
                                                    all_goals
                                                      try replace g23_26 := of_decide_eq_false g23_26
                                                      refine rl_vg (met_on rfl rfl rfl rfl) rfl rfl (S := fun _ => True) trivial (v_move rfl) ?_
                                                      refine rl_vg (met_on rfl rfl rfl rfl) rfl rfl (S := fun _ => True) trivial (v_move rfl) ?_
                                                      refine rl_vg (met_on rfl rfl rfl rfl) rfl rfl (S := fun _ => True) trivial (v_indexAddr T.sl_33_40_2 rfl rfl (by omega) (by omega)) ?_
                                                      refine rl_vg (met_on rfl rfl rfl rfl) rfl rfl (S := fun _ => True) trivial (v_fieldAddr T.fld_40_0_0 rfl) ?_
                                                      refine rl_vg (met_on rfl rfl rfl rfl) rfl rfl (by exact ro_at0 hw (by (repeat first | with_reducible exact xH | apply xT); first | done | fail) (by assumption) rfl) (v_load T.scal_9 rfl) ?_
                                                      refine rl_vg (met_on rfl rfl rfl rfl) rfl rfl (S := fun _ => True) trivial (v_move rfl) ?_
                                                      refine rl_vg (met_on rfl rfl rfl rfl) rfl rfl (S := fun _ => True) trivial (v_neqStrF rfl rfl (by first | rfl | assumption)) ?_
                                                      refine xV rfl rfl rfl (v_pick_false rfl rfl) ?_
                                                      refine rl_nil (g_le (xK (xK (xK (xK (xK (xK (xK (xK (xK (xK (xK (xK (xK (xK (xK (xK (xK (xK (xK (xK (xK (xK (xK (xK (xK (xK (xK (xK (xK (xK (xK (xK (xK (xK (xK (xK (xK (xK (xK (xK (xK (Fr.le_refl _)))))))))))))))))))))))))))))))))))))))))) ?_)
                                                      refine g_cond_false rfl ?_
                                                      refine g_skip (g_inBlock ?_)
                                                      refine g_region ?_
                                                      refine xV rfl rfl rfl (v_add rfl rfl (by omega)) ?_
                                                      refine xV rfl rfl rfl (v_move rfl) ?_
                                                      refine rl_nil (g_le (xK (xK (Fr.le_refl _))) ?_)
                                                      exact g_le (by repeat (first | exact Fr.le_nil _ | refine Fr.le_cons rfl ?_)) (ih2 (k + 1, g9, A9) w ⟨by simp only; omega, hg7.trans (hg8.trans hg9), hI9, hw.xQ⟩ (by simp only; omega))
                          · try with_reducible exact tf_elim h6
                            all_goals
                              try replace h6 := of_decide_eq_false h6
                              refine g_exit rfl (g_seq (g_seq ?_))
                              refine g_region ?_
                              refine xV rfl rfl rfl (v_move rfl) ?_
                              refine xV rfl rfl rfl (v_eqlStr rfl rfl) ?_
                              refine rl_nil (g_le (xK (xS rfl (Fr.le_refl _))) ?_)
                              refine g_cond rfl (fun h8 => ?_) (fun h8 => ?_)
                              · try with_reducible exact ft_elim h8
                                all_goals
                                  try replace h8 := of_decide_eq_true h8
                                  refine g_seq ?_
                                  refine g_region ?_
                                  refine xV rfl rfl rfl (v_assign rfl) ?_
                                  refine rl_nil (g_le (xK (Fr.le_refl _)) ?_)
                                  refine g_ret1 Try.func7 rfl rfl ?_
                                  exact ⟨rfl, (hw.xQ : Sat (envOf W) w [RO g7]).shrink (hg1.trans (hg2.trans (hg3.trans (hg4.trans (hg5.trans (hg6.trans hg7))))))⟩
                              · try with_reducible exact tf_elim h8
                                all_goals
                                  try replace h8 := of_decide_eq_false h8
                                  refine g_skip (g_seq ?_)
                                  refine g_region ?_
                                  refine xV rfl rfl rfl (v_move rfl) ?_
                                  refine xV rfl rfl rfl (v_mkIface T.ptr_27 rfl) ?_
                                  refine rl_v rfl rfl rfl (by exact sat_cells hw (by (repeat first | with_reducible exact xH | apply xT); first | done | fail) ⟨rfl, rfl, rfl, rfl, trivial⟩) (v_loadAgg (vs := [_, _, _, _]) T.agg_26_4 rfl rfl) ?_
                                  refine xV rfl rfl rfl (v_move rfl) ?_
                                  refine rl_k rfl (k_callf Try.func11 rfl rfl rfl rfl ?_)
                                  refine Calls.mono (lrange_calls ht (by omega) hok hI7 ByteArray.empty t (hw.xQ)) ?_
                                  rintro _ w ⟨g8, A8, la, ln, lc, hg8, hI8, rfl, hl8, hw⟩
                                  refine ⟨_, rfl, ?_⟩
                                  refine xV rfl rfl rfl (v_move rfl) ?_
                                  refine xV rfl rfl rfl (v_extract rfl rfl) ?_
                                  refine xV rfl rfl rfl (v_extract rfl rfl) ?_
                                  refine xV rfl rfl rfl (v_assign rfl) ?_
                                  refine xV rfl rfl rfl (v_assign rfl) ?_
                                  refine rl_nil (g_le (xK (xK (xS rfl (xS rfl (xS rfl (xS rfl (xS rfl (xS rfl (xS rfl (xS rfl (Fr.le_refl _))))))))))) ?_)
                                  refine g_seq ?_
                                  refine g_region ?_
                                  refine xV rfl rfl rfl (v_move rfl) ?_
                                  refine xV rfl rfl rfl (v_mkIface T.ptr_27 rfl) ?_
                                  refine rl_v rfl rfl rfl (by exact sat_cells hw (by (repeat first | with_reducible exact xH | apply xT); first | done | fail) ⟨rfl, rfl, rfl, rfl, trivial⟩) (v_loadAgg (vs := [_, _, _, _]) T.agg_26_4 rfl rfl) ?_
                                  refine xV rfl rfl rfl (v_move rfl) ?_
                                  refine rl_k rfl (k_callf Try.func11 rfl rfl rfl rfl ?_)
                                  refine Calls.mono (lrange_calls ht (by omega) hok hI8 t ByteArray.empty (hw.xQ)) ?_
                                  rintro _ w ⟨g9, A9, ra, rn, rc, hg9, hI9, rfl, hr9, hw⟩
                                  refine ⟨_, rfl, ?_⟩
                                  refine xV rfl rfl rfl (v_move rfl) ?_
                                  refine xV rfl rfl rfl (v_extract rfl rfl) ?_
                                  refine xV rfl rfl rfl (v_extract rfl rfl) ?_
                                  refine xV rfl rfl rfl (v_assign rfl) ?_
                                  refine xV rfl rfl rfl (v_assign rfl) ?_
                                  refine rl_nil (g_le (xK (xK (xS rfl (xS rfl (xS rfl (xS rfl (xS rfl (xS rfl (xS rfl (xS rfl (Fr.le_refl _))))))))))) ?_)
                                  refine g_seq ?_
                                  have e3 : pRange ByteArray.empty t = fun e => sl e.name t := funext fun e => pRange_to h8 e
                                  have e4 : pRange t ByteArray.empty = fun e => !sl e.name t := funext fun e => pRange_from t e
                                  have hcut := sorted_cut (p := t) hsr
                                  rw [e3] at hl8
                                  rw [e4] at hr9
                                  have hl9 := mono_sl mono_En hg9 hl8
                                  have hll := congrArg List.length hcut
                                  rw [List.length_append] at hll
                                  generalize (entsU hh u).filter (fun e => sl e.name t) = left at *
                                  generalize (entsU hh u).filter (fun e => !sl e.name t) = right at *
                                  obtain ⟨rfl, _, _, _, lcells, hlels, hlsrc⟩ := rdSl_cells hl9
                                  obtain ⟨rfl, _, _, _, rcells, hrels, hrsrc⟩ := rdSl_cells hr9
                                  have hlen := hlels.len
                                  have hone := hlels.ones one_En
                                  have hlen2 := hrels.len
                                  have hone2 := hrels.ones one_En
                                  refine g_region ?_
                                  refine rl_k rfl (k_buildSlice0 hw T.sl_33_40_2 T.zero_40 rfl (fun bk30_0 w hw => ?_))
                                  refine xV rfl rfl rfl (v_move rfl) ?_
                                  refine rl_k rfl (k_appendS hw T.sl_33_40_2 T.zero_40 T.bytes_40_40 rfl (by decide) rfl rfl (by (repeat first | with_reducible exact xH | apply xT); first | done | fail) (by assumption) (by exact ro_src hw (by (repeat first | with_reducible exact xH | apply xT); first | done | fail) (by assumption) (by assumption)) (by assumption) (by omega) (by simp only [maxLen] at *; omega) rfl (fun vv30_2 w hw hnil => ?_))
                                  refine xV rfl rfl rfl (v_move rfl) ?_
                                  refine rl_k rfl (k_appendS hw T.sl_33_40_2 T.zero_40 T.bytes_40_40 rfl (by decide) rfl rfl (by (repeat first | with_reducible exact xH | apply xT); first | done | fail) (by assumption) (by exact ro_src hw (by (repeat first | with_reducible exact xH | apply xT); first | done | fail) (by assumption) (by assumption)) (by assumption) (by omega) (by simp only [maxLen] at *; omega) rfl (fun vv30_4 w hw hnil => ?_))
                                  refine xV rfl rfl rfl (v_assign rfl) ?_
                                  refine rl_nil (g_le (xK (xS rfl (xS rfl (xS rfl (xS rfl (xS rfl (Fr.le_refl _))))))) ?_)
                                  refine g_seq ?_
                                  obtain ⟨g10, hg10, hb10, hz⟩ := (hw.xQ : Sat (envOf W) w (RO g9 :: OwnSl 40 2 vv30_4 (0 + left.length + right.length) ([] ++ lcells ++ rcells) :: A9 :: [])).freeze_sl (bytes := 40) (xs := left ++ right) mono_En (by rw [List.nil_append]; exact hlels.append hrels) (by rw [List.length_append]; omega) (by simp only [reachBytes]; omega)
                                  clear hw
                                  obtain ⟨ba, bn, bc, rfl⟩ := rdSl_shape hb10
                                  have hw := hz
                                  rw [hcut] at hb10
                                  refine g_region ?_
                                  refine xV rfl rfl rfl (v_move rfl) ?_
                                  refine xV rfl rfl rfl (v_eqlT rfl rfl (by omega)) ?_
                                  refine xV rfl rfl rfl (v_move rfl) ?_
                                  refine rl_vg (met_on rfl rfl rfl rfl) rfl rfl (S := fun _ => True) trivial (v_move rfl) ?_
                                  refine rl_vg (met_on rfl rfl rfl rfl) rfl rfl (S := fun _ => True) trivial (v_eqlT rfl rfl (by omega)) ?_
                                  refine xV rfl rfl rfl (v_pick_true rfl rfl) ?_
                                  refine xV rfl rfl rfl (v_move rfl) ?_
                                  refine rl_vg (met_on rfl rfl rfl rfl) rfl rfl (S := fun _ => True) trivial (v_move rfl) ?_
                                  refine rl_vg (met_on rfl rfl rfl rfl) rfl rfl (S := fun _ => True) trivial (v_move rfl) ?_
                                  refine rl_kg (met_on rfl rfl rfl rfl) (k_callf Try.func20 rfl rfl rfl rfl ?_); refine Calls.mono (likeAll_calls hb10 (mono_sl mono_En (hg7.trans (hg8.trans (hg9.trans hg10))) hall6) (hw.xQ)) ?_; rw [decide_eq_true rfl]; rintro _ w ⟨rfl, hw⟩; refine ⟨_, rfl, ?_⟩
                                  refine xV rfl rfl rfl (v_pick_true rfl rfl) ?_
                                  refine xV rfl rfl rfl (v_assign rfl) ?_
                                  refine rl_nil (g_le (xK (xS rfl (xS rfl (xS rfl (xS rfl (xS rfl (xS rfl (xS rfl (xS rfl (xS rfl (xS rfl (xS rfl (Fr.le_refl _))))))))))))) ?_)
                                  refine g_ret1 Try.func7 rfl rfl ?_
                                  exact ⟨rfl, (hw.xQ : Sat (envOf W) w [RO g10]).shrink (hg1.trans (hg2.trans (hg3.trans (hg4.trans (hg5.trans (hg6.trans (hg7.trans (hg8.trans (hg9.trans hg10)))))))))⟩

set_option maxRecDepth 100000 in
theorem ListAgree_lifted (os : Os) (started : os.Started) (H : Type) (enc : TypeId × Value → H) :
    ReturnsInHanded {} Try.checked os 7 .any (Rows.listAgreeSpec.pre6 enc Try.prog Try.f7 Rows.listAgreeRow.domain false) (Rows.listAgreeSpec.post enc Try.prog Try.f7 false true false false) := by
  refine returnsInHanded_of_change_sized (C := Try.checked) T.own started (by kernel_rfl) Try.func7
    (ChangeSpec.witness6 (enc := enc) (C := Try.checked) false ⟨#[], #[(.slice none 0 0), (.string ByteArray.empty), (.string ByteArray.empty)], []⟩ 8 (by kernel_rfl) (by kernel_rfl) (by kernel_rfl) (by kernel_rfl)) ?_
  intro W base args ds gs before hval0 hW hcnd hsz0 _
  have hval : ∀ (j : Nat) t v, Try.f7.params[j]? = some t → args[j]? = some v → Value.okWide Try.prog W .any base t v := hval0
  have hW' := hW
  obtain ⟨p, q, hA0, hV, rfl, hfz, hnd⟩ := hW
  have hA : DataW.TrodAll enc Try.prog W 0 (fun _ => true) true Try.f7.params.toList args.toList ds p := hA0
  obtain ⟨rfl, rfl⟩ := trodVars_none hV
  have hsz : (DataW.weightsEach Try.prog (Try.f7.params.toList ++ []) (ds ++ [])).all (· ≤ reachBytes) = true := hsz0
  rw [List.append_nil, List.append_nil] at hsz
  rw [Try.params7] at hA hval hsz
  obtain ⟨v0, vs0, d0, ds0, p0, q0, hargs, rfl, rfl, h0, r0⟩ := trodAll_cons hA
  obtain ⟨v1, vs1, d1, ds1, p1, q1, rfl, rfl, rfl, h1, r1⟩ := trodAll_cons r0
  obtain ⟨v2, vs2, d2, ds2, p2, q2, rfl, rfl, rfl, h2, r2⟩ := trodAll_cons r1
  obtain ⟨rfl, rfl, rfl⟩ := trodAll_nil r2
  obtain rfl : args = #[v0, v1, v2] := by cases args; simp_all
  have lt0 : ∀ x ∈ p0, x.block < W.heap.size := by obtain ⟨m, hm⟩ := h0; exact DataW.trod_lt m _ _ _ hm
  obtain ⟨x0, w0⟩ := arg_of (j := 0) (reads_sl T.sl_33_40_2 T.bytes_40_40 (by decide) reads_En) h0 hsz rfl rfl
  have lt1 : ∀ x ∈ p1, x.block < W.heap.size := by obtain ⟨m, hm⟩ := h1; exact DataW.trod_lt m _ _ _ hm
  obtain ⟨x1, w1⟩ := arg_of (j := 1) (reads_str T.str_9) h1 hsz rfl rfl
  have lt2 : ∀ x ∈ p2, x.block < W.heap.size := by obtain ⟨m, hm⟩ := h2; exact DataW.trod_lt m _ _ _ hm
  obtain ⟨x2, w2⟩ := arg_of (j := 2) (reads_str T.str_9) h2 hsz rfl rfl
  obtain ⟨a0, l0, c0, rfl⟩ := okWide_slice Try.underlying33 (hval 0 33 v0 rfl rfl)
  obtain ⟨s1, rfl⟩ := okWide_string Try.underlying9 (hval 1 9 v1 rfl rfl)
  obtain ⟨s2, rfl⟩ := okWide_string Try.underlying9 (hval 2 9 v2 rfl rfl)
  obtain ⟨hc1, hr1⟩ := w1
  cases hc1
  obtain ⟨hc2, hr2⟩ := w2
  cases hc2
  refine (ListAgree_law w0 hr1 hr2).mono fun e W' ⟨he, hb⟩ => ?_
  have bel := hb.below
  subst he
  exact ⟨_, rfl, _, _, _, [], _, [], hW', trodAll_mk1 (shut_bool Try.underlying4 _), (trodAll_cons_mk (Below.trod T.laidOut (by kernel_rfl) (of_decide_eq_true (by kernel_rfl)) h0 bel lt0) (trodAll_cons_mk (Below.trod T.laidOut (by kernel_rfl) (of_decide_eq_true (by kernel_rfl)) h1 bel lt1) (trodAll_cons_mk (Below.trod T.laidOut (by kernel_rfl) (of_decide_eq_true (by kernel_rfl)) h2 bel lt2) trodAll_mk0))), rfl, bel.frame _, fun h => by cases h⟩
theorem ListAgree_holds : Rows.ListAgreeSaid :=
  OpenClaim.holds_of_wide 7 Try.f7 rfl rfl rfl rfl rfl rfl rfl ⟨rfl, rfl, rfl, rfl, rfl⟩ rfl rfl rfl rfl rfl (by kernel_rfl) Try.func7 (by kernel_rfl)
    (of_decide_eq_true (by kernel_rfl)) (by unfold Func.isWrapper; rw [if_neg (of_decide_eq_false (by kernel_rfl))]; exact ⟨rfl, rfl⟩)
    (fun os started H enc _ => ListAgree_lifted os started H enc)
#print axioms ListAgree_holds
end Go.Proofs.Ytdiocmjhencbpaa
