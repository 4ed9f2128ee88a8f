/-
  The search tree over any pages: Delete, Move.
-/
import Derived.Test.YtmbngahboaljpaaC07i
namespace Go.Proofs.Ytmbngahboaljpaa
set_option maxRecDepth 8000
set_option linter.unusedSimpArgs false
set_option linter.unusedVariables false
open Go Xe
set_option maxHeartbeats 2000000 in
theorem Delete_calls {τ : Type} (D : Pg τ) {E : Env} {w : World} {L : List As} {g : Hp} {s : τ} {A : As} (r : Rf) (hr : r.ok) (name : ByteArray) (hI : D.I g s A) (hw : Sat E w (A :: RO g :: L)) :
    Calls Try.prog 30 #[.iface D.t D.u, .agg r.cells.toArray, .string name] w fun v w' =>
    ∃ g' A', g.le g' ∧ D.I g' (delT D.ops s r name).2.2.2 A' ∧ v = .returned (.tuple #[.agg (delT D.ops s r name).1.cells.toArray, .bool (delT D.ops s r name).2.1, .int .i64 (delT D.ops s r name).2.2.1]) ∧ (delT D.ops s r name).1.ok ∧ Sat E w' (A' :: RO g' :: L) := by
  refine calls_of_g (n := 63) Try.func30 rfl rfl rfl ?_
  change G _ _ _ _ _ [(0, _), (1, _), (2, _)] _
  refine g_seq ?_
  refine g_region ?_
  refine rl_k rfl (k_box hw rfl rfl rfl (fun bk0_0 w hw => ?_))
  refine rl_k rfl (k_alloc hw T.zero_25 rfl rfl (fun bk0_1 w hw => ?_))
  refine xV rfl rfl rfl (v_assign rfl) ?_
  refine xV rfl rfl rfl (v_assign rfl) ?_
  refine rl_nil (g_le (xK (xK (xK (xK (Fr.le_refl _))))) ?_)
  refine g_seq ?_
  refine g_region ?_
  refine xV rfl rfl rfl (v_move rfl) ?_
  refine xV rfl rfl rfl (v_build rfl (T.build_102_0 ..)) ?_
  refine rl_k rfl (k_alloc hw T.zero_102 rfl rfl (fun bk1_2 w hw => ?_))
  refine rl_k rfl (k_storeWhole hw T.agg_102_1 rfl rfl (by simp [Value.oneCell']) rfl (by (repeat first | with_reducible exact xH | apply xT); first | done | fail) rfl (fun w hw => ?_))
  refine rl_nil (g_le (xK (xS rfl (xS rfl (Fr.le_refl _)))) ?_)
  refine g_seq ?_
  refine g_region ?_
  refine rl_v rfl rfl rfl (by exact sat_cells hw (by (repeat first | with_reducible exact xH | apply xT); first | done | fail) ⟨rfl, trivial⟩) (v_loadAgg (vs := [_]) T.agg_102_1 rfl rfl) ?_
  refine rl_v rfl rfl rfl (by exact sat_cells hw (by (repeat first | with_reducible exact xH | apply xT); first | done | fail) ⟨rfl, rfl, rfl, rfl, trivial⟩) (v_loadAgg (vs := [_, _, _, _]) T.agg_25_4 rfl rfl) ?_
  refine xV rfl rfl rfl (v_move rfl) ?_
  refine rl_k rfl (k_callf Try.func52 rfl rfl rfl rfl ?_)
  refine Calls.mono (take_calls D name 8 r hr 1 (by omega) (by omega) hI (hw.xQ)) ?_
  generalize hp : takeO D.ops 8 s r name = pq
  obtain ⟨x, is, bad, s1⟩ := pq
  dsimp only
  rintro _ w ⟨g1, A1, ea, ec, ka, kc, hg1, hI1, rfl, hnd, hsm, hw⟩
  refine ⟨_, rfl, ?_⟩
  refine xV rfl rfl rfl (v_move rfl) ?_
  refine xV rfl rfl rfl (v_extract rfl rfl) ?_
  refine xV rfl rfl rfl (v_extract rfl rfl) ?_
  refine xV rfl rfl rfl (v_extract rfl rfl) ?_
  refine rl_k rfl (k_alloc hw T.zero_110 rfl rfl (fun bk2_8 w hw => ?_))
  refine rl_k rfl (k_storeWhole hw T.agg_110_3 rfl rfl (by simp [Value.oneCell']) rfl (by (repeat first | with_reducible exact xH | apply xT); first | done | fail) rfl (fun w hw => ?_))
  refine xV rfl rfl rfl (v_assign rfl) ?_
  refine xV rfl rfl rfl (v_assign rfl) ?_
  refine rl_nil (g_le (xK (xK (xK (xS rfl (xS rfl (xS rfl (xS rfl (xS rfl (xS rfl (xS rfl (xS rfl (Fr.le_refl _)))))))))))) ?_)
  refine g_seq (g_seq ?_)
  refine g_region ?_
  refine xV rfl rfl rfl (v_move rfl) ?_
  refine xV rfl rfl rfl (v_neq rfl rfl) ?_
  refine rl_nil (g_le (xK (xS rfl (Fr.le_refl _))) ?_)
  refine g_cond rfl (fun h1 => ?_) (fun h1 => ?_)
  · try with_reducible exact ft_elim h1
    all_goals
      try replace h1 := of_decide_eq_true h1
      refine g_seq ?_
      refine g_region ?_
      refine xV rfl rfl rfl (v_build rfl (T.build_25 ..)) ?_
      refine xV rfl rfl rfl (v_move rfl) ?_
      refine rl_k rfl (k_storeWhole hw T.agg_25_4 rfl rfl (by simp [Value.oneCell']) rfl (by (repeat first | with_reducible exact xH | apply xT); first | done | fail) rfl (fun w hw => ?_))
      refine xV rfl rfl rfl (v_assign rfl) ?_
      refine xV rfl rfl rfl (v_assign rfl) ?_
      refine rl_nil (g_le (xK (xK (xS rfl (xS rfl (Fr.le_refl _))))) ?_)
      refine g_res3 Try.func30 rfl ⟨_, rfl, holds_agg (vs := [_, _, _, _]) T.agg_25_4 rfl (by exact sat_cells hw (by (repeat first | with_reducible exact xH | apply xT); first | done | fail) ⟨rfl, rfl, rfl, rfl, trivial⟩)⟩ rfl rfl ?_
      have e : delT D.ops s r name = (rf0, false, bad, s1) := by simp only [delT, hp]; exact if_pos h1
      rw [e]
      exact ⟨g1, A1, hg1, hI1, rfl, rf0_ok, hw.xQ⟩
  · try with_reducible exact tf_elim h1
    all_goals
      try replace h1 := of_decide_eq_false h1
      obtain rfl : bad = 0 := by omega
      refine g_skip (g_seq (g_seq ?_))
      refine g_region ?_
      refine xV rfl rfl rfl (v_move rfl) ?_
      refine xV rfl rfl rfl (v_not rfl) ?_
      refine rl_nil (g_le (xK (xS rfl (Fr.le_refl _))) ?_)
      refine g_cond rfl (fun h2 => ?_) (fun h2 => ?_)
      · try with_reducible exact ft_elim h2
        all_goals
          try replace h2 := of_decide_eq_true h2
          refine g_seq ?_
          refine g_region ?_
          refine rl_v rfl rfl rfl (by exact sat_cells hw (by (repeat first | with_reducible exact xH | apply xT); first | done | fail) ⟨rfl, rfl, rfl, rfl, trivial⟩) (v_loadAgg (vs := [_, _, _, _]) T.agg_25_4 rfl rfl) ?_
          refine rl_k rfl (k_storeWhole hw T.agg_25_4 rfl rfl (by simp [Value.oneCell']) rfl (by (repeat first | with_reducible exact xH | apply xT); first | done | fail) rfl (fun w hw => ?_))
          refine xV rfl rfl rfl (v_assign rfl) ?_
          refine xV rfl rfl rfl (v_assign rfl) ?_
          refine rl_nil (g_le (xK (xK (xS rfl (Fr.le_refl _)))) ?_)
          refine g_res3 Try.func30 rfl ⟨_, rfl, holds_agg (vs := [_, _, _, _]) T.agg_25_4 rfl (by exact sat_cells hw (by (repeat first | with_reducible exact xH | apply xT); first | done | fail) ⟨rfl, rfl, rfl, rfl, trivial⟩)⟩ rfl rfl ?_
          have e : delT D.ops s r name = (r, false, 0, s1) := by simp only [delT, hp]; rw [if_neg (by simp), if_pos (by simpa using h2)]
          rw [e]
          exact ⟨g1, A1, hg1, hI1, rfl, hr, hw.xQ⟩
      · try with_reducible exact tf_elim h2
        all_goals
          try replace h2 := of_decide_eq_false h2
          obtain rfl : is = true := by simpa using h2
          refine g_skip (g_seq (g_seq ?_))
          refine g_region ?_
          refine xV rfl rfl rfl (v_fieldAddr0 T.fld_110_0_0 rfl) ?_
          refine xV rfl rfl rfl (v_fieldAddr0 T.fld_32_0_0 rfl) ?_
          refine rl_v rfl rfl rfl (by exact sat_cell hw (by (repeat first | with_reducible exact xH | apply xT); first | done | fail) rfl) (v_load T.scal_4 rfl) ?_
          refine xV rfl rfl rfl (v_not rfl) ?_
          refine xV rfl rfl rfl (v_move rfl) ?_
          refine rl_split (s := 35) rfl (fun g7_4 => ?_) (fun g7_4 => ?_)
          · try with_reducible exact ft_elim g7_4
            all_goals
              try replace g7_4 := of_decide_eq_true g7_4
              refine rl_vg (met_on rfl rfl rfl rfl) rfl rfl (S := fun _ => True) trivial (v_fieldAddr0 T.fld_110_0_0 rfl) ?_
              refine rl_vg (met_on rfl rfl rfl rfl) rfl rfl (S := fun _ => True) trivial (v_fieldAddr0 T.fld_32_2_2 rfl) ?_
              refine rl_vg (met_on rfl rfl rfl rfl) rfl rfl (by exact sat_cell hw (by (repeat first | with_reducible exact xH | apply xT); first | done | fail) rfl) (v_load T.scal_30 rfl) ?_
              refine rl_vg (met_on rfl rfl rfl rfl) rfl rfl (S := fun _ => True) trivial (v_lenSlice T.sl_30_70_5 rfl) ?_
              refine rl_vg (met_on rfl rfl rfl rfl) rfl rfl (S := fun _ => True) trivial (v_eql rfl rfl) ?_
              refine xV rfl rfl rfl (v_pick_true rfl rfl) ?_
              refine rl_nil (g_le (xK (xS rfl (xS rfl (xS rfl (xS rfl (xS rfl (xS rfl (xS rfl (xS rfl (xS rfl (xS rfl (xS rfl (Fr.le_refl _))))))))))))) ?_)
              refine g_cond rfl (fun h3 => ?_) (fun h3 => ?_)
              · try with_reducible exact ft_elim h3
                all_goals
                  try replace h3 := of_decide_eq_true h3
                  have hxl : x.leaf = false := by simpa using g7_4
                  obtain ⟨n0, n1, n2, hq9, _, hqe, hqk⟩ := id hnd
                  simp only [List.cons.injEq, and_true] at hq9
                  obtain ⟨_, rfl, rfl⟩ := hq9
                  obtain ⟨_, _, _, _, gk⟩ := rdSl_get hqk
                  have hz := hw
                  clear hw
                  obtain ⟨b4, o1, y, ecs, rfl, hy, hat1, hl1, rfl, hyok⟩ := gk 0 (by omega) (by omega)
                  have hatr : HAt g1 b4 (o1 + (0 : Int).toNat * 5 + 1) y.ref.cells := hat1.2
                  have hw := hz
                  refine g_seq ?_
                  refine g_region ?_
                  refine xV rfl rfl rfl (v_fieldAddr0 T.fld_110_0_0 rfl) ?_
                  refine xV rfl rfl rfl (v_fieldAddr0 T.fld_32_2_2 rfl) ?_
                  refine rl_v rfl rfl rfl (by exact sat_cell hw (by (repeat first | with_reducible exact xH | apply xT); first | done | fail) rfl) (v_load T.scal_30 rfl) ?_
                  refine xV rfl rfl rfl (v_indexAddr T.sl_30_70_5 rfl rfl (by omega) (by omega)) ?_
                  refine xV rfl rfl rfl (v_fieldAddr T.fld_70_1_1 rfl) ?_
                  refine rl_v rfl rfl rfl (by exact ro_ats hw (by (repeat first | with_reducible exact xH | apply xT); first | done | fail) (by assumption)) (v_loadAgg (vs := [_, _, _, _]) T.agg_25_4 rfl rfl) ?_
                  refine rl_k rfl (k_storeWhole hw T.agg_25_4 rfl rfl (by simp [Value.oneCell']) rfl (by (repeat first | with_reducible exact xH | apply xT); first | done | fail) rfl (fun w hw => ?_))
                  refine xV rfl rfl rfl (v_assign rfl) ?_
                  refine xV rfl rfl rfl (v_assign rfl) ?_
                  refine rl_nil (g_le (xK (xK (xS rfl (xS rfl (xS rfl (xS rfl (xS rfl (xS rfl (Fr.le_refl _))))))))) ?_)
                  refine g_res3 Try.func30 rfl ⟨_, rfl, holds_agg (vs := [_, _, _, _]) T.agg_25_4 rfl (by exact sat_cells hw (by (repeat first | with_reducible exact xH | apply xT); first | done | fail) ⟨rfl, rfl, rfl, rfl, trivial⟩)⟩ rfl rfl ?_
                  have e : delT D.ops s r name = (y.ref, true, 0, s1) := by simp only [delT, hp]; rw [if_neg (by simp), if_neg (by simp), if_pos ⟨hxl, by omega⟩, List.getD_eq_getElem?_getD, show x.kids[0]? = some y from hy]; rfl
                  rw [e]
                  exact ⟨g1, A1, hg1, hI1, rfl, hyok.2, hw.xQ⟩
              · try with_reducible exact tf_elim h3
                all_goals
                  try replace h3 := of_decide_eq_false h3
                  refine g_skip (g_seq ?_)
                  refine g_region ?_
                  refine rl_v rfl rfl rfl (by exact sat_cells hw (by (repeat first | with_reducible exact xH | apply xT); first | done | fail) ⟨rfl, trivial⟩) (v_loadAgg (vs := [_]) T.agg_102_1 rfl rfl) ?_
                  refine rl_v rfl rfl rfl (by exact sat_cells hw (by (repeat first | with_reducible exact xH | apply xT); first | done | fail) ⟨rfl, rfl, rfl, trivial⟩) (v_loadAgg (vs := [_, _, _]) T.agg_110_3 rfl rfl) ?_
                  refine rl_k rfl (k_buildSlice (cells := [_, _, _]) hw T.sl_103_110_3 T.zero_110 rfl rfl rfl rfl rfl rfl (fun bk9_2 w hw => ?_))
                  obtain ⟨g2, hg2, hrd, hw⟩ := (hw.xQ : Sat E w (RO g1 :: pt bk9_2 (.cells [.bool x.leaf, .slice ea x.entries.length ec, .slice ka x.kids.length kc].toArray 110 (0, 0)) :: A1 :: pt bk0_1 (.cells [.int .u64 0, .int .i64 0, .int .i64 0, .int .i64 0].toArray 25 (0, 0)) :: L)).freeze_lit (R := rdNd) (sz := 3) (bytes := 56) mono_Nd (Els.one rfl hnd) rfl (by simp [maxLen]) (by simp [reachBytes])
                  refine rl_k rfl (k_callf Try.func45 rfl rfl rfl rfl ?_)
                  refine Calls.mono (lay_calls D hrd (fun y hy => by rw [List.mem_singleton.1 hy]; exact hsm) (by simp) (D.mono hg2 hI1) (hw.xQ)) ?_
                  generalize hly : layO D.ops s1 [x] [] = lq
                  obtain ⟨ks, b4, s4⟩ := lq
                  dsimp only
                  rintro _ w ⟨g4, A4, qa, qc, hg4, hI4, rfl, hkok, hkl, hw⟩
                  refine ⟨_, rfl, ?_⟩
                  refine xV rfl rfl rfl (v_move rfl) ?_
                  refine xV rfl rfl rfl (v_extract rfl rfl) ?_
                  refine xV rfl rfl rfl (v_extract rfl rfl) ?_
                  refine xV rfl rfl rfl (v_assign rfl) ?_
                  refine xV rfl rfl rfl (v_assign rfl) ?_
                  refine rl_nil (g_le (xK (xK (xS rfl (xS rfl (xS rfl (xS rfl (xS rfl (xS rfl (xS rfl (Fr.le_refl _)))))))))) ?_)
                  have e : delT D.ops s r name = if b4 ≠ 0 then (rf0, false, b4, s4) else ((ks.getD 0 kd0).ref, true, 0, s4) := by simp only [delT, hp]; rw [if_neg (by simp), if_neg (by simp), if_neg (fun hh => by omega)]; simp only [hly]
                  refine g_seq (g_seq ?_)
                  refine g_region ?_
                  refine xV rfl rfl rfl (v_move rfl) ?_
                  refine xV rfl rfl rfl (v_neq rfl rfl) ?_
                  refine rl_nil (g_le (xK (xS rfl (Fr.le_refl _))) ?_)
                  refine g_cond rfl (fun h4 => ?_) (fun h4 => ?_)
                  · try with_reducible exact ft_elim h4
                    all_goals
                      try replace h4 := of_decide_eq_true h4
                      refine g_seq ?_
                      refine g_region ?_
                      refine xV rfl rfl rfl (v_build rfl (T.build_25 ..)) ?_
                      refine xV rfl rfl rfl (v_move rfl) ?_
                      refine rl_k rfl (k_storeWhole hw T.agg_25_4 rfl rfl (by simp [Value.oneCell']) rfl (by (repeat first | with_reducible exact xH | apply xT); first | done | fail) rfl (fun w hw => ?_))
                      refine xV rfl rfl rfl (v_assign rfl) ?_
                      refine xV rfl rfl rfl (v_assign rfl) ?_
                      refine rl_nil (g_le (xK (xK (xS rfl (xS rfl (Fr.le_refl _))))) ?_)
                      refine g_res3 Try.func30 rfl ⟨_, rfl, holds_agg (vs := [_, _, _, _]) T.agg_25_4 rfl (by exact sat_cells hw (by (repeat first | with_reducible exact xH | apply xT); first | done | fail) ⟨rfl, rfl, rfl, rfl, trivial⟩)⟩ rfl rfl ?_
                      rw [if_pos h4] at e
                      rw [e]
                      exact ⟨g4, A4, (hg1.trans hg2).trans hg4, hI4, rfl, rf0_ok, hw.xQ⟩
                  · try with_reducible exact tf_elim h4
                    all_goals
                      try replace h4 := of_decide_eq_false h4
                      obtain rfl : b4 = 0 := by omega
                      rw [if_neg h4] at e
                      have hle9 := layO_len D.ops [x] s1 [] (by rw [hly])
                      rw [hly] at hle9
                      simp only [List.length_nil, List.length_cons, Nat.zero_add] at hle9
                      obtain ⟨a8, c8, hv8, _, _, ha8⟩ := (hw.xP (A := OwnSl 70 5 (.slice qa ks.length qc) ks.length (ks.flatMap Kd.cells))).own_shape
                      simp only [Value.slice.injEq] at hv8
                      obtain ⟨rfl, _, rfl⟩ := hv8
                      have hz := hw
                      clear hw
                      obtain ⟨vb, rfl⟩ := ha8 (by omega)
                      have hw := hz
                      obtain ⟨y, hy⟩ : ∃ y, ks[0]? = some y := ⟨_, List.getElem?_eq_getElem (by omega)⟩
                      have hsub := subAt_flat (f := Kd.cells) (sz := 5) (fun _ => rfl) hy
                      have hsubr : SubAt (ks.flatMap Kd.cells) (0 + (0 : Int).toNat * 5 + 1) y.ref.cells := hsub.2
                      refine g_skip (g_seq ?_)
                      refine g_region ?_
                      refine xV rfl rfl rfl (v_move rfl) ?_
                      refine xV rfl rfl rfl (v_indexAddr T.sl_30_70_5 rfl rfl (by omega) (by omega)) ?_
                      refine xV rfl rfl rfl (v_fieldAddr0 T.fld_70_1_1 rfl) ?_
                      refine rl_v rfl rfl rfl (by exact own_cells hw (by (repeat first | with_reducible exact xH | apply xT); first | done | fail) (by assumption)) (v_loadAgg (vs := [_, _, _, _]) T.agg_25_4 rfl rfl) ?_
                      refine rl_k rfl (k_storeWhole hw T.agg_25_4 rfl rfl (by simp [Value.oneCell']) rfl (by (repeat first | with_reducible exact xH | apply xT); first | done | fail) rfl (fun w hw => ?_))
                      refine xV rfl rfl rfl (v_assign rfl) ?_
                      refine xV rfl rfl rfl (v_assign rfl) ?_
                      refine rl_nil (g_le (xK (xK (xS rfl (xS rfl (xS rfl (xS rfl (Fr.le_refl _))))))) ?_)
                      refine g_res3 Try.func30 rfl ⟨_, rfl, holds_agg (vs := [_, _, _, _]) T.agg_25_4 rfl (by exact sat_cells hw (by (repeat first | with_reducible exact xH | apply xT); first | done | fail) ⟨rfl, rfl, rfl, rfl, trivial⟩)⟩ rfl rfl ?_
                      rw [List.getD_eq_getElem?_getD, hy, Option.getD_some] at e
                      rw [e]
                      exact ⟨g4, A4, (hg1.trans hg2).trans hg4, hI4, rfl, (hkok y (List.mem_of_getElem? hy)).2, hw.xQ⟩
          · try with_reducible exact tf_elim g7_4
            all_goals
              try replace g7_4 := of_decide_eq_false g7_4
              refine rl_off (met_off rfl rfl rfl rfl rfl) rfl rfl ?_
              refine rl_off (met_off rfl rfl rfl rfl rfl) rfl rfl ?_
              refine rl_off (met_off rfl rfl rfl rfl rfl) rfl rfl ?_
              refine rl_off (met_off rfl rfl rfl rfl rfl) rfl rfl ?_
              refine rl_off (met_off rfl rfl rfl rfl rfl) rfl rfl ?_
              refine xV rfl rfl rfl (v_pick_false rfl rfl) ?_
              refine rl_nil (g_le (xK (xS rfl (xS rfl (xS rfl (xS rfl (xS rfl (xS rfl (xS rfl (xS rfl (xS rfl (xS rfl (xS rfl (Fr.le_refl _))))))))))))) ?_)
              refine g_cond_false rfl ?_
              refine g_skip (g_seq ?_)
              refine g_region ?_
              refine rl_v rfl rfl rfl (by exact sat_cells hw (by (repeat first | with_reducible exact xH | apply xT); first | done | fail) ⟨rfl, trivial⟩) (v_loadAgg (vs := [_]) T.agg_102_1 rfl rfl) ?_
              refine rl_v rfl rfl rfl (by exact sat_cells hw (by (repeat first | with_reducible exact xH | apply xT); first | done | fail) ⟨rfl, rfl, rfl, trivial⟩) (v_loadAgg (vs := [_, _, _]) T.agg_110_3 rfl rfl) ?_
              refine rl_k rfl (k_buildSlice (cells := [_, _, _]) hw T.sl_103_110_3 T.zero_110 rfl rfl rfl rfl rfl rfl (fun bk9_2 w hw => ?_))
              obtain ⟨g2, hg2, hrd, hw⟩ := (hw.xQ : Sat E w (RO g1 :: pt bk9_2 (.cells [.bool x.leaf, .slice ea x.entries.length ec, .slice ka x.kids.length kc].toArray 110 (0, 0)) :: A1 :: pt bk0_1 (.cells [.int .u64 0, .int .i64 0, .int .i64 0, .int .i64 0].toArray 25 (0, 0)) :: L)).freeze_lit (R := rdNd) (sz := 3) (bytes := 56) mono_Nd (Els.one rfl hnd) rfl (by simp [maxLen]) (by simp [reachBytes])
              refine rl_k rfl (k_callf Try.func45 rfl rfl rfl rfl ?_)
              refine Calls.mono (lay_calls D hrd (fun y hy => by rw [List.mem_singleton.1 hy]; exact hsm) (by simp) (D.mono hg2 hI1) (hw.xQ)) ?_
              generalize hly : layO D.ops s1 [x] [] = lq
              obtain ⟨ks, b4, s4⟩ := lq
              dsimp only
              rintro _ w ⟨g4, A4, qa, qc, hg4, hI4, rfl, hkok, hkl, hw⟩
              refine ⟨_, rfl, ?_⟩
              refine xV rfl rfl rfl (v_move rfl) ?_
              refine xV rfl rfl rfl (v_extract rfl rfl) ?_
              refine xV rfl rfl rfl (v_extract rfl rfl) ?_
              refine xV rfl rfl rfl (v_assign rfl) ?_
              refine xV rfl rfl rfl (v_assign rfl) ?_
              refine rl_nil (g_le (xK (xK (xS rfl (xS rfl (xS rfl (xS rfl (xS rfl (xS rfl (xS rfl (Fr.le_refl _)))))))))) ?_)
              have e : delT D.ops s r name = if b4 ≠ 0 then (rf0, false, b4, s4) else ((ks.getD 0 kd0).ref, true, 0, s4) := by simp only [delT, hp]; rw [if_neg (by simp), if_neg (by simp), if_neg (fun hh => by simp_all)]; simp only [hly]
              refine g_seq (g_seq ?_)
              refine g_region ?_
              refine xV rfl rfl rfl (v_move rfl) ?_
              refine xV rfl rfl rfl (v_neq rfl rfl) ?_
              refine rl_nil (g_le (xK (xS rfl (Fr.le_refl _))) ?_)
              refine g_cond rfl (fun h4 => ?_) (fun h4 => ?_)
              · try with_reducible exact ft_elim h4
                all_goals
                  try replace h4 := of_decide_eq_true h4
                  refine g_seq ?_
                  refine g_region ?_
                  refine xV rfl rfl rfl (v_build rfl (T.build_25 ..)) ?_
                  refine xV rfl rfl rfl (v_move rfl) ?_
                  refine rl_k rfl (k_storeWhole hw T.agg_25_4 rfl rfl (by simp [Value.oneCell']) rfl (by (repeat first | with_reducible exact xH | apply xT); first | done | fail) rfl (fun w hw => ?_))
                  refine xV rfl rfl rfl (v_assign rfl) ?_
                  refine xV rfl rfl rfl (v_assign rfl) ?_
                  refine rl_nil (g_le (xK (xK (xS rfl (xS rfl (Fr.le_refl _))))) ?_)
                  refine g_res3 Try.func30 rfl ⟨_, rfl, holds_agg (vs := [_, _, _, _]) T.agg_25_4 rfl (by exact sat_cells hw (by (repeat first | with_reducible exact xH | apply xT); first | done | fail) ⟨rfl, rfl, rfl, rfl, trivial⟩)⟩ rfl rfl ?_
                  rw [if_pos h4] at e
                  rw [e]
                  exact ⟨g4, A4, (hg1.trans hg2).trans hg4, hI4, rfl, rf0_ok, hw.xQ⟩
              · try with_reducible exact tf_elim h4
                all_goals
                  try replace h4 := of_decide_eq_false h4
                  obtain rfl : b4 = 0 := by omega
                  rw [if_neg h4] at e
                  have hle9 := layO_len D.ops [x] s1 [] (by rw [hly])
                  rw [hly] at hle9
                  simp only [List.length_nil, List.length_cons, Nat.zero_add] at hle9
                  obtain ⟨a8, c8, hv8, _, _, ha8⟩ := (hw.xP (A := OwnSl 70 5 (.slice qa ks.length qc) ks.length (ks.flatMap Kd.cells))).own_shape
                  simp only [Value.slice.injEq] at hv8
                  obtain ⟨rfl, _, rfl⟩ := hv8
                  have hz := hw
                  clear hw
                  obtain ⟨vb, rfl⟩ := ha8 (by omega)
                  have hw := hz
                  obtain ⟨y, hy⟩ : ∃ y, ks[0]? = some y := ⟨_, List.getElem?_eq_getElem (by omega)⟩
                  have hsub := subAt_flat (f := Kd.cells) (sz := 5) (fun _ => rfl) hy
                  have hsubr : SubAt (ks.flatMap Kd.cells) (0 + (0 : Int).toNat * 5 + 1) y.ref.cells := hsub.2
                  refine g_skip (g_seq ?_)
                  refine g_region ?_
                  refine xV rfl rfl rfl (v_move rfl) ?_
                  refine xV rfl rfl rfl (v_indexAddr T.sl_30_70_5 rfl rfl (by omega) (by omega)) ?_
                  refine xV rfl rfl rfl (v_fieldAddr0 T.fld_70_1_1 rfl) ?_
                  refine rl_v rfl rfl rfl (by exact own_cells hw (by (repeat first | with_reducible exact xH | apply xT); first | done | fail) (by assumption)) (v_loadAgg (vs := [_, _, _, _]) T.agg_25_4 rfl rfl) ?_
                  refine rl_k rfl (k_storeWhole hw T.agg_25_4 rfl rfl (by simp [Value.oneCell']) rfl (by (repeat first | with_reducible exact xH | apply xT); first | done | fail) rfl (fun w hw => ?_))
                  refine xV rfl rfl rfl (v_assign rfl) ?_
                  refine xV rfl rfl rfl (v_assign rfl) ?_
                  refine rl_nil (g_le (xK (xK (xS rfl (xS rfl (xS rfl (xS rfl (Fr.le_refl _))))))) ?_)
                  refine g_res3 Try.func30 rfl ⟨_, rfl, holds_agg (vs := [_, _, _, _]) T.agg_25_4 rfl (by exact sat_cells hw (by (repeat first | with_reducible exact xH | apply xT); first | done | fail) ⟨rfl, rfl, rfl, rfl, trivial⟩)⟩ rfl rfl ?_
                  rw [List.getD_eq_getElem?_getD, hy, Option.getD_some] at e
                  rw [e]
                  exact ⟨g4, A4, (hg1.trans hg2).trans hg4, hI4, rfl, (hkok y (List.mem_of_getElem? hy)).2, hw.xQ⟩
end Go.Proofs.Ytmbngahboaljpaa
