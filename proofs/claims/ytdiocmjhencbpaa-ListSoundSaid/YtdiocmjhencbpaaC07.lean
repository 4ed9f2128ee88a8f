/-
  Parts of the search tree: sizes, halves, places, least names.
-/
import Derived.Test.YtdiocmjhencbpaaM07
namespace Go.Proofs.Ytdiocmjhencbpaa
set_option maxRecDepth 8000
set_option linter.unusedSimpArgs false
set_option linter.unusedVariables false
open Go Xe
theorem size_calls {E : Env} {w : World} {L : List As} (lf : Bool) (ea ka : Option Addr) (en ec kn kc : Nat) (hw : Sat E w L) :
    Calls Try.prog 70 #[.agg #[.bool lf, .slice ea en ec, .slice ka kn kc]] w fun e w' => e = .returned (.int .i64 ((if lf = true then en else kn : Nat) : Int)) ∧ Sat E w' L := by
  refine calls_of_g (n := 14) Try.func70 rfl rfl rfl ?_
  change G _ _ _ _ _ [(0, _)] _
  refine g_seq ?_
  refine g_region ?_
  refine rl_k rfl (k_box hw rfl rfl rfl (fun bk0_0 w hw => ?_))
  refine xV rfl rfl rfl (v_assign rfl) ?_
  refine rl_nil (g_le (xK (xK (Fr.le_refl _))) ?_)
  refine g_seq (g_seq ?_)
  refine g_region ?_
  refine xV rfl rfl rfl (v_fieldAddr0 T.fld_117_0_0 rfl) ?_
  refine xV rfl rfl rfl (v_fieldAddr0 T.fld_84_0_0 rfl) ?_
  refine rl_v rfl rfl rfl (by exact sat_cell hw (by (repeat first | with_reducible exact xH | apply xT); first | done | fail) rfl) (v_load T.scal_4 rfl) ?_
  refine rl_nil (g_le (xK (xS rfl (xS rfl (Fr.le_refl _)))) ?_)
  refine g_cond rfl (fun h1 => ?_) (fun h1 => ?_)
  · try with_reducible exact ft_elim h1
    all_goals
      try replace h1 := of_decide_eq_true h1
      refine g_seq ?_
      refine g_region ?_
      refine xV rfl rfl rfl (v_fieldAddr0 T.fld_117_0_0 rfl) ?_
      refine xV rfl rfl rfl (v_fieldAddr0 T.fld_84_1_1 rfl) ?_
      refine rl_v rfl rfl rfl (by exact sat_cell hw (by (repeat first | with_reducible exact xH | apply xT); first | done | fail) rfl) (v_load T.scal_33 rfl) ?_
      refine xV rfl rfl rfl (v_lenSlice T.sl_33_40_2 rfl) ?_
      refine xV rfl rfl rfl (v_assign rfl) ?_
      refine rl_nil (g_le (xK (xS rfl (xS rfl (xS rfl (xS rfl (Fr.le_refl _)))))) ?_)
      refine g_ret1 Try.func70 rfl rfl ?_
      exact ⟨by rw [if_pos h1], hw.xQ⟩
  · try with_reducible exact tf_elim h1
    all_goals
      try replace h1 := of_decide_eq_false h1
      refine g_skip (g_seq ?_)
      refine g_region ?_
      refine xV rfl rfl rfl (v_fieldAddr0 T.fld_117_0_0 rfl) ?_
      refine xV rfl rfl rfl (v_fieldAddr0 T.fld_84_2_2 rfl) ?_
      refine rl_v rfl rfl rfl (by exact sat_cell hw (by (repeat first | with_reducible exact xH | apply xT); first | done | fail) rfl) (v_load T.scal_82 rfl) ?_
      refine xV rfl rfl rfl (v_lenSlice T.sl_82_104_5 rfl) ?_
      refine xV rfl rfl rfl (v_assign rfl) ?_
      refine rl_nil (g_le (xK (xS rfl (xS rfl (xS rfl (xS rfl (Fr.le_refl _)))))) ?_)
      refine g_ret1 Try.func70 rfl rfl ?_
      exact ⟨by rw [if_neg (by simp [h1])], hw.xQ⟩
theorem low_calls {E : Env} {w : World} {L : List As} {g : Hp} {ncs : List Value} {n : Nd} (hn : rdNd g ncs n) (hw : Sat E w (RO g :: L)) :
    Calls Try.prog 57 #[.agg ncs.toArray] w fun e w' => e = .returned (.string (lowN n)) ∧ Sat E w' (RO g :: L) := by
  obtain ⟨q0, q1, q2, rfl, qe, qf, qg⟩ := hn
  simp only [rdBool, List.cons.injEq, and_true] at qe
  subst qe
  obtain ⟨qa1, qn1, qk1, rfl⟩ := rdSl_shape qf
  obtain ⟨qa2, qn2, qk2, rfl⟩ := rdSl_shape qg
  obtain ⟨rfl, hb1, hc1, hm1, g1⟩ := rdSl_get qf
  obtain ⟨rfl, hb2, hc2, hm2, g2⟩ := rdSl_get qg
  simp only [reachBytes] at hb1 hb2
  refine calls_of_g (n := 32) Try.func57 rfl rfl rfl ?_
  change G _ _ _ _ _ [(0, _)] _
  refine g_seq ?_
  refine g_region ?_
  refine rl_k rfl (k_box hw rfl rfl rfl (fun bk0_0 w hw => ?_))
  refine xV rfl rfl rfl (v_assign rfl) ?_
  refine rl_nil (g_le (xK (xK (Fr.le_refl _))) ?_)
  refine g_seq (g_block (g_seq ?_))
  refine g_region ?_
  refine xV rfl rfl rfl (v_fieldAddr0 T.fld_84_0_0 rfl) ?_
  refine rl_v rfl rfl rfl (by exact sat_cell hw (by (repeat first | with_reducible exact xH | apply xT); first | done | fail) rfl) (v_load T.scal_4 rfl) ?_
  refine xV rfl rfl rfl (v_move rfl) ?_
  refine rl_split (s := 6) rfl (fun g1_2 => ?_) (fun g1_2 => ?_)
  · try with_reducible exact ft_elim g1_2
    all_goals
      try replace g1_2 := of_decide_eq_true g1_2
      refine rl_vg (met_on rfl rfl rfl rfl) rfl rfl (S := fun _ => True) trivial (v_fieldAddr0 T.fld_84_1_1 rfl) ?_
      refine rl_vg (met_on rfl rfl rfl rfl) rfl rfl (by exact sat_cell hw (by (repeat first | with_reducible exact xH | apply xT); first | done | fail) rfl) (v_load T.scal_33 rfl) ?_
      refine rl_vg (met_on rfl rfl rfl rfl) rfl rfl (S := fun _ => True) trivial (v_lenSlice T.sl_33_40_2 rfl) ?_
      refine rl_vg (met_on rfl rfl rfl rfl) rfl rfl (S := fun _ => True) trivial (v_gtr rfl rfl) ?_
      refine xV rfl rfl rfl (v_pick_true rfl rfl) ?_
      refine xV rfl rfl rfl (v_assign rfl) ?_
      refine rl_nil (g_le (xK (xS rfl (xS rfl (xS rfl (xS rfl (xS rfl (xS rfl (xS rfl (xS rfl (xS rfl (Fr.le_refl _))))))))))) ?_)
      refine g_cond rfl (fun h1 => ?_) (fun h1 => ?_)
      · try with_reducible exact ft_elim h1
        all_goals
          try replace h1 := of_decide_eq_true h1
          refine g_seq ?_
          have hz := hw
          clear hw
          obtain ⟨b4, o1, e, ecs, rfl, hx, hat1, hl1, hr1⟩ := g1 0 (by omega) (by omega)
          obtain ⟨q0, q1, rfl, ⟨p0, _⟩, p1⟩ := id hr1
          simp only [List.cons.injEq, and_true] at p0
          subst p0
          have hw := hz
          refine g_region ?_
          refine xV rfl rfl rfl (v_fieldAddr0 T.fld_84_1_1 rfl) ?_
          refine rl_v rfl rfl rfl (by exact sat_cell hw (by (repeat first | with_reducible exact xH | apply xT); first | done | fail) rfl) (v_load T.scal_33 rfl) ?_
          refine xV rfl rfl rfl (v_indexAddr T.sl_33_40_2 rfl rfl (by omega) (by omega)) ?_
          refine xV rfl rfl rfl (v_fieldAddr T.fld_40_0_0 rfl) ?_
          refine rl_v rfl rfl rfl (by exact ro_at0 hw (by (repeat first | with_reducible exact xH | apply xT); first | done | fail) (by assumption) rfl) (v_load T.scal_9 rfl) ?_
          refine xV rfl rfl rfl (v_assign rfl) ?_
          refine rl_nil (g_le (xK (xS rfl (xS rfl (xS rfl (xS rfl (xS rfl (Fr.le_refl _))))))) ?_)
          refine g_ret1 Try.func57 rfl rfl ?_
          refine ⟨?_, hw.xQ⟩
          unfold lowN
          rw [if_pos g1_2]
          cases he : n.entries
          · rw [he] at hx; simp at hx
          · rw [he] at hx; simp at hx; rw [hx]
      · try with_reducible exact tf_elim h1
        all_goals
          try replace h1 := of_decide_eq_false h1
          refine g_seq ?_
          refine g_region ?_
          refine xV rfl rfl rfl (v_fieldAddr0 T.fld_84_0_0 rfl) ?_
          refine rl_v rfl rfl rfl (by exact sat_cell hw (by (repeat first | with_reducible exact xH | apply xT); first | done | fail) rfl) (v_load T.scal_4 rfl) ?_
          refine xV rfl rfl rfl (v_not rfl) ?_
          refine xV rfl rfl rfl (v_move rfl) ?_
          refine rl_split (s := 21) rfl (fun g3_3 => ?_) (fun g3_3 => ?_)
          · try with_reducible exact ft_elim g3_3
            all_goals
              try replace g3_3 := of_decide_eq_true g3_3
              refine rl_vg (met_on rfl rfl rfl rfl) rfl rfl (S := fun _ => True) trivial (v_fieldAddr0 T.fld_84_2_2 rfl) ?_
              refine rl_vg (met_on rfl rfl rfl rfl) rfl rfl (by exact sat_cell hw (by (repeat first | with_reducible exact xH | apply xT); first | done | fail) rfl) (v_load T.scal_82 rfl) ?_
              refine rl_vg (met_on rfl rfl rfl rfl) rfl rfl (S := fun _ => True) trivial (v_lenSlice T.sl_82_104_5 rfl) ?_
              refine rl_vg (met_on rfl rfl rfl rfl) rfl rfl (S := fun _ => True) trivial (v_gtr rfl rfl) ?_
              refine xV rfl rfl rfl (v_pick_true rfl rfl) ?_
              refine xV rfl rfl rfl (v_assign rfl) ?_
              refine rl_nil (g_le (xK (xS rfl (xS rfl (xS rfl (xS rfl (xS rfl (xS rfl (xS rfl (xS rfl (xS rfl (xS rfl (Fr.le_refl _)))))))))))) ?_)
              refine g_cond rfl (fun h2 => ?_) (fun h2 => ?_)
              · try with_reducible exact ft_elim h2
                all_goals
                  try replace h2 := of_decide_eq_true h2
                  refine g_seq ?_
                  have hz := hw
                  clear hw
                  obtain ⟨b4, o1, e, ecs, rfl, hx, hat1, hl1, rfl, hr1⟩ := g2 0 (by omega) (by omega)
                  have hw := hz
                  refine g_region ?_
                  refine xV rfl rfl rfl (v_fieldAddr0 T.fld_84_2_2 rfl) ?_
                  refine rl_v rfl rfl rfl (by exact sat_cell hw (by (repeat first | with_reducible exact xH | apply xT); first | done | fail) rfl) (v_load T.scal_82 rfl) ?_
                  refine xV rfl rfl rfl (v_indexAddr T.sl_82_104_5 rfl rfl (by omega) (by omega)) ?_
                  refine xV rfl rfl rfl (v_fieldAddr T.fld_104_0_0 rfl) ?_
                  refine rl_v rfl rfl rfl (by exact ro_at0 hw (by (repeat first | with_reducible exact xH | apply xT); first | done | fail) (by assumption) rfl) (v_load T.scal_9 rfl) ?_
                  refine xV rfl rfl rfl (v_assign rfl) ?_
                  refine rl_nil (g_le (xK (xS rfl (xS rfl (xS rfl (xS rfl (xS rfl (Fr.le_refl _))))))) ?_)
                  refine g_ret1 Try.func57 rfl rfl ?_
                  refine ⟨?_, hw.xQ⟩
                  unfold lowN
                  rw [if_neg (by simpa using g3_3)]
                  cases he : n.kids
                  · rw [he] at hx; simp at hx
                  · rw [he] at hx; simp at hx; rw [hx]
              · try with_reducible exact tf_elim h2
                all_goals
                  try replace h2 := of_decide_eq_false h2
                  refine g_skip (g_inBlock (g_seq ?_))
                  refine g_region ?_
                  refine xV rfl rfl rfl (v_assign rfl) ?_
                  refine rl_nil (g_le (xK (Fr.le_refl _)) ?_)
                  refine g_ret1 Try.func57 rfl rfl ?_
                  refine ⟨?_, hw.xQ⟩
                  unfold lowN
                  cases hl : n.leaf with
                  | true =>
                    have h9 : n.entries = [] := List.eq_nil_of_length_eq_zero (by exfalso; simp_all; done)
                    rw [h9]; rfl
                  | false =>
                    have h9 : n.kids = [] := List.eq_nil_of_length_eq_zero (by exfalso; simp_all; done)
                    rw [h9]; rfl
          · try with_reducible exact tf_elim g3_3
            all_goals
              try replace g3_3 := of_decide_eq_false g3_3
              refine rl_off (met_off rfl rfl rfl rfl rfl) rfl rfl ?_
              refine rl_off (met_off rfl rfl rfl rfl rfl) rfl rfl ?_
              refine rl_off (met_off rfl rfl rfl rfl rfl) rfl rfl ?_
              refine rl_off (met_off rfl rfl rfl rfl rfl) rfl rfl ?_
              refine xV rfl rfl rfl (v_pick_false rfl rfl) ?_
              refine xV rfl rfl rfl (v_assign rfl) ?_
              refine rl_nil (g_le (xK (xS rfl (xS rfl (xS rfl (xS rfl (xS rfl (xS rfl (xS rfl (xS rfl (xS rfl (xS rfl (Fr.le_refl _)))))))))))) ?_)
              refine g_cond_false rfl ?_
              refine g_skip (g_inBlock (g_seq ?_))
              refine g_region ?_
              refine xV rfl rfl rfl (v_assign rfl) ?_
              refine rl_nil (g_le (xK (Fr.le_refl _)) ?_)
              refine g_ret1 Try.func57 rfl rfl ?_
              refine ⟨?_, hw.xQ⟩
              unfold lowN
              cases hl : n.leaf with
              | true =>
                have h9 : n.entries = [] := List.eq_nil_of_length_eq_zero (by omega)
                rw [h9]; rfl
              | false =>
                have h9 : n.kids = [] := List.eq_nil_of_length_eq_zero (by exfalso; simp_all; done)
                rw [h9]; rfl
  · try with_reducible exact tf_elim g1_2
    all_goals
      try replace g1_2 := of_decide_eq_false g1_2
      refine rl_off (met_off rfl rfl rfl rfl rfl) rfl rfl ?_
      refine rl_off (met_off rfl rfl rfl rfl rfl) rfl rfl ?_
      refine rl_off (met_off rfl rfl rfl rfl rfl) rfl rfl ?_
      refine rl_off (met_off rfl rfl rfl rfl rfl) rfl rfl ?_
      refine xV rfl rfl rfl (v_pick_false rfl rfl) ?_
      refine xV rfl rfl rfl (v_assign rfl) ?_
      refine rl_nil (g_le (xK (xS rfl (xS rfl (xS rfl (xS rfl (xS rfl (xS rfl (xS rfl (xS rfl (xS rfl (Fr.le_refl _))))))))))) ?_)
      refine g_cond_false rfl ?_
      refine g_seq ?_
      refine g_region ?_
      refine xV rfl rfl rfl (v_fieldAddr0 T.fld_84_0_0 rfl) ?_
      refine rl_v rfl rfl rfl (by exact sat_cell hw (by (repeat first | with_reducible exact xH | apply xT); first | done | fail) rfl) (v_load T.scal_4 rfl) ?_
      refine xV rfl rfl rfl (v_not rfl) ?_
      refine xV rfl rfl rfl (v_move rfl) ?_
      refine rl_split (s := 21) rfl (fun g3_3 => ?_) (fun g3_3 => ?_)
      · try with_reducible exact ft_elim g3_3
        all_goals
          try replace g3_3 := of_decide_eq_true g3_3
          refine rl_vg (met_on rfl rfl rfl rfl) rfl rfl (S := fun _ => True) trivial (v_fieldAddr0 T.fld_84_2_2 rfl) ?_
          refine rl_vg (met_on rfl rfl rfl rfl) rfl rfl (by exact sat_cell hw (by (repeat first | with_reducible exact xH | apply xT); first | done | fail) rfl) (v_load T.scal_82 rfl) ?_
          refine rl_vg (met_on rfl rfl rfl rfl) rfl rfl (S := fun _ => True) trivial (v_lenSlice T.sl_82_104_5 rfl) ?_
          refine rl_vg (met_on rfl rfl rfl rfl) rfl rfl (S := fun _ => True) trivial (v_gtr rfl rfl) ?_
          refine xV rfl rfl rfl (v_pick_true rfl rfl) ?_
          refine xV rfl rfl rfl (v_assign rfl) ?_
          refine rl_nil (g_le (xK (xS rfl (xS rfl (xS rfl (xS rfl (xS rfl (xS rfl (xS rfl (xS rfl (xS rfl (xS rfl (Fr.le_refl _)))))))))))) ?_)
          refine g_cond rfl (fun h2 => ?_) (fun h2 => ?_)
          · try with_reducible exact ft_elim h2
            all_goals
              try replace h2 := of_decide_eq_true h2
              refine g_seq ?_
              have hz := hw
              clear hw
              obtain ⟨b4, o1, e, ecs, rfl, hx, hat1, hl1, rfl, hr1⟩ := g2 0 (by omega) (by omega)
              have hw := hz
              refine g_region ?_
              refine xV rfl rfl rfl (v_fieldAddr0 T.fld_84_2_2 rfl) ?_
              refine rl_v rfl rfl rfl (by exact sat_cell hw (by (repeat first | with_reducible exact xH | apply xT); first | done | fail) rfl) (v_load T.scal_82 rfl) ?_
              refine xV rfl rfl rfl (v_indexAddr T.sl_82_104_5 rfl rfl (by omega) (by omega)) ?_
              refine xV rfl rfl rfl (v_fieldAddr T.fld_104_0_0 rfl) ?_
              refine rl_v rfl rfl rfl (by exact ro_at0 hw (by (repeat first | with_reducible exact xH | apply xT); first | done | fail) (by assumption) rfl) (v_load T.scal_9 rfl) ?_
              refine xV rfl rfl rfl (v_assign rfl) ?_
              refine rl_nil (g_le (xK (xS rfl (xS rfl (xS rfl (xS rfl (xS rfl (Fr.le_refl _))))))) ?_)
              refine g_ret1 Try.func57 rfl rfl ?_
              refine ⟨?_, hw.xQ⟩
              unfold lowN
              rw [if_neg (by simpa using g3_3)]
              cases he : n.kids
              · rw [he] at hx; simp at hx
              · rw [he] at hx; simp at hx; rw [hx]
          · try with_reducible exact tf_elim h2
            all_goals
              try replace h2 := of_decide_eq_false h2
              refine g_skip (g_inBlock (g_seq ?_))
              refine g_region ?_
              refine xV rfl rfl rfl (v_assign rfl) ?_
              refine rl_nil (g_le (xK (Fr.le_refl _)) ?_)
              refine g_ret1 Try.func57 rfl rfl ?_
              refine ⟨?_, hw.xQ⟩
              unfold lowN
              cases hl : n.leaf with
              | true =>
                have h9 : n.entries = [] := List.eq_nil_of_length_eq_zero (by exfalso; simp_all; done)
                rw [h9]; rfl
              | false =>
                have h9 : n.kids = [] := List.eq_nil_of_length_eq_zero (by omega)
                rw [h9]; rfl
      · try with_reducible exact tf_elim g3_3
        all_goals
          try replace g3_3 := of_decide_eq_false g3_3
          refine rl_off (met_off rfl rfl rfl rfl rfl) rfl rfl ?_
          refine rl_off (met_off rfl rfl rfl rfl rfl) rfl rfl ?_
          refine rl_off (met_off rfl rfl rfl rfl rfl) rfl rfl ?_
          refine rl_off (met_off rfl rfl rfl rfl rfl) rfl rfl ?_
          refine xV rfl rfl rfl (v_pick_false rfl rfl) ?_
          refine xV rfl rfl rfl (v_assign rfl) ?_
          refine rl_nil (g_le (xK (xS rfl (xS rfl (xS rfl (xS rfl (xS rfl (xS rfl (xS rfl (xS rfl (xS rfl (xS rfl (Fr.le_refl _)))))))))))) ?_)
          refine g_cond_false rfl ?_
          refine g_skip (g_inBlock (g_seq ?_))
          refine g_region ?_
          refine xV rfl rfl rfl (v_assign rfl) ?_
          refine rl_nil (g_le (xK (Fr.le_refl _)) ?_)
          refine g_ret1 Try.func57 rfl rfl ?_
          refine ⟨?_, hw.xQ⟩
          unfold lowN
          cases hl : n.leaf with
          | true =>
            have h9 : n.entries = [] := List.eq_nil_of_length_eq_zero (by exfalso; simp_all; done)
            rw [h9]; rfl
          | false =>
            have h9 : n.kids = [] := List.eq_nil_of_length_eq_zero (by exfalso; simp_all; done)
            rw [h9]; rfl
theorem below_calls {E : Env} {w : World} {L : List As} (name : ByteArray) (lf : Bool) (ea ka : Option Addr) (en ec kc : Nat) {ks : List Kd} (h0 : 0 < ks.length) (hb : ks.length ≤ 100000) (hw : Sat E w (OwnSl 104 5 (.slice ka ks.length kc) ks.length (ks.flatMap Kd.cells) :: L)) :
    Calls Try.prog 68 #[.agg #[.bool lf, .slice ea en ec, .slice ka ks.length kc], .string name] w fun e w' => e = .returned (.int .i64 (belowN ks name : Nat)) ∧ Sat E w' (OwnSl 104 5 (.slice ka ks.length kc) ks.length (ks.flatMap Kd.cells) :: L) := by
  obtain ⟨a', c', hv, hnc, hcm, ha⟩ := hw.own_shape
  simp only [Value.slice.injEq] at hv
  obtain ⟨rfl, _, rfl⟩ := hv
  obtain ⟨gb, rfl⟩ := ha (by omega)
  refine calls_of_g (n := 27) Try.func68 rfl rfl rfl ?_
  change G _ _ _ _ _ [(0, _), (1, _)] _
  refine g_seq ?_
  refine g_region ?_
  refine rl_k rfl (k_box hw rfl rfl rfl (fun bk0_0 w hw => ?_))
  refine xV rfl rfl rfl (v_assign rfl) ?_
  refine rl_nil (g_le (xK (xK (Fr.le_refl _))) ?_)
  refine g_seq ?_
  refine g_region ?_
  refine xV rfl rfl rfl (v_fieldAddr0 T.fld_117_0_0 rfl) ?_
  refine xV rfl rfl rfl (v_fieldAddr0 T.fld_84_2_2 rfl) ?_
  refine rl_v rfl rfl rfl (by exact sat_cell hw (by (repeat first | with_reducible exact xH | apply xT); first | done | fail) rfl) (v_load T.scal_82 rfl) ?_
  refine xV rfl rfl rfl (v_lenSlice T.sl_82_104_5 rfl) ?_
  refine xV rfl rfl rfl (v_sub rfl rfl (by omega)) ?_
  refine xV rfl rfl rfl (v_assign rfl) ?_
  refine rl_nil (g_le (xK (xS rfl (xS rfl (xS rfl (xS rfl (xS rfl (Fr.le_refl _))))))) ?_)
  refine g_seq (g_block ?_)
  refine g_loopC (σ := Int) (fun C x => (5, .int .i64 x) :: C) [(1, _), (2, _), (4, _)] (by repeat (first | exact Fr.le_nil _ | refine Fr.le_cons rfl ?_)) (fun z w => 0 ≤ z ∧ z < ks.length ∧ belowN ks name = belowGo ks name z.toNat ∧ Sat E w (pt bk0_0 (.cells [.bool lf, .slice ea en ec, .slice (some ⟨gb, 0, none⟩) ks.length kc].toArray 117 (0, 0)) :: OwnSl 104 5 (.slice (some ⟨gb, 0, none⟩) ks.length kc) ks.length (ks.flatMap Kd.cells) :: L)) (fun z => z.toNat) ?_ ((ks.length : Int) - 1) (by repeat (first | exact Fr.le_nil _ | refine Fr.le_cons rfl ?_)) ⟨by omega, by omega, by unfold belowN; congr 1; omega, hw.xQ⟩
  rintro i w ⟨hi0, hi1, hbe, hw⟩ ih
  refine g_seq (g_seq ?_)
  obtain ⟨y, hx⟩ : ∃ y, ks[i.toNat]? = some y := ⟨_, List.getElem?_eq_getElem (by omega)⟩
  have hsub := subAt_flat (f := Kd.cells) (sz := 5) (fun _ => rfl) hx
  refine g_region ?_
  refine xV rfl rfl rfl (v_move rfl) ?_
  refine xV rfl rfl rfl (v_gtr rfl rfl) ?_
  refine xV rfl rfl rfl (v_move rfl) ?_
  refine rl_split (s := 13) rfl (fun g2_2 => ?_) (fun g2_2 => ?_)
  · try with_reducible exact ft_elim g2_2
    all_goals
      try replace g2_2 := of_decide_eq_true g2_2
      obtain ⟨q, hq⟩ : ∃ q : Nat, i.toNat = q + 1 := ⟨i.toNat - 1, by omega⟩
      have hbs : belowGo ks name i.toNat = if sl name y.low = true then belowGo ks name q else q + 1 := by rw [hq]; simp only [belowGo, List.getD_eq_getElem?_getD]; rw [← hq, hx]; rfl
      refine rl_vg (met_on rfl rfl rfl rfl) rfl rfl (S := fun _ => True) trivial (v_fieldAddr0 T.fld_117_0_0 rfl) ?_
      refine rl_vg (met_on rfl rfl rfl rfl) rfl rfl (S := fun _ => True) trivial (v_fieldAddr0 T.fld_84_2_2 rfl) ?_
      refine rl_vg (met_on rfl rfl rfl rfl) rfl rfl (by exact sat_cell hw (by (repeat first | with_reducible exact xH | apply xT); first | done | fail) rfl) (v_load T.scal_82 rfl) ?_
      refine rl_vg (met_on rfl rfl rfl rfl) rfl rfl (S := fun _ => True) trivial (v_move rfl) ?_
      refine rl_vg (met_on rfl rfl rfl rfl) rfl rfl (S := fun _ => True) trivial (v_indexAddr T.sl_82_104_5 rfl rfl (by omega) (by omega)) ?_
      refine rl_vg (met_on rfl rfl rfl rfl) rfl rfl (S := fun _ => True) trivial (v_fieldAddr T.fld_104_0_0 rfl) ?_
      refine rl_vg (met_on rfl rfl rfl rfl) rfl rfl (by exact own_at0 hw (by (repeat first | with_reducible exact xH | apply xT); first | done | fail) (by assumption) rfl) (v_load T.scal_9 rfl) ?_
      refine rl_vg (met_on rfl rfl rfl rfl) rfl rfl (S := fun _ => True) trivial (v_move rfl) ?_
      refine rl_vg (met_on rfl rfl rfl rfl) rfl rfl (S := fun _ => True) trivial (v_gtrStr rfl rfl) ?_
      refine xV rfl rfl rfl (v_pick_true rfl rfl) ?_
      refine rl_nil (g_le (xK (xK (xK (xK (xK (xK (xK (xK (xK (xK (xK (xK (xK (xK (Fr.le_refl _))))))))))))))) ?_)
      refine g_cond rfl (fun h1 => ?_) (fun h1 => ?_)
      · try with_reducible exact ft_elim h1
        all_goals
          try replace h1 := of_decide_eq_true h1
          refine g_skip (g_block ?_)
          refine g_region ?_
          refine xV rfl rfl rfl (v_move rfl) ?_
          refine xV rfl rfl rfl (v_sub rfl rfl (by omega)) ?_
          refine xV rfl rfl rfl (v_assign rfl) ?_
          refine rl_nil (g_le (xK (xK (xK (Fr.le_refl _)))) ?_)
          refine g_inBlock ?_
          exact g_le (by repeat (first | exact Fr.le_nil _ | refine Fr.le_cons rfl ?_)) (ih (i - 1) w ⟨by omega, by omega, by rw [hbe, hbs, if_pos h1, show (i - 1).toNat = q by omega], hw.xQ⟩ (by omega))
      · try with_reducible exact tf_elim h1
        all_goals
          try replace h1 := of_decide_eq_false h1
          refine g_exit rfl (g_seq ?_)
          refine g_region ?_
          refine xV rfl rfl rfl (v_move rfl) ?_
          refine xV rfl rfl rfl (v_assign rfl) ?_
          refine rl_nil (g_le (xK (xS rfl (Fr.le_refl _))) ?_)
          refine g_ret1 Try.func68 rfl rfl ?_
          refine ⟨?_, hw.xQ⟩
          rw [hbe, hbs, if_neg (by simp [h1]), ← hq]
          rw [show ((i.toNat : Nat) : Int) = i by omega]
  · try with_reducible exact tf_elim g2_2
    all_goals
      try replace g2_2 := of_decide_eq_false g2_2
      refine rl_off (met_off rfl rfl rfl rfl rfl) rfl rfl ?_
      refine rl_off (met_off rfl rfl rfl rfl rfl) rfl rfl ?_
      refine rl_off (met_off rfl rfl rfl rfl rfl) rfl rfl ?_
      refine rl_off (met_off rfl rfl rfl rfl rfl) rfl rfl ?_
      refine rl_off (met_off rfl rfl rfl rfl rfl) rfl rfl ?_
      refine rl_off (met_off rfl rfl rfl rfl rfl) rfl rfl ?_
      refine rl_off (met_off rfl rfl rfl rfl rfl) rfl rfl ?_
      refine rl_off (met_off rfl rfl rfl rfl rfl) rfl rfl ?_
      refine rl_off (met_off rfl rfl rfl rfl rfl) rfl rfl ?_
      refine xV rfl rfl rfl (v_pick_false rfl rfl) ?_
      refine rl_nil (g_le (xK (xK (xK (xK (xK (xK (xK (xK (xK (xK (xK (xK (xK (xK (Fr.le_refl _))))))))))))))) ?_)
      refine g_cond_false rfl ?_
      refine g_exit rfl (g_seq ?_)
      refine g_region ?_
      refine xV rfl rfl rfl (v_move rfl) ?_
      refine xV rfl rfl rfl (v_assign rfl) ?_
      refine rl_nil (g_le (xK (xS rfl (Fr.le_refl _))) ?_)
      refine g_ret1 Try.func68 rfl rfl ?_
      refine ⟨?_, hw.xQ⟩
      rw [hbe, show i.toNat = 0 by omega, show i = 0 by omega]
      rfl
theorem searchC_calls {E : Env} {w : World} {L : List As} (name : ByteArray) {g : Hp} {ecs : List Value} {x : En} (hx : rdEn g ecs x) (hw : Sat E w L) :
    Calls Try.prog 75 #[.agg ecs.toArray, .string name] w fun e w' => e = .returned (.int .i64 (if sl x.name name = true then -1 else if sl name x.name = true then 1 else 0)) ∧ Sat E w' L := by
  obtain ⟨q0, q1, rfl, ⟨p0, _⟩, p1⟩ := id hx
  simp only [List.cons.injEq, and_true] at p0
  subst p0
  obtain ⟨qa, qn, qc, rfl⟩ := rdSl_shape p1
  refine calls_of_g (n := 15) Try.func75 rfl rfl rfl ?_
  change G _ _ _ _ _ [(0, _), (1, _)] _
  refine g_seq ?_
  refine g_region ?_
  refine rl_k rfl (k_box hw rfl rfl rfl (fun bk0_0 w hw => ?_))
  refine xV rfl rfl rfl (v_assign rfl) ?_
  refine rl_nil (g_le (xK (xK (Fr.le_refl _))) ?_)
  refine g_seq (g_block (g_seq ?_))
  refine g_region ?_
  refine xV rfl rfl rfl (v_fieldAddr0 T.fld_40_0_0 rfl) ?_
  refine rl_v rfl rfl rfl (by exact sat_cell hw (by (repeat first | with_reducible exact xH | apply xT); first | done | fail) rfl) (v_load T.scal_9 rfl) ?_
  refine xV rfl rfl rfl (v_move rfl) ?_
  refine xV rfl rfl rfl (v_lssStr rfl rfl) ?_
  refine xV rfl rfl rfl (v_assign rfl) ?_
  refine rl_nil (g_le (xK (xS rfl (xS rfl (xS rfl (xS rfl (Fr.le_refl _)))))) ?_)
  refine g_cond rfl (fun h1 => ?_) (fun h1 => ?_)
  · try with_reducible exact ft_elim h1
    all_goals
      try replace h1 := of_decide_eq_true h1
      refine g_seq ?_
      refine g_region ?_
      refine xV rfl rfl rfl (v_assign rfl) ?_
      refine rl_nil (g_le (xK (Fr.le_refl _)) ?_)
      refine g_ret1 Try.func75 rfl rfl ?_
      exact ⟨by rw [if_pos h1], hw.xQ⟩
  · try with_reducible exact tf_elim h1
    all_goals
      try replace h1 := of_decide_eq_false h1
      refine g_seq ?_
      refine g_region ?_
      refine xV rfl rfl rfl (v_fieldAddr0 T.fld_40_0_0 rfl) ?_
      refine rl_v rfl rfl rfl (by exact sat_cell hw (by (repeat first | with_reducible exact xH | apply xT); first | done | fail) rfl) (v_load T.scal_9 rfl) ?_
      refine xV rfl rfl rfl (v_move rfl) ?_
      refine xV rfl rfl rfl (v_gtrStr rfl rfl) ?_
      refine xV rfl rfl rfl (v_assign rfl) ?_
      refine rl_nil (g_le (xK (xS rfl (xS rfl (xS rfl (xS rfl (Fr.le_refl _)))))) ?_)
      refine g_cond rfl (fun h2 => ?_) (fun h2 => ?_)
      · try with_reducible exact ft_elim h2
        all_goals
          try replace h2 := of_decide_eq_true h2
          refine g_seq ?_
          refine g_region ?_
          refine xV rfl rfl rfl (v_assign rfl) ?_
          refine rl_nil (g_le (xK (Fr.le_refl _)) ?_)
          refine g_ret1 Try.func75 rfl rfl ?_
          exact ⟨by rw [if_neg (by simp [h1]), if_pos h2], hw.xQ⟩
      · try with_reducible exact tf_elim h2
        all_goals
          try replace h2 := of_decide_eq_false h2
          refine g_skip (g_inBlock (g_seq ?_))
          refine g_region ?_
          refine xV rfl rfl rfl (v_assign rfl) ?_
          refine rl_nil (g_le (xK (Fr.le_refl _)) ?_)
          refine g_ret1 Try.func75 rfl rfl ?_
          exact ⟨by rw [if_neg (by simp [h1]), if_neg (by simp [h2])], hw.xQ⟩
theorem en_told {g : Hp} {ecs : List Value} {x : En} (h : rdEn g ecs x) : ∃ a n c, ecs = [.string x.name, .slice a n c] ∧ rdEn g [.string x.name, .slice a n c] x := by
  have h0 := h
  obtain ⟨q0, q1, rfl, ⟨p0, _⟩, p1⟩ := h
  simp only [List.cons.injEq, and_true] at p0
  subst p0
  obtain ⟨a, n, c, rfl⟩ := rdSl_shape p1
  exact ⟨a, n, c, rfl, h0⟩
/-- A secret of a row: its cells. -/
theorem en_cells {g : Hp} {cells : List Value} {l : List En} {x : En} {i : Nat} (h : Els rdEn 2 g cells l) (hx : l[i]? = some x) :
    ∃ a n c, SubAt cells (0 + i * 2) [.string x.name, .slice a n c] ∧ rdEn g [.string x.name, .slice a n c] x ∧ 0 + i * 2 + 2 ≤ cells.length := by
  obtain ⟨h1, h2⟩ := h.at hx
  obtain ⟨a, n, c, hc, hr⟩ := en_told h1
  exact ⟨a, n, c, subAt_of hc, hr, by omega⟩
theorem bsGo_lt {es : List En} {name : ByteArray} {i j : Nat} (h : i < j) : bsGo es name i j = if sl (es.getD ((i + j) / 2) en0).name name = true then bsGo es name ((i + j) / 2 + 1) j else bsGo es name i ((i + j) / 2) := by
  rw [bsGo]; exact dif_pos h
theorem bsGo_ge {es : List En} {name : ByteArray} {i j : Nat} (h : ¬ i < j) : bsGo es name i j = i := by
  rw [bsGo]; exact dif_neg h
theorem cmp0 (a b : ByteArray) : (if sl a b = true then (-1 : Int) else if sl b a = true then 1 else 0) = 0 ↔ a = b := by
  constructor
  · intro h
    split at h
    · omega
    · split at h
      · omega
      · rename_i h1 h2
        exact sl_total (by simpa using h1) (by simpa using h2)
  · rintro rfl
    rw [if_neg (by simp [sl_irrefl]), if_neg (by simp [sl_irrefl])]
set_option maxHeartbeats 1000000 in
theorem bsearch_calls {E : Env} {w : World} {L : List As} {g : Hp} {a : Option Addr} {n c : Nat} {cells : List Value} {es : List En} (name : ByteArray) (hels : Els rdEn 2 g cells es) (hn : n = es.length) (hb : n ≤ 100000)
    (hw : Sat E w (OwnSl 40 2 (.slice a n c) n cells :: RO g :: L)) :
    Calls Try.prog 74 #[.slice a n c, .string name, .func (.func 75) #[] #[]] w fun e w' => e = .returned (.tuple #[.int .i64 (searchI es name : Nat), .bool (searchB es name)]) ∧
      Sat E w' (OwnSl 40 2 (.slice a n c) n cells :: RO g :: L) := by
  obtain ⟨a', c', hv, hnc, hcm, ha⟩ := hw.own_shape
  simp only [Value.slice.injEq] at hv
  obtain ⟨rfl, _, rfl⟩ := hv
  refine calls_of_g (n := 49) Try.func74 rfl rfl rfl ?_
  change G _ _ _ _ _ [(0, _), (1, _), (2, _)] _
  refine g_seq ?_
  refine g_region ?_
  refine xV rfl rfl rfl (v_assign rfl) ?_
  refine xV rfl rfl rfl (v_assign rfl) ?_
  refine rl_nil (g_le (xK (xK (Fr.le_refl _))) ?_)
  refine g_seq ?_
  refine g_region ?_
  refine xV rfl rfl rfl (v_move rfl) ?_
  refine xV rfl rfl rfl (v_lenSlice T.sl_33_40_2 rfl) ?_
  refine xV rfl rfl rfl (v_assign rfl) ?_
  refine rl_nil (g_le (xK (xS rfl (xS rfl (Fr.le_refl _)))) ?_)
  refine g_seq ?_
  refine g_region ?_
  refine xV rfl rfl rfl (v_move rfl) ?_
  refine xV rfl rfl rfl (v_assign rfl) ?_
  refine xV rfl rfl rfl (v_assign rfl) ?_
  refine rl_nil (g_le (xK (xK (xS rfl (Fr.le_refl _)))) ?_)
  refine g_seq (g_block ?_)
  refine g_loopC (σ := Int × Int) (fun C x => (9, .int .i64 x.1) :: (10, .int .i64 x.2) :: C) [(0, _), (1, _), (2, _), (6, _), (7, _), (8, _)] (by repeat (first | exact Fr.le_nil _ | refine Fr.le_cons rfl ?_)) (fun z w => 0 ≤ z.1 ∧ z.1 ≤ z.2 ∧ z.2 ≤ n ∧ bsGo es name z.1.toNat z.2.toNat = searchI es name ∧ Sat E w (OwnSl 40 2 (.slice a n c) n cells :: RO g :: L)) (fun z => (z.2 - z.1).toNat) ?_ (0, n) (by repeat (first | exact Fr.le_nil _ | refine Fr.le_cons rfl ?_)) ⟨by simp, by simp, by simp, by unfold searchI; rw [hn]; rfl, hw⟩
  rintro ⟨i, j⟩ w ⟨hi0, hij, hjn, hbs, hw⟩ ih
  dsimp only at hi0 hij hjn hbs hw ⊢
  refine g_seq (g_seq ?_)
  refine g_region ?_
  refine xV rfl rfl rfl (v_move rfl) ?_
  refine xV rfl rfl rfl (v_move rfl) ?_
  refine xV rfl rfl rfl (v_lss rfl rfl) ?_
  refine rl_nil (g_le (xK (xK (xK (Fr.le_refl _)))) ?_)
  refine g_cond rfl (fun h1 => ?_) (fun h1 => ?_)
  · try with_reducible exact ft_elim h1
    all_goals
      try replace h1 := of_decide_eq_true h1
      refine g_skip (g_block (g_seq ?_))
      refine g_region ?_
      refine xV rfl rfl rfl (v_move rfl) ?_
      refine xV rfl rfl rfl (v_move rfl) ?_
      refine xV rfl rfl rfl (v_add rfl rfl (by omega)) ?_
      refine xV rfl rfl rfl (v_convU T.int_96_u64 T.int_3_i64 rfl (by omega) (by omega)) ?_
      refine xV rfl rfl rfl (v_shrU rfl rfl (by omega) (by omega)) ?_
      rw [show (i + j) / 2 ^ (1 : Int).toNat = (i + j) / 2 from rfl]
      refine xV rfl rfl rfl (v_convS T.int_3_i64 T.int_96_u64 rfl (by omega) (by omega)) ?_
      refine xV rfl rfl rfl (v_assign rfl) ?_
      refine rl_nil (g_le (xK (xK (xK (xK (xK (xK (xK (Fr.le_refl _)))))))) ?_)
      refine g_seq ?_
      have hz := hw
      clear hw
      obtain ⟨gb, rfl⟩ := ha (by omega)
      obtain ⟨y, hx⟩ : ∃ y, es[((i + j) / 2).toNat]? = some y := ⟨_, List.getElem?_eq_getElem (by omega)⟩
      obtain ⟨ya, yn, yc, hsub, hrd, hle⟩ := en_cells hels hx
      have hw := hz
      have hmid : (i.toNat + j.toNat) / 2 = ((i + j) / 2).toNat := by omega
      rw [bsGo_lt (by omega), hmid, List.getD_eq_getElem?_getD, hx, Option.getD_some] at hbs
      refine g_region ?_
      refine xV rfl rfl rfl (v_move rfl) ?_
      refine xV rfl rfl rfl (v_move rfl) ?_
      refine xV rfl rfl rfl (v_move rfl) ?_
      refine xV rfl rfl rfl (v_indexAddr T.sl_33_40_2 rfl rfl (by omega) (by omega)) ?_
      refine rl_v rfl rfl rfl (by exact own_cells hw (by (repeat first | with_reducible exact xH | apply xT); first | done | fail) (by assumption)) (v_loadAgg (vs := [_, _]) T.agg_40_2 rfl rfl) ?_
      refine xV rfl rfl rfl (v_move rfl) ?_
      refine rl_k rfl (k_callv rfl rfl rfl ?_)
      refine CallsV.mk Try.func75 rfl rfl rfl (Calls.mono (searchC_calls name hrd hw) ?_)
      rintro _ w ⟨rfl, hw⟩
      refine ⟨_, rfl, ?_⟩
      refine xV rfl rfl rfl (v_lss rfl rfl) ?_
      refine rl_nil (g_le (xK (xK (xK (xK (xK (xK (xK (xK (Fr.le_refl _))))))))) ?_)
      refine g_cond rfl (fun h2 => ?_) (fun h2 => ?_)
      · try with_reducible exact ft_elim h2
        all_goals
          try replace h2 := of_decide_eq_true h2
          have hlt : sl y.name name = true := by (cases h9 : sl y.name name with | true => rfl | false => (rw [if_neg (by simp [h9])] at h2; split at h2 <;> omega))
          rw [if_pos hlt] at hbs
          refine g_region ?_
          refine xV rfl rfl rfl (v_move rfl) ?_
          refine xV rfl rfl rfl (v_add rfl rfl (by omega)) ?_
          refine xV rfl rfl rfl (v_assign rfl) ?_
          refine rl_nil (g_le (xK (xK (xK (Fr.le_refl _)))) ?_)
          refine g_inBlock ?_
          exact g_le (by repeat (first | exact Fr.le_nil _ | refine Fr.le_cons rfl ?_)) (ih ((i + j) / 2 + 1, j) w ⟨by simp only; omega, by simp only; omega, by simp only; omega, by simp only; rw [show ((i + j) / 2 + 1).toNat = ((i + j) / 2).toNat + 1 by omega]; exact hbs, hw⟩ (by simp only; omega))
      · try with_reducible exact tf_elim h2
        all_goals
          try replace h2 := of_decide_eq_false h2
          have hlt : ¬ sl y.name name = true := by intro h9; rw [if_pos h9] at h2; omega
          rw [if_neg hlt] at hbs
          refine g_region ?_
          refine xV rfl rfl rfl (v_move rfl) ?_
          refine xV rfl rfl rfl (v_assign rfl) ?_
          refine rl_nil (g_le (xK (xK (Fr.le_refl _))) ?_)
          refine g_inBlock ?_
          exact g_le (by repeat (first | exact Fr.le_nil _ | refine Fr.le_cons rfl ?_)) (ih (i, (i + j) / 2) w ⟨by simp only; omega, by simp only; omega, by simp only; omega, hbs, hw⟩ (by simp only; omega))
  · try with_reducible exact tf_elim h1
    all_goals
      try replace h1 := of_decide_eq_false h1
      refine g_exit rfl (g_seq ?_)
      have hij2 : i = j := by omega
      rw [bsGo_ge (by omega)] at hbs
      refine g_region ?_
      refine xV rfl rfl rfl (v_move rfl) ?_
      refine xV rfl rfl rfl (v_move rfl) ?_
      refine xV rfl rfl rfl (v_move rfl) ?_
      refine xV rfl rfl rfl (v_lss rfl rfl) ?_
      refine xV rfl rfl rfl (v_move rfl) ?_
      refine rl_split (s := 39) rfl (fun g8_4 => ?_) (fun g8_4 => ?_)
      · try with_reducible exact ft_elim g8_4
        all_goals
          try replace g8_4 := of_decide_eq_true g8_4
          have hz := hw
          clear hw
          obtain ⟨gb, rfl⟩ := ha (by omega)
          obtain ⟨y, hx⟩ : ∃ y, es[i.toNat]? = some y := ⟨_, List.getElem?_eq_getElem (by omega)⟩
          obtain ⟨ya, yn, yc, hsub, hrd, hle⟩ := en_cells hels hx
          have hw := hz
          refine rl_vg (met_on rfl rfl rfl rfl) rfl rfl (S := fun _ => True) trivial (v_move rfl) ?_
          refine rl_vg (met_on rfl rfl rfl rfl) rfl rfl (S := fun _ => True) trivial (v_move rfl) ?_
          refine rl_vg (met_on rfl rfl rfl rfl) rfl rfl (S := fun _ => True) trivial (v_move rfl) ?_
          refine rl_vg (met_on rfl rfl rfl rfl) rfl rfl (S := fun _ => True) trivial (v_indexAddr T.sl_33_40_2 rfl rfl (by omega) (by omega)) ?_
          refine rl_vg (met_on rfl rfl rfl rfl) rfl rfl (by exact own_cells hw (by (repeat first | with_reducible exact xH | apply xT); first | done | fail) (by assumption)) (v_loadAgg (vs := [_, _]) T.agg_40_2 rfl rfl) ?_
          refine rl_vg (met_on rfl rfl rfl rfl) rfl rfl (S := fun _ => True) trivial (v_move rfl) ?_
          refine rl_kg (met_on rfl rfl rfl rfl) (k_callv rfl rfl rfl ?_)
          refine CallsV.mk Try.func75 rfl rfl rfl (Calls.mono (searchC_calls name hrd hw) ?_)
          rintro _ w ⟨rfl, hw⟩
          refine ⟨_, rfl, ?_⟩
          refine rl_vg (met_on rfl rfl rfl rfl) rfl rfl (S := fun _ => True) trivial (v_eql rfl rfl) ?_
          refine xV rfl rfl rfl (v_pick_true rfl rfl) ?_
          refine xV rfl rfl rfl (v_assign rfl) ?_
          refine xV rfl rfl rfl (v_assign rfl) ?_
          refine rl_nil (g_le (xK (xK (xS rfl (xS rfl (xS rfl (xS rfl (xS rfl (xS rfl (xS rfl (xS rfl (xS rfl (xS rfl (xS rfl (xS rfl (xS rfl (xS rfl (xS rfl (Fr.le_refl _)))))))))))))))))) ?_)
          refine g_ret2 Try.func74 rfl rfl rfl ?_
          refine ⟨?_, hw⟩
          unfold searchB
          rw [← hbs, List.getD_eq_getElem?_getD, hx, Option.getD_some, decide_eq_true (show i.toNat < es.length by omega), Bool.true_and, show ((i.toNat : Nat) : Int) = i by omega, decide_eq_decide.2 (cmp0 y.name name)]
      · try with_reducible exact tf_elim g8_4
        all_goals
          try replace g8_4 := of_decide_eq_false g8_4
          refine rl_off (met_off rfl rfl rfl rfl rfl) rfl rfl ?_
          refine rl_off (met_off rfl rfl rfl rfl rfl) rfl rfl ?_
          refine rl_off (met_off rfl rfl rfl rfl rfl) rfl rfl ?_
          refine rl_off (met_off rfl rfl rfl rfl rfl) rfl rfl ?_
          refine rl_off (met_off rfl rfl rfl rfl rfl) rfl rfl ?_
          refine rl_off (met_off rfl rfl rfl rfl rfl) rfl rfl ?_
          refine rl_off (met_off rfl rfl rfl rfl rfl) rfl rfl ?_
          refine rl_off (met_off rfl rfl rfl rfl rfl) rfl rfl ?_
          refine xV rfl rfl rfl (v_pick_false rfl rfl) ?_
          refine xV rfl rfl rfl (v_assign rfl) ?_
          refine xV rfl rfl rfl (v_assign rfl) ?_
          refine rl_nil (g_le (xK (xK (xS rfl (xS rfl (xS rfl (xS rfl (xS rfl (xS rfl (xS rfl (xS rfl (xS rfl (xS rfl (xS rfl (xS rfl (xS rfl (xS rfl (xS rfl (Fr.le_refl _)))))))))))))))))) ?_)
          refine g_ret2 Try.func74 rfl rfl rfl ?_
          refine ⟨?_, hw⟩
          unfold searchB
          rw [← hbs, decide_eq_false (show ¬ i.toNat < es.length by omega), Bool.false_and, show ((i.toNat : Nat) : Int) = i by omega]
theorem search_calls {E : Env} {w : World} {L : List As} {g : Hp} {a ka : Option Addr} {n c kn kc : Nat} {cells : List Value} {es : List En} (lf : Bool) (name : ByteArray) (hels : Els rdEn 2 g cells es) (hn : n = es.length) (hb : n ≤ 100000)
    (hw : Sat E w (OwnSl 40 2 (.slice a n c) n cells :: RO g :: L)) :
    Calls Try.prog 66 #[.agg #[.bool lf, .slice a n c, .slice ka kn kc], .string name] w fun e w' => e = .returned (.tuple #[.int .i64 (searchI es name : Nat), .bool (searchB es name)]) ∧
      Sat E w' (OwnSl 40 2 (.slice a n c) n cells :: RO g :: L) := by
  refine calls_of_g (n := 13) Try.func66 rfl rfl rfl ?_
  change G _ _ _ _ _ [(0, _), (1, _)] _
  refine g_seq ?_
  refine g_region ?_
  refine rl_k rfl (k_box hw rfl rfl rfl (fun bk0_0 w hw => ?_))
  refine xV rfl rfl rfl (v_assign rfl) ?_
  refine xV rfl rfl rfl (v_assign rfl) ?_
  refine rl_nil (g_le (xK (xK (xK (Fr.le_refl _)))) ?_)
  refine g_seq ?_
  refine g_region ?_
  refine xV rfl rfl rfl (v_fieldAddr0 T.fld_117_0_0 rfl) ?_
  refine xV rfl rfl rfl (v_fieldAddr0 T.fld_84_1_1 rfl) ?_
  refine rl_v rfl rfl rfl (by exact sat_cell hw (by (repeat first | with_reducible exact xH | apply xT); first | done | fail) rfl) (v_load T.scal_33 rfl) ?_
  refine xV rfl rfl rfl (v_move rfl) ?_
  refine rl_k rfl (k_callf Try.func74 rfl rfl rfl rfl ?_)
  refine Calls.mono (bsearch_calls name hels hn hb (hw.xQ)) ?_
  rintro _ w ⟨rfl, hw⟩
  refine ⟨_, rfl, ?_⟩
  refine xV rfl rfl rfl (v_extract rfl rfl) ?_
  refine xV rfl rfl rfl (v_extract rfl rfl) ?_
  refine xV rfl rfl rfl (v_assign rfl) ?_
  refine xV rfl rfl rfl (v_assign rfl) ?_
  refine rl_nil (g_le (xK (xK (xS rfl (xS rfl (xS rfl (xS rfl (xS rfl (xS rfl (xS rfl (Fr.le_refl _)))))))))) ?_)
  refine g_ret2 Try.func66 rfl rfl rfl ?_
  exact ⟨rfl, hw.xQ⟩
end Go.Proofs.Ytdiocmjhencbpaa
