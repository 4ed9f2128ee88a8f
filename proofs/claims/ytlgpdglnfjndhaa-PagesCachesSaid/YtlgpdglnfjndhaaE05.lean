/-
  Whether a secret and a node may be (layers 5 and 6).
-/
import Derived.Test.YtlgpdglnfjndhaaQ04b
import Derived.Test.YtlgpdglnfjndhaaN06f
import Derived.Test.YtlgpdglnfjndhaaX18
namespace Go.Proofs.Ytlgpdglnfjndhaa
set_option maxRecDepth 8000
set_option linter.unusedSimpArgs false
set_option linter.unusedVariables false
open Go Xe
theorem right_iff (q : Qt) : (q.right ≠ 0) ↔ ¬ q.ok := by unfold Qt.right; split <;> simp_all
/-- What is wrong with versions behind one of a number. -/
def verBad (q : Qt) : Int → List Vn → Int
  | _, [] => 0
  | last, v :: vs => if v.no ≤ last ∨ 1073741824 < v.no then 50 else if q.va < v.value.size ∨ q.no < v.note.size then 5 else verBad q v.no vs
def namedE (q : Qt) (e : En) : Int := if ¬ q.ok then 40 else if e.name = ByteArray.empty then 4 else if q.nm < e.name.size then 5 else if q.ve < e.versions.length then 50 else verBad q 0 e.versions
def rightE (q : Qt) (e : En) : Int := if namedE q e = 0 ∧ e.versions.length = 0 then 50 else namedE q e
theorem texts_calls {E : Env} {w : World} {L : List As} (q : Qt) (hq : q.ok) (a b : ByteArray) (ha : a.size ≤ reachBytes) (hb : b.size ≤ reachBytes) (hw : Sat E w L) :
    Calls Try.prog 97 #[q.v, .string a, .string b] w fun e w' => e = .returned (.int .i64 (if q.va < a.size ∨ q.no < b.size then 5 else 0)) ∧ Sat E w' L := by
  obtain ⟨_, _, hq3, hq4, _⟩ := id hq
  refine calls_of_g (n := 19) Try.func97 rfl rfl rfl ?_
  change G _ _ _ _ _ [(0, _), (1, _), (2, _)] _
  refine g_seq ?_
  refine g_region ?_
  refine rl_k rfl (k_box hw rfl rfl rfl (fun bk0_0 w hw => ?_))
  refine xV rfl rfl rfl (v_assign rfl) ?_
  refine rl_nil (g_le (xK (xK (Fr.le_refl _))) ?_)
  refine g_seq (g_seq ?_)
  refine g_region ?_
  refine xV rfl rfl rfl (v_move rfl) ?_
  refine xV rfl rfl rfl (v_lenStr T.str_9 rfl) ?_
  refine xV rfl rfl rfl (v_fieldAddr0 T.fld_23_2_2 rfl) ?_
  refine rl_v rfl rfl rfl (by exact sat_cell hw (by (repeat first | with_reducible exact xH | apply xT); first | done | fail) rfl) (v_load T.scal_3 rfl) ?_
  refine xV rfl rfl rfl (v_gtr rfl rfl) ?_
  refine xV rfl rfl rfl (v_move rfl) ?_
  refine rl_split (s := 12) rfl (fun g1_5 => ?_) (fun g1_5 => ?_)
  · try with_reducible exact ft_elim g1_5
    all_goals
      try replace g1_5 := of_decide_eq_true g1_5
      refine rl_off (met_off rfl rfl rfl rfl rfl) rfl rfl ?_
      refine rl_off (met_off rfl rfl rfl rfl rfl) rfl rfl ?_
      refine rl_off (met_off rfl rfl rfl rfl rfl) rfl rfl ?_
      refine rl_off (met_off rfl rfl rfl rfl rfl) rfl rfl ?_
      refine rl_off (met_off rfl rfl rfl rfl rfl) rfl rfl ?_
      refine xV rfl rfl rfl (v_pick_true rfl rfl) ?_
      refine rl_nil (g_le (xK (xS rfl (xS rfl (xS rfl (xS rfl (xS rfl (xS rfl (xS rfl (xS rfl (xS rfl (xS rfl (xS rfl (xS rfl (Fr.le_refl _)))))))))))))) ?_)
      refine g_cond_true rfl ?_
      refine g_seq ?_
      refine g_region ?_
      refine xV rfl rfl rfl (v_assign rfl) ?_
      refine rl_nil (g_le (xK (Fr.le_refl _)) ?_)
      refine g_ret1 Try.func97 rfl rfl ?_
      rw [if_pos (by omega)]
      exact ⟨rfl, hw.xQ⟩
  · try with_reducible exact tf_elim g1_5
    all_goals
      try replace g1_5 := of_decide_eq_false g1_5
      refine rl_vg (met_on rfl rfl rfl rfl) rfl rfl (S := fun _ => True) trivial (v_move rfl) ?_
      refine rl_vg (met_on rfl rfl rfl rfl) rfl rfl (S := fun _ => True) trivial (v_lenStr T.str_9 rfl) ?_
      refine rl_vg (met_on rfl rfl rfl rfl) rfl rfl (S := fun _ => True) trivial (v_fieldAddr0 T.fld_23_3_3 rfl) ?_
      refine rl_vg (met_on rfl rfl rfl rfl) rfl rfl (by exact sat_cell hw (by (repeat first | with_reducible exact xH | apply xT); first | done | fail) rfl) (v_load T.scal_3 rfl) ?_
      refine rl_vg (met_on rfl rfl rfl rfl) rfl rfl (S := fun _ => True) trivial (v_gtr rfl rfl) ?_
      refine xV rfl rfl rfl (v_pick_false rfl rfl) ?_
      refine rl_nil (g_le (xK (xS rfl (xS rfl (xS rfl (xS rfl (xS rfl (xS rfl (xS rfl (xS rfl (xS rfl (xS rfl (xS rfl (xS rfl (Fr.le_refl _)))))))))))))) ?_)
      refine g_cond rfl (fun h1 => ?_) (fun h1 => ?_)
      · try with_reducible exact ft_elim h1
        all_goals
          try replace h1 := of_decide_eq_true h1
          refine g_seq ?_
          refine g_region ?_
          refine xV rfl rfl rfl (v_assign rfl) ?_
          refine rl_nil (g_le (xK (Fr.le_refl _)) ?_)
          refine g_ret1 Try.func97 rfl rfl ?_
          rw [if_pos (by omega)]
          exact ⟨rfl, hw.xQ⟩
      · try with_reducible exact tf_elim h1
        all_goals
          try replace h1 := of_decide_eq_false h1
          refine g_skip (g_seq ?_)
          refine g_region ?_
          refine xV rfl rfl rfl (v_assign rfl) ?_
          refine rl_nil (g_le (xK (Fr.le_refl _)) ?_)
          refine g_ret1 Try.func97 rfl rfl ?_
          rw [if_neg (by omega)]
          exact ⟨rfl, hw.xQ⟩
set_option maxHeartbeats 1000000 in
theorem named_calls {E : Env} {w : World} {L : List As} {g : Hp} {ecs : List Value} {e : En} (q : Qt) (he : rdEn g ecs e) (hw : Sat E w (RO g :: L)) :
    Calls Try.prog 86 #[q.v, .agg ecs.toArray] w fun v w' => v = .returned (.int .i64 (namedE q e)) ∧ Sat E w' (RO g :: L) := by
  obtain ⟨va, vn, vc, rfl, he⟩ := en_told he
  obtain ⟨q0, q1, hqq, ⟨p0, hns⟩, p1⟩ := id he
  simp only [List.cons.injEq, and_true] at hqq
  obtain ⟨rfl, rfl⟩ := hqq
  simp only [reachBytes] at hns
  obtain ⟨rfl, hvb, _, _, gv⟩ := rdSl_get p1
  simp only [reachBytes] at hvb
  unfold namedE
  have hrq := right_iff q
  refine calls_of_g (n := 59) Try.func86 rfl rfl rfl ?_
  change G _ _ _ _ _ [(0, _), (1, _)] _
  refine g_seq ?_
  refine g_region ?_
  refine rl_k rfl (k_box hw rfl rfl rfl (fun bk0_0 w hw => ?_))
  refine rl_k rfl (k_box hw rfl rfl rfl (fun bk0_1 w hw => ?_))
  refine xV rfl rfl rfl (v_assign rfl) ?_
  refine rl_nil (g_le (xK (xK (xK (Fr.le_refl _)))) ?_)
  refine g_seq (g_block (g_seq ?_))
  refine g_region ?_
  refine rl_v rfl rfl rfl (by exact sat_cells hw (by (repeat first | with_reducible exact xH | apply xT); first | done | fail) ⟨rfl, rfl, rfl, rfl, rfl, rfl, rfl, trivial⟩) (v_loadAgg (vs := [_, _, _, _, _, _, _]) T.agg_23_7 rfl rfl) ?_
  refine rl_k rfl (k_callf Try.func42 rfl rfl rfl rfl ?_)
  refine Calls.mono (right_calls q (hw.xQ)) ?_
  rintro _ w ⟨rfl, hw⟩
  refine ⟨_, rfl, ?_⟩
  refine xV rfl rfl rfl (v_neq rfl rfl) ?_
  refine xV rfl rfl rfl (v_assign rfl) ?_
  refine rl_nil (g_le (xK (xS rfl (xS rfl (xS rfl (Fr.le_refl _))))) ?_)
  refine g_cond rfl (fun h1 => ?_) (fun h1 => ?_)
  · try with_reducible exact ft_elim h1
    all_goals
      try replace h1 := of_decide_eq_true h1
      refine g_seq ?_
      refine g_region ?_
      refine xV rfl rfl rfl (v_assign rfl) ?_
      refine rl_nil (g_le (xK (Fr.le_refl _)) ?_)
      refine g_ret1 Try.func86 rfl rfl ?_
      rw [if_pos (hrq.1 h1)]
      exact ⟨rfl, hw.xQ⟩
  · try with_reducible exact tf_elim h1
    all_goals
      try replace h1 := of_decide_eq_false h1
      have hq : q.ok := by rw [hrq] at h1; exact Classical.not_not.1 h1
      obtain ⟨_, hq2, _, _, hq5, _⟩ := id hq
      rw [if_neg (by simpa using hq)]
      refine g_seq ?_
      refine g_region ?_
      refine xV rfl rfl rfl (v_fieldAddr0 T.fld_126_0_0 rfl) ?_
      refine rl_v rfl rfl rfl (by exact sat_cell hw (by (repeat first | with_reducible exact xH | apply xT); first | done | fail) rfl) (v_load T.scal_9 rfl) ?_
      refine xV rfl rfl rfl (v_eqlStr rfl rfl) ?_
      refine xV rfl rfl rfl (v_assign rfl) ?_
      refine rl_nil (g_le (xK (xS rfl (xS rfl (xS rfl (Fr.le_refl _))))) ?_)
      refine g_cond rfl (fun h2 => ?_) (fun h2 => ?_)
      · try with_reducible exact ft_elim h2
        all_goals
          try replace h2 := of_decide_eq_true h2
          refine g_seq ?_
          refine g_region ?_
          refine xV rfl rfl rfl (v_assign rfl) ?_
          refine rl_nil (g_le (xK (Fr.le_refl _)) ?_)
          refine g_ret1 Try.func86 rfl rfl ?_
          rw [if_pos (show e.name = ByteArray.empty from h2)]
          exact ⟨rfl, hw.xQ⟩
      · try with_reducible exact tf_elim h2
        all_goals
          try replace h2 := of_decide_eq_false h2
          rw [if_neg (show ¬ e.name = ByteArray.empty from h2)]
          refine g_seq ?_
          refine g_region ?_
          refine xV rfl rfl rfl (v_fieldAddr0 T.fld_126_0_0 rfl) ?_
          refine rl_v rfl rfl rfl (by exact sat_cell hw (by (repeat first | with_reducible exact xH | apply xT); first | done | fail) rfl) (v_load T.scal_9 rfl) ?_
          refine xV rfl rfl rfl (v_lenStr T.str_9 rfl) ?_
          refine xV rfl rfl rfl (v_fieldAddr0 T.fld_23_1_1 rfl) ?_
          refine rl_v rfl rfl rfl (by exact sat_cell hw (by (repeat first | with_reducible exact xH | apply xT); first | done | fail) rfl) (v_load T.scal_3 rfl) ?_
          refine xV rfl rfl rfl (v_gtr rfl rfl) ?_
          refine xV rfl rfl rfl (v_assign rfl) ?_
          refine rl_nil (g_le (xK (xS rfl (xS rfl (xS rfl (xS rfl (xS rfl (xS rfl (Fr.le_refl _)))))))) ?_)
          refine g_cond rfl (fun h3 => ?_) (fun h3 => ?_)
          · try with_reducible exact ft_elim h3
            all_goals
              try replace h3 := of_decide_eq_true h3
              refine g_seq ?_
              refine g_region ?_
              refine xV rfl rfl rfl (v_assign rfl) ?_
              refine rl_nil (g_le (xK (Fr.le_refl _)) ?_)
              refine g_ret1 Try.func86 rfl rfl ?_
              rw [if_pos (by omega)]
              exact ⟨rfl, hw.xQ⟩
          · try with_reducible exact tf_elim h3
            all_goals
              try replace h3 := of_decide_eq_false h3
              rw [if_neg (by omega)]
              refine g_seq ?_
              refine g_region ?_
              refine xV rfl rfl rfl (v_fieldAddr0 T.fld_126_1_1 rfl) ?_
              refine rl_v rfl rfl rfl (by exact sat_cell hw (by (repeat first | with_reducible exact xH | apply xT); first | done | fail) rfl) (v_load T.scal_124 rfl) ?_
              refine xV rfl rfl rfl (v_lenSlice T.sl_124_136_3 rfl) ?_
              refine xV rfl rfl rfl (v_fieldAddr0 T.fld_23_4_4 rfl) ?_
              refine rl_v rfl rfl rfl (by exact sat_cell hw (by (repeat first | with_reducible exact xH | apply xT); first | done | fail) rfl) (v_load T.scal_3 rfl) ?_
              refine xV rfl rfl rfl (v_gtr rfl rfl) ?_
              refine xV rfl rfl rfl (v_assign rfl) ?_
              refine rl_nil (g_le (xK (xS rfl (xS rfl (xS rfl (xS rfl (xS rfl (xS rfl (Fr.le_refl _)))))))) ?_)
              refine g_cond rfl (fun h4 => ?_) (fun h4 => ?_)
              · try with_reducible exact ft_elim h4
                all_goals
                  try replace h4 := of_decide_eq_true h4
                  refine g_seq ?_
                  refine g_region ?_
                  refine xV rfl rfl rfl (v_assign rfl) ?_
                  refine rl_nil (g_le (xK (Fr.le_refl _)) ?_)
                  refine g_ret1 Try.func86 rfl rfl ?_
                  rw [if_pos (by omega)]
                  exact ⟨rfl, hw.xQ⟩
              · try with_reducible exact tf_elim h4
                all_goals
                  try replace h4 := of_decide_eq_false h4
                  rw [if_neg (by omega)]
                  refine g_skip (g_inBlock (g_seq ?_))
                  refine g_region ?_
                  refine xV rfl rfl rfl (v_assign rfl) ?_
                  refine rl_nil (g_le (xK (Fr.le_refl _)) ?_)
                  refine g_seq (g_seq ?_)
                  refine g_region ?_
                  refine xV rfl rfl rfl (v_fieldAddr0 T.fld_126_1_1 rfl) ?_
                  refine rl_v rfl rfl rfl (by exact sat_cell hw (by (repeat first | with_reducible exact xH | apply xT); first | done | fail) rfl) (v_load T.scal_124 rfl) ?_
                  refine xV rfl rfl rfl (v_lenSlice T.sl_124_136_3 rfl) ?_
                  refine xV rfl rfl rfl (v_move rfl) ?_
                  refine rl_nil (g_le (xK (xK (xK (xS rfl (Fr.le_refl _))))) ?_)
                  refine g_block ?_
                  refine g_loopC (σ := Nat × Int) (fun C x => (34, .int .i64 (x.1 : Nat)) :: (5, .int .i64 x.2) :: C) [(2, _), (4, _), (32, _), (33, _)] (by repeat (first | exact Fr.le_nil _ | refine Fr.le_cons rfl ?_)) (fun z w => z.1 ≤ e.versions.length ∧ verBad q 0 e.versions = verBad q z.2 (e.versions.drop z.1) ∧ Sat E w (QtAt bk0_0 q :: pt bk0_1 (.cells [Value.string e.name, .slice va e.versions.length vc].toArray 126 (0, 0)) :: RO g :: L)) (fun z => e.versions.length - z.1) ?_ (0, 0) (by repeat (first | exact Fr.le_nil _ | refine Fr.le_cons rfl ?_)) ⟨by simp, by simp, hw.xQ⟩
                  rintro ⟨i, last⟩ w ⟨hi1, heq, hw⟩ ih
                  dsimp only at hi1 heq hw ih ⊢
                  refine g_seq ?_
                  refine g_region ?_
                  refine xV rfl rfl rfl (v_lss rfl rfl) ?_
                  refine rl_nil (g_le (xK (Fr.le_refl _)) ?_)
                  refine g_seq ?_
                  refine g_cond rfl (fun h5 => ?_) (fun h5 => ?_)
                  · try with_reducible exact ft_elim h5
                    all_goals
                      try replace h5 := of_decide_eq_true h5
                      refine g_skip (g_seq (g_block (g_seq ?_)))
                      have hz := hw
                      clear hw
                      obtain ⟨b4, o1, v, vcs, rfl, hv, hat1, hl1, rfl, hvok⟩ := gv (i : Nat) (by omega) (by omega)
                      rw [Int.toNat_natCast] at hv hat1
                      obtain ⟨hv1, hv2⟩ := List.getElem?_eq_some_iff.1 hv
                      rw [List.drop_eq_getElem_cons hv1, hv2] at heq
                      simp only [verBad] at heq
                      obtain ⟨_, hvv, hvn⟩ := id hvok
                      have hw := hz
                      refine g_region ?_
                      refine xV rfl rfl rfl (v_indexAddr T.sl_124_136_3 rfl rfl (by omega) (by omega)) ?_
                      refine rl_v rfl rfl rfl (by exact ro_ats hw (by (repeat first | with_reducible exact xH | apply xT); first | done | fail) (by assumption)) (v_loadAgg (vs := [_, _, _]) T.agg_136_3 rfl rfl) ?_
                      refine rl_k rfl (k_alloc hw T.zero_136 rfl rfl (fun bk12_2 w hw => ?_))
                      refine rl_k rfl (k_storeWhole hw T.agg_136_3 rfl rfl (by simp [Value.oneCell']) rfl (by (repeat first | with_reducible exact xH | apply xT); first | done | fail) rfl (fun w hw => ?_))
                      refine rl_nil (g_le (xK (xK (xK (Fr.le_refl _)))) ?_)
                      refine g_seq (g_seq ?_)
                      refine g_region ?_
                      refine xV rfl rfl rfl (v_fieldAddr0 T.fld_136_0_0 rfl) ?_
                      refine rl_v rfl rfl rfl (by exact sat_cell hw (by (repeat first | with_reducible exact xH | apply xT); first | done | fail) rfl) (v_load T.scal_3 rfl) ?_
                      refine xV rfl rfl rfl (v_move rfl) ?_
                      refine xV rfl rfl rfl (v_leq rfl rfl) ?_
                      refine xV rfl rfl rfl (v_move rfl) ?_
                      refine rl_split (s := 42) rfl (fun g13_4 => ?_) (fun g13_4 => ?_)
                      · try with_reducible exact ft_elim g13_4
                        all_goals
                          try replace g13_4 := of_decide_eq_true g13_4
                          refine rl_off (met_off rfl rfl rfl rfl rfl) rfl rfl ?_
                          refine rl_off (met_off rfl rfl rfl rfl rfl) rfl rfl ?_
                          refine rl_off (met_off rfl rfl rfl rfl rfl) rfl rfl ?_
                          refine xV rfl rfl rfl (v_pick_true rfl rfl) ?_
                          refine rl_nil (g_le (xK (xK (xK (xK (xK (xK (xK (xK (xK (xK (Fr.le_refl _))))))))))) ?_)
                          refine g_cond_true rfl ?_
                          refine g_seq ?_
                          refine g_region ?_
                          refine xV rfl rfl rfl (v_assign rfl) ?_
                          refine rl_nil (g_le (xK (Fr.le_refl _)) ?_)
                          refine g_ret1 Try.func86 rfl rfl ?_
                          rw [if_pos (by omega)] at heq
                          rw [heq]
                          exact ⟨rfl, hw.xQ⟩
                      · try with_reducible exact tf_elim g13_4
                        all_goals
                          try replace g13_4 := of_decide_eq_false g13_4
                          refine rl_vg (met_on rfl rfl rfl rfl) rfl rfl (S := fun _ => True) trivial (v_fieldAddr0 T.fld_136_0_0 rfl) ?_
                          refine rl_vg (met_on rfl rfl rfl rfl) rfl rfl (by exact sat_cell hw (by (repeat first | with_reducible exact xH | apply xT); first | done | fail) rfl) (v_load T.scal_3 rfl) ?_
                          refine rl_vg (met_on rfl rfl rfl rfl) rfl rfl (S := fun _ => True) trivial (v_gtr rfl rfl) ?_
                          refine xV rfl rfl rfl (v_pick_false rfl rfl) ?_
                          refine rl_nil (g_le (xK (xK (xK (xK (xK (xK (xK (xK (xK (xK (Fr.le_refl _))))))))))) ?_)
                          refine g_cond rfl (fun h6 => ?_) (fun h6 => ?_)
                          · try with_reducible exact ft_elim h6
                            all_goals
                              try replace h6 := of_decide_eq_true h6
                              refine g_seq ?_
                              refine g_region ?_
                              refine xV rfl rfl rfl (v_assign rfl) ?_
                              refine rl_nil (g_le (xK (Fr.le_refl _)) ?_)
                              refine g_ret1 Try.func86 rfl rfl ?_
                              rw [if_pos (by omega)] at heq
                              rw [heq]
                              exact ⟨rfl, hw.xQ⟩
                          · try with_reducible exact tf_elim h6
                            all_goals
                              try replace h6 := of_decide_eq_false h6
                              rw [if_neg (by omega)] at heq
                              refine g_skip (g_seq (g_seq ?_))
                              refine g_region ?_
                              refine rl_v rfl rfl rfl (by exact sat_cells hw (by (repeat first | with_reducible exact xH | apply xT); first | done | fail) ⟨rfl, rfl, rfl, rfl, rfl, rfl, rfl, trivial⟩) (v_loadAgg (vs := [_, _, _, _, _, _, _]) T.agg_23_7 rfl rfl) ?_
                              refine xV rfl rfl rfl (v_fieldAddr0 T.fld_136_1_1 rfl) ?_
                              refine rl_v rfl rfl rfl (by exact sat_cell hw (by (repeat first | with_reducible exact xH | apply xT); first | done | fail) rfl) (v_load T.scal_9 rfl) ?_
                              refine xV rfl rfl rfl (v_fieldAddr0 T.fld_136_2_2 rfl) ?_
                              refine rl_v rfl rfl rfl (by exact sat_cell hw (by (repeat first | with_reducible exact xH | apply xT); first | done | fail) rfl) (v_load T.scal_9 rfl) ?_
                              refine rl_k rfl (k_callf Try.func97 rfl rfl rfl rfl ?_)
                              refine Calls.mono (texts_calls q hq v.value v.note hvv hvn (hw.xQ)) ?_
                              rintro _ w ⟨rfl, hw⟩
                              refine ⟨_, rfl, ?_⟩
                              refine xV rfl rfl rfl (v_assign rfl) ?_
                              refine rl_nil (g_le (xK (xK (xK (xK (xK (xK (xK (Fr.le_refl _)))))))) ?_)
                              refine g_seq ?_
                              refine g_region ?_
                              refine xV rfl rfl rfl (v_move rfl) ?_
                              refine xV rfl rfl rfl (v_neq rfl rfl) ?_
                              refine rl_nil (g_le (xK (xK (Fr.le_refl _))) ?_)
                              refine g_cond rfl (fun h7 => ?_) (fun h7 => ?_)
                              · try with_reducible exact ft_elim h7
                                all_goals
                                  try replace h7 := of_decide_eq_true h7
                                  refine g_seq ?_
                                  refine g_region ?_
                                  refine xV rfl rfl rfl (v_move rfl) ?_
                                  refine xV rfl rfl rfl (v_assign rfl) ?_
                                  refine rl_nil (g_le (xK (xK (Fr.le_refl _))) ?_)
                                  refine g_ret1 Try.func86 rfl rfl ?_
                                  have h9 : q.va < v.value.size ∨ q.no < v.note.size := by by_cases h8 : q.va < v.value.size ∨ q.no < v.note.size; exact h8; (rw [if_neg h8] at h7; exact absurd rfl h7)
                                  rw [if_pos h9] at heq ⊢
                                  rw [heq]
                                  exact ⟨rfl, hw.xQ⟩
                              · try with_reducible exact tf_elim h7
                                all_goals
                                  try replace h7 := of_decide_eq_false h7
                                  have h9 : ¬ (q.va < v.value.size ∨ q.no < v.note.size) := fun h8 => by rw [if_pos h8] at h7; omega
                                  rw [if_neg h9] at heq
                                  refine g_skip ?_
                                  refine g_region ?_
                                  refine xV rfl rfl rfl (v_fieldAddr0 T.fld_136_0_0 rfl) ?_
                                  refine rl_v rfl rfl rfl (by exact sat_cell hw (by (repeat first | with_reducible exact xH | apply xT); first | done | fail) rfl) (v_load T.scal_3 rfl) ?_
                                  refine xV rfl rfl rfl (v_assign rfl) ?_
                                  refine rl_nil (g_le (xK (xK (xK (Fr.le_refl _)))) ?_)
                                  refine g_inBlock ?_
                                  refine g_region ?_
                                  refine xV rfl rfl rfl (v_add rfl rfl (by omega)) ?_
                                  refine xV rfl rfl rfl (v_move rfl) ?_
                                  refine rl_nil (g_le (xK (xK (Fr.le_refl _))) ?_)
                                  exact g_le (by repeat (first | exact Fr.le_nil _ | refine Fr.le_cons rfl ?_)) (ih (i + 1, v.no) w ⟨by simp only; omega, heq, hw.xQ⟩ (by simp only; omega))
                  · try with_reducible exact tf_elim h5
                    all_goals
                      try replace h5 := of_decide_eq_false h5
                      refine g_exit rfl (g_seq ?_)
                      refine g_region ?_
                      refine xV rfl rfl rfl (v_assign rfl) ?_
                      refine rl_nil (g_le (xK (Fr.le_refl _)) ?_)
                      refine g_ret1 Try.func86 rfl rfl ?_
                      rw [List.drop_eq_nil_of_le (by omega)] at heq
                      rw [heq]
                      exact ⟨rfl, hw.xQ⟩
theorem rightE_calls {E : Env} {w : World} {L : List As} {g : Hp} {ecs : List Value} {e : En} (q : Qt) (he : rdEn g ecs e) (hw : Sat E w (RO g :: L)) :
    Calls Try.prog 61 #[q.v, .agg ecs.toArray] w fun v w' => v = .returned (.int .i64 (rightE q e)) ∧ Sat E w' (RO g :: L) := by
  obtain ⟨va, vn, vc, rfl, he⟩ := en_told he
  obtain ⟨q0, q1, hqq, ⟨p0, hns⟩, p1⟩ := id he
  simp only [List.cons.injEq, and_true] at hqq
  obtain ⟨rfl, rfl⟩ := hqq
  obtain ⟨rfl, hvb, _, _, gv⟩ := rdSl_get p1
  unfold rightE
  refine calls_of_g (n := 18) Try.func61 rfl rfl rfl ?_
  change G _ _ _ _ _ [(0, _), (1, _)] _
  refine g_seq ?_
  refine g_region ?_
  refine rl_k rfl (k_box hw rfl rfl rfl (fun bk0_0 w hw => ?_))
  refine rl_k rfl (k_box hw rfl rfl rfl (fun bk0_1 w hw => ?_))
  refine xV rfl rfl rfl (v_assign rfl) ?_
  refine rl_nil (g_le (xK (xK (xK (Fr.le_refl _)))) ?_)
  refine g_seq ?_
  refine g_region ?_
  refine rl_v rfl rfl rfl (by exact sat_cells hw (by (repeat first | with_reducible exact xH | apply xT); first | done | fail) ⟨rfl, rfl, rfl, rfl, rfl, rfl, rfl, trivial⟩) (v_loadAgg (vs := [_, _, _, _, _, _, _]) T.agg_23_7 rfl rfl) ?_
  refine rl_v rfl rfl rfl (by exact sat_cells hw (by (repeat first | with_reducible exact xH | apply xT); first | done | fail) ⟨rfl, rfl, trivial⟩) (v_loadAgg (vs := [_, _]) T.agg_126_2 rfl rfl) ?_
  refine rl_k rfl (k_callf Try.func86 rfl rfl rfl rfl ?_)
  refine Calls.mono (named_calls q he (hw.xQ)) ?_
  rintro _ w ⟨rfl, hw⟩
  refine ⟨_, rfl, ?_⟩
  refine xV rfl rfl rfl (v_assign rfl) ?_
  refine rl_nil (g_le (xK (xS rfl (xS rfl (xS rfl (Fr.le_refl _))))) ?_)
  refine g_seq (g_seq ?_)
  refine g_region ?_
  refine xV rfl rfl rfl (v_move rfl) ?_
  refine xV rfl rfl rfl (v_eql rfl rfl) ?_
  refine xV rfl rfl rfl (v_move rfl) ?_
  refine rl_split (s := 11) rfl (fun g2_2 => ?_) (fun g2_2 => ?_)
  · try with_reducible exact ft_elim g2_2
    all_goals
      try replace g2_2 := of_decide_eq_true g2_2
      refine rl_vg (met_on rfl rfl rfl rfl) rfl rfl (S := fun _ => True) trivial (v_fieldAddr0 T.fld_126_1_1 rfl) ?_
      refine rl_vg (met_on rfl rfl rfl rfl) rfl rfl (by exact sat_cell hw (by (repeat first | with_reducible exact xH | apply xT); first | done | fail) rfl) (v_load T.scal_124 rfl) ?_
      refine rl_vg (met_on rfl rfl rfl rfl) rfl rfl (S := fun _ => True) trivial (v_lenSlice T.sl_124_136_3 rfl) ?_
      refine rl_vg (met_on rfl rfl rfl rfl) rfl rfl (S := fun _ => True) trivial (v_eql rfl rfl) ?_
      refine xV rfl rfl rfl (v_pick_true rfl rfl) ?_
      refine rl_nil (g_le (xK (xS rfl (xS rfl (xS rfl (xS rfl (xS rfl (xS rfl (xS rfl (xS rfl (Fr.le_refl _)))))))))) ?_)
      refine g_cond rfl (fun h1 => ?_) (fun h1 => ?_)
      · try with_reducible exact ft_elim h1
        all_goals
          try replace h1 := of_decide_eq_true h1
          refine g_seq ?_
          refine g_region ?_
          refine xV rfl rfl rfl (v_assign rfl) ?_
          refine rl_nil (g_le (xK (Fr.le_refl _)) ?_)
          refine g_ret1 Try.func61 rfl rfl ?_
          rw [if_pos (by omega)]
          exact ⟨rfl, hw.xQ⟩
      · try with_reducible exact tf_elim h1
        all_goals
          try replace h1 := of_decide_eq_false h1
          refine g_skip (g_seq ?_)
          refine g_region ?_
          refine xV rfl rfl rfl (v_move rfl) ?_
          refine xV rfl rfl rfl (v_assign rfl) ?_
          refine rl_nil (g_le (xK (xS rfl (Fr.le_refl _))) ?_)
          refine g_ret1 Try.func61 rfl rfl ?_
          rw [if_neg (by omega)]
          exact ⟨rfl, hw.xQ⟩
  · try with_reducible exact tf_elim g2_2
    all_goals
      try replace g2_2 := of_decide_eq_false g2_2
      refine rl_off (met_off rfl rfl rfl rfl rfl) rfl rfl ?_
      refine rl_off (met_off rfl rfl rfl rfl rfl) rfl rfl ?_
      refine rl_off (met_off rfl rfl rfl rfl rfl) rfl rfl ?_
      refine rl_off (met_off rfl rfl rfl rfl rfl) rfl rfl ?_
      refine xV rfl rfl rfl (v_pick_false rfl rfl) ?_
      refine rl_nil (g_le (xK (xS rfl (xS rfl (xS rfl (xS rfl (xS rfl (xS rfl (xS rfl (xS rfl (Fr.le_refl _)))))))))) ?_)
      refine g_cond_false rfl ?_
      refine g_skip (g_seq ?_)
      refine g_region ?_
      refine xV rfl rfl rfl (v_move rfl) ?_
      refine xV rfl rfl rfl (v_assign rfl) ?_
      refine rl_nil (g_le (xK (xS rfl (Fr.le_refl _))) ?_)
      refine g_ret1 Try.func61 rfl rfl ?_
      rw [if_neg (by omega)]
      exact ⟨rfl, hw.xQ⟩
/-! Nodes. -/
def refR (r : Rf) : Prop := 0 ≤ r.seg ∧ r.seg ≤ 1048576 ∧ 0 ≤ r.off ∧ r.off ≤ 134217728 ∧ 1 ≤ r.len ∧ r.len ≤ 1048576
instance (r : Rf) : Decidable (refR r) := inferInstanceAs (Decidable (_ ∧ _))
theorem refRight_calls {E : Env} {w : World} {L : List As} (r : Rf) (hw : Sat E w L) :
    Calls Try.prog 35 #[.agg r.cells.toArray] w fun v w' => v = .returned (.bool (decide (refR r))) ∧ Sat E w' L := by
  refine calls_of_g (n := 31) Try.func35 rfl rfl rfl ?_
  change G _ _ _ _ _ [(0, _)] _
  refine g_seq ?_
  refine g_region ?_
  refine rl_k rfl (k_box hw rfl rfl rfl (fun bk0_0 w hw => ?_))
  refine xV rfl rfl rfl (v_assign rfl) ?_
  refine rl_nil (g_le (xK (xK (Fr.le_refl _))) ?_)
  refine g_seq ?_
  refine g_region ?_
  refine xV rfl rfl rfl (v_fieldAddr0 T.fld_51_1_1 rfl) ?_
  refine rl_v rfl rfl rfl (by exact sat_cell hw (by (repeat first | with_reducible exact xH | apply xT); first | done | fail) rfl) (v_load T.scal_3 rfl) ?_
  refine xV rfl rfl rfl (v_geq rfl rfl) ?_
  refine xV rfl rfl rfl (v_move rfl) ?_
  refine rl_split (s := 6) rfl (fun g1_3 => ?_) (fun g1_3 => ?_)
  · try with_reducible exact ft_elim g1_3
    all_goals
      try replace g1_3 := of_decide_eq_true g1_3
      refine rl_vg (met_on rfl rfl rfl rfl) rfl rfl (S := fun _ => True) trivial (v_fieldAddr0 T.fld_51_1_1 rfl) ?_
      refine rl_vg (met_on rfl rfl rfl rfl) rfl rfl (by exact sat_cell hw (by (repeat first | with_reducible exact xH | apply xT); first | done | fail) rfl) (v_load T.scal_3 rfl) ?_
      refine rl_vg (met_on rfl rfl rfl rfl) rfl rfl (S := fun _ => True) trivial (v_leq rfl rfl) ?_
      refine xV rfl rfl rfl (v_pick_true rfl rfl) ?_
      refine xV rfl rfl rfl (v_move rfl) ?_
      refine rl_split (s := 11) rfl (fun g1_8 => ?_) (fun g1_8 => ?_)
      · try with_reducible exact ft_elim g1_8
        all_goals
          try replace g1_8 := of_decide_eq_true g1_8
          refine rl_vg (met_on rfl rfl rfl rfl) rfl rfl (S := fun _ => True) trivial (v_fieldAddr0 T.fld_51_2_2 rfl) ?_
          refine rl_vg (met_on rfl rfl rfl rfl) rfl rfl (by exact sat_cell hw (by (repeat first | with_reducible exact xH | apply xT); first | done | fail) rfl) (v_load T.scal_3 rfl) ?_
          refine rl_vg (met_on rfl rfl rfl rfl) rfl rfl (S := fun _ => True) trivial (v_geq rfl rfl) ?_
          refine xV rfl rfl rfl (v_pick_true rfl rfl) ?_
          refine xV rfl rfl rfl (v_move rfl) ?_
          refine rl_split (s := 16) rfl (fun g1_13 => ?_) (fun g1_13 => ?_)
          · try with_reducible exact ft_elim g1_13
            all_goals
              try replace g1_13 := of_decide_eq_true g1_13
              refine rl_vg (met_on rfl rfl rfl rfl) rfl rfl (S := fun _ => True) trivial (v_fieldAddr0 T.fld_51_2_2 rfl) ?_
              refine rl_vg (met_on rfl rfl rfl rfl) rfl rfl (by exact sat_cell hw (by (repeat first | with_reducible exact xH | apply xT); first | done | fail) rfl) (v_load T.scal_3 rfl) ?_
              refine rl_vg (met_on rfl rfl rfl rfl) rfl rfl (S := fun _ => True) trivial (v_leq rfl rfl) ?_
              refine xV rfl rfl rfl (v_pick_true rfl rfl) ?_
              refine xV rfl rfl rfl (v_move rfl) ?_
              refine rl_split (s := 21) rfl (fun g1_18 => ?_) (fun g1_18 => ?_)
              · try with_reducible exact ft_elim g1_18
                all_goals
                  try replace g1_18 := of_decide_eq_true g1_18
                  refine rl_vg (met_on rfl rfl rfl rfl) rfl rfl (S := fun _ => True) trivial (v_fieldAddr0 T.fld_51_3_3 rfl) ?_
                  refine rl_vg (met_on rfl rfl rfl rfl) rfl rfl (by exact sat_cell hw (by (repeat first | with_reducible exact xH | apply xT); first | done | fail) rfl) (v_load T.scal_3 rfl) ?_
                  refine rl_vg (met_on rfl rfl rfl rfl) rfl rfl (S := fun _ => True) trivial (v_geq rfl rfl) ?_
                  refine xV rfl rfl rfl (v_pick_true rfl rfl) ?_
                  refine xV rfl rfl rfl (v_move rfl) ?_
                  refine rl_split (s := 26) rfl (fun g1_23 => ?_) (fun g1_23 => ?_)
                  · try with_reducible exact ft_elim g1_23
                    all_goals
                      try replace g1_23 := of_decide_eq_true g1_23
                      refine rl_vg (met_on rfl rfl rfl rfl) rfl rfl (S := fun _ => True) trivial (v_fieldAddr0 T.fld_51_3_3 rfl) ?_
                      refine rl_vg (met_on rfl rfl rfl rfl) rfl rfl (by exact sat_cell hw (by (repeat first | with_reducible exact xH | apply xT); first | done | fail) rfl) (v_load T.scal_3 rfl) ?_
                      refine rl_vg (met_on rfl rfl rfl rfl) rfl rfl (S := fun _ => True) trivial (v_leq rfl rfl) ?_
                      refine xV rfl rfl rfl (v_pick_true rfl rfl) ?_
                      refine xV rfl rfl rfl (v_assign rfl) ?_
                      refine rl_nil (g_le (xK (xS rfl (xS rfl (xS rfl (xS rfl (xS rfl (xS rfl (xS rfl (xS rfl (xS rfl (xS rfl (xS rfl (xS rfl (xS rfl (xS rfl (xS rfl (xS rfl (xS rfl (xS rfl (xS rfl (xS rfl (xS rfl (xS rfl (xS rfl (xS rfl (xS rfl (xS rfl (xS rfl (xS rfl (xS rfl (xS rfl (xS rfl (xS rfl (xS rfl (Fr.le_refl _))))))))))))))))))))))))))))))))))) ?_)
                      refine g_ret1 Try.func35 rfl rfl ?_
                      refine ⟨?_, hw.xQ⟩
                      rw [show decide (refR r) = decide (r.len ≤ 1048576) from decide_eq_decide.2 ⟨fun h => by unfold refR at h; omega, fun h => by unfold refR; omega⟩]
                  · try with_reducible exact tf_elim g1_23
                    all_goals
                      try replace g1_23 := of_decide_eq_false g1_23
                      refine rl_off (met_off rfl rfl rfl rfl rfl) rfl rfl ?_
                      refine rl_off (met_off rfl rfl rfl rfl rfl) rfl rfl ?_
                      refine rl_off (met_off rfl rfl rfl rfl rfl) rfl rfl ?_
                      refine xV rfl rfl rfl (v_pick_false rfl rfl) ?_
                      refine xV rfl rfl rfl (v_assign rfl) ?_
                      refine rl_nil (g_le (xK (xS rfl (xS rfl (xS rfl (xS rfl (xS rfl (xS rfl (xS rfl (xS rfl (xS rfl (xS rfl (xS rfl (xS rfl (xS rfl (xS rfl (xS rfl (xS rfl (xS rfl (xS rfl (xS rfl (xS rfl (xS rfl (xS rfl (xS rfl (xS rfl (xS rfl (xS rfl (xS rfl (xS rfl (xS rfl (xS rfl (xS rfl (xS rfl (xS rfl (Fr.le_refl _))))))))))))))))))))))))))))))))))) ?_)
                      refine g_ret1 Try.func35 rfl rfl ?_
                      refine ⟨?_, hw.xQ⟩
                      rw [decide_eq_false (by unfold refR; omega)]
              · try with_reducible exact tf_elim g1_18
                all_goals
                  try replace g1_18 := of_decide_eq_false g1_18
                  refine rl_off (met_off rfl rfl rfl rfl rfl) rfl rfl ?_
                  refine rl_off (met_off rfl rfl rfl rfl rfl) rfl rfl ?_
                  refine rl_off (met_off rfl rfl rfl rfl rfl) rfl rfl ?_
                  refine xV rfl rfl rfl (v_pick_false rfl rfl) ?_
                  refine xV rfl rfl rfl (v_move rfl) ?_
                  refine rl_off (met_off rfl rfl rfl rfl rfl) rfl rfl ?_
                  refine rl_off (met_off rfl rfl rfl rfl rfl) rfl rfl ?_
                  refine rl_off (met_off rfl rfl rfl rfl rfl) rfl rfl ?_
                  refine xV rfl rfl rfl (v_pick_false rfl rfl) ?_
                  refine xV rfl rfl rfl (v_assign rfl) ?_
                  refine rl_nil (g_le (xK (xS rfl (xS rfl (xS rfl (xS rfl (xS rfl (xS rfl (xS rfl (xS rfl (xS rfl (xS rfl (xS rfl (xS rfl (xS rfl (xS rfl (xS rfl (xS rfl (xS rfl (xS rfl (xS rfl (xS rfl (xS rfl (xS rfl (xS rfl (xS rfl (xS rfl (xS rfl (xS rfl (xS rfl (xS rfl (xS rfl (xS rfl (xS rfl (Fr.le_refl _)))))))))))))))))))))))))))))))))) ?_)
                  refine g_ret1 Try.func35 rfl rfl ?_
                  refine ⟨?_, hw.xQ⟩
                  rw [decide_eq_false (by unfold refR; omega)]
          · try with_reducible exact tf_elim g1_13
            all_goals
              try replace g1_13 := of_decide_eq_false g1_13
              refine rl_off (met_off rfl rfl rfl rfl rfl) rfl rfl ?_
              refine rl_off (met_off rfl rfl rfl rfl rfl) rfl rfl ?_
              refine rl_off (met_off rfl rfl rfl rfl rfl) rfl rfl ?_
              refine xV rfl rfl rfl (v_pick_false rfl rfl) ?_
              refine xV rfl rfl rfl (v_move rfl) ?_
              refine rl_off (met_off rfl rfl rfl rfl rfl) rfl rfl ?_
              refine rl_off (met_off rfl rfl rfl rfl rfl) rfl rfl ?_
              refine rl_off (met_off rfl rfl rfl rfl rfl) rfl rfl ?_
              refine xV rfl rfl rfl (v_pick_false rfl rfl) ?_
              refine xV rfl rfl rfl (v_move rfl) ?_
              refine rl_off (met_off rfl rfl rfl rfl rfl) rfl rfl ?_
              refine rl_off (met_off rfl rfl rfl rfl rfl) rfl rfl ?_
              refine rl_off (met_off rfl rfl rfl rfl rfl) rfl rfl ?_
              refine xV rfl rfl rfl (v_pick_false rfl rfl) ?_
              refine xV rfl rfl rfl (v_assign rfl) ?_
              refine rl_nil (g_le (xK (xS rfl (xS rfl (xS rfl (xS rfl (xS rfl (xS rfl (xS rfl (xS rfl (xS rfl (xS rfl (xS rfl (xS rfl (xS rfl (xS rfl (xS rfl (xS rfl (xS rfl (xS rfl (xS rfl (xS rfl (xS rfl (xS rfl (xS rfl (xS rfl (xS rfl (xS rfl (xS rfl (xS rfl (xS rfl (xS rfl (xS rfl (Fr.le_refl _))))))))))))))))))))))))))))))))) ?_)
              refine g_ret1 Try.func35 rfl rfl ?_
              refine ⟨?_, hw.xQ⟩
              rw [decide_eq_false (by unfold refR; omega)]
      · try with_reducible exact tf_elim g1_8
        all_goals
          try replace g1_8 := of_decide_eq_false g1_8
          refine rl_off (met_off rfl rfl rfl rfl rfl) rfl rfl ?_
          refine rl_off (met_off rfl rfl rfl rfl rfl) rfl rfl ?_
          refine rl_off (met_off rfl rfl rfl rfl rfl) rfl rfl ?_
          refine xV rfl rfl rfl (v_pick_false rfl rfl) ?_
          refine xV rfl rfl rfl (v_move rfl) ?_
          refine rl_off (met_off rfl rfl rfl rfl rfl) rfl rfl ?_
          refine rl_off (met_off rfl rfl rfl rfl rfl) rfl rfl ?_
          refine rl_off (met_off rfl rfl rfl rfl rfl) rfl rfl ?_
          refine xV rfl rfl rfl (v_pick_false rfl rfl) ?_
          refine xV rfl rfl rfl (v_move rfl) ?_
          refine rl_off (met_off rfl rfl rfl rfl rfl) rfl rfl ?_
          refine rl_off (met_off rfl rfl rfl rfl rfl) rfl rfl ?_
          refine rl_off (met_off rfl rfl rfl rfl rfl) rfl rfl ?_
          refine xV rfl rfl rfl (v_pick_false rfl rfl) ?_
          refine xV rfl rfl rfl (v_move rfl) ?_
          refine rl_off (met_off rfl rfl rfl rfl rfl) rfl rfl ?_
          refine rl_off (met_off rfl rfl rfl rfl rfl) rfl rfl ?_
          refine rl_off (met_off rfl rfl rfl rfl rfl) rfl rfl ?_
          refine xV rfl rfl rfl (v_pick_false rfl rfl) ?_
          refine xV rfl rfl rfl (v_assign rfl) ?_
          refine rl_nil (g_le (xK (xS rfl (xS rfl (xS rfl (xS rfl (xS rfl (xS rfl (xS rfl (xS rfl (xS rfl (xS rfl (xS rfl (xS rfl (xS rfl (xS rfl (xS rfl (xS rfl (xS rfl (xS rfl (xS rfl (xS rfl (xS rfl (xS rfl (xS rfl (xS rfl (xS rfl (xS rfl (xS rfl (xS rfl (xS rfl (xS rfl (Fr.le_refl _)))))))))))))))))))))))))))))))) ?_)
          refine g_ret1 Try.func35 rfl rfl ?_
          refine ⟨?_, hw.xQ⟩
          rw [decide_eq_false (by unfold refR; omega)]
  · try with_reducible exact tf_elim g1_3
    all_goals
      try replace g1_3 := of_decide_eq_false g1_3
      refine rl_off (met_off rfl rfl rfl rfl rfl) rfl rfl ?_
      refine rl_off (met_off rfl rfl rfl rfl rfl) rfl rfl ?_
      refine rl_off (met_off rfl rfl rfl rfl rfl) rfl rfl ?_
      refine xV rfl rfl rfl (v_pick_false rfl rfl) ?_
      refine xV rfl rfl rfl (v_move rfl) ?_
      refine rl_off (met_off rfl rfl rfl rfl rfl) rfl rfl ?_
      refine rl_off (met_off rfl rfl rfl rfl rfl) rfl rfl ?_
      refine rl_off (met_off rfl rfl rfl rfl rfl) rfl rfl ?_
      refine xV rfl rfl rfl (v_pick_false rfl rfl) ?_
      refine xV rfl rfl rfl (v_move rfl) ?_
      refine rl_off (met_off rfl rfl rfl rfl rfl) rfl rfl ?_
      refine rl_off (met_off rfl rfl rfl rfl rfl) rfl rfl ?_
      refine rl_off (met_off rfl rfl rfl rfl rfl) rfl rfl ?_
      refine xV rfl rfl rfl (v_pick_false rfl rfl) ?_
      refine xV rfl rfl rfl (v_move rfl) ?_
      refine rl_off (met_off rfl rfl rfl rfl rfl) rfl rfl ?_
      refine rl_off (met_off rfl rfl rfl rfl rfl) rfl rfl ?_
      refine rl_off (met_off rfl rfl rfl rfl rfl) rfl rfl ?_
      refine xV rfl rfl rfl (v_pick_false rfl rfl) ?_
      refine xV rfl rfl rfl (v_move rfl) ?_
      refine rl_off (met_off rfl rfl rfl rfl rfl) rfl rfl ?_
      refine rl_off (met_off rfl rfl rfl rfl rfl) rfl rfl ?_
      refine rl_off (met_off rfl rfl rfl rfl rfl) rfl rfl ?_
      refine xV rfl rfl rfl (v_pick_false rfl rfl) ?_
      refine xV rfl rfl rfl (v_assign rfl) ?_
      refine rl_nil (g_le (xK (xS rfl (xS rfl (xS rfl (xS rfl (xS rfl (xS rfl (xS rfl (xS rfl (xS rfl (xS rfl (xS rfl (xS rfl (xS rfl (xS rfl (xS rfl (xS rfl (xS rfl (xS rfl (xS rfl (xS rfl (xS rfl (xS rfl (xS rfl (xS rfl (xS rfl (xS rfl (xS rfl (xS rfl (xS rfl (Fr.le_refl _))))))))))))))))))))))))))))))) ?_)
      refine g_ret1 Try.func35 rfl rfl ?_
      refine ⟨?_, hw.xQ⟩
      rw [decide_eq_false (by unfold refR; omega)]
def entsBad (q : Qt) : Option ByteArray → List En → Int
  | _, [] => 0
  | p, e :: es => if rightE q e ≠ 0 then rightE q e else if (match p with | some n => !sl n e.name | none => false) = true then 60 else entsBad q (some e.name) es
def kidsBad (q : Qt) : Option ByteArray → List Kd → Int
  | _, [] => 0
  | p, k :: ks => if k.low = ByteArray.empty then 4 else if q.nm < k.low.size then 5 else if ¬ refR k.ref then 61 else if (match p with | some n => !sl n k.low | none => false) = true then 60 else kidsBad q (some k.low) ks
def rightN (q : Qt) (x : Nd) : Int := if ¬ q.ok then 40 else if x.leaf = true then (if 0 < x.kids.length ∨ 4 < x.entries.length then 60 else entsBad q none x.entries) else if 0 < x.entries.length ∨ x.kids.length < 2 ∨ 4 < x.kids.length then 60 else kidsBad q none x.kids
theorem ord_f44_r9_E05 : orderOfB Try.f44 9 [] (.k 0 (.k 1 (.k 2 (.a 3 (.a 5 (.a 7 (.a 8 (.v 4 (.k 6 (.k 9 (.k 10 (.k 11 (.k 12 (.k 13 .done)))))))))))))) = true := by kernel_rfl
set_option maxHeartbeats 1000000 in
theorem leafRight_calls {E : Env} {w : World} {L : List As} {g : Hp} {ncs : List Value} {x : Nd} (q : Qt) (hn : rdNd g ncs x) (hw : Sat E w (RO g :: L)) :
    Calls Try.prog 44 #[q.v, .agg ncs.toArray] w fun v w' => v = .returned (.int .i64 (if 0 < x.kids.length ∨ 4 < x.entries.length then 60 else entsBad q none x.entries)) ∧ Sat E w' (RO g :: L) := by
  obtain ⟨ea, en, ec, ka, kn, kc, rfl, hnd⟩ := nd_told hn
  obtain ⟨n0, n1, n2, hq9, _, hqe, hqk⟩ := id hnd
  simp only [List.cons.injEq, and_true] at hq9
  obtain ⟨_, rfl, rfl⟩ := hq9
  obtain ⟨rfl, heb, _, hem, ge⟩ := rdSl_get hqe
  obtain ⟨rfl, hkb, _, hkm, _⟩ := rdSl_get hqk
  simp only [maxLen] at hem hkm
  refine calls_of_g (n := 47) Try.func44 rfl rfl rfl ?_
  change G _ _ _ _ _ [(0, _), (1, _)] _
  refine g_seq ?_
  refine g_region ?_
  refine rl_k rfl (k_box hw rfl rfl rfl (fun bk0_0 w hw => ?_))
  refine rl_k rfl (k_box hw rfl rfl rfl (fun bk0_1 w hw => ?_))
  refine xV rfl rfl rfl (v_assign rfl) ?_
  refine rl_nil (g_le (xK (xK (xK (Fr.le_refl _)))) ?_)
  refine g_seq (g_seq ?_)
  refine g_region ?_
  refine xV rfl rfl rfl (v_fieldAddr0 T.fld_48_2_2 rfl) ?_
  refine rl_v rfl rfl rfl (by exact sat_cell hw (by (repeat first | with_reducible exact xH | apply xT); first | done | fail) rfl) (v_load T.scal_46 rfl) ?_
  refine xV rfl rfl rfl (v_lenSlice T.sl_46_101_5 rfl) ?_
  refine xV rfl rfl rfl (v_gtr rfl rfl) ?_
  refine xV rfl rfl rfl (v_move rfl) ?_
  refine rl_split (s := 12) rfl (fun g1_4 => ?_) (fun g1_4 => ?_)
  · try with_reducible exact ft_elim g1_4
    all_goals
      try replace g1_4 := of_decide_eq_true g1_4
      refine rl_off (met_off rfl rfl rfl rfl rfl) rfl rfl ?_
      refine rl_off (met_off rfl rfl rfl rfl rfl) rfl rfl ?_
      refine rl_off (met_off rfl rfl rfl rfl rfl) rfl rfl ?_
      refine rl_off (met_off rfl rfl rfl rfl rfl) rfl rfl ?_
      refine xV rfl rfl rfl (v_pick_true rfl rfl) ?_
      refine rl_nil (g_le (xK (xS rfl (xS rfl (xS rfl (xS rfl (xS rfl (xS rfl (xS rfl (xS rfl (xS rfl (xS rfl (Fr.le_refl _)))))))))))) ?_)
      refine g_cond_true rfl ?_
      refine g_seq ?_
      refine g_region ?_
      refine xV rfl rfl rfl (v_assign rfl) ?_
      refine rl_nil (g_le (xK (Fr.le_refl _)) ?_)
      refine g_ret1 Try.func44 rfl rfl ?_
      rw [if_pos (by omega)]
      exact ⟨rfl, hw.xQ⟩
  · try with_reducible exact tf_elim g1_4
    all_goals
      try replace g1_4 := of_decide_eq_false g1_4
      refine rl_vg (met_on rfl rfl rfl rfl) rfl rfl (S := fun _ => True) trivial (v_fieldAddr0 T.fld_48_1_1 rfl) ?_
      refine rl_vg (met_on rfl rfl rfl rfl) rfl rfl (by exact sat_cell hw (by (repeat first | with_reducible exact xH | apply xT); first | done | fail) rfl) (v_load T.scal_45 rfl) ?_
      refine rl_vg (met_on rfl rfl rfl rfl) rfl rfl (S := fun _ => True) trivial (v_lenSlice T.sl_45_126_2 rfl) ?_
      refine rl_vg (met_on rfl rfl rfl rfl) rfl rfl (S := fun _ => True) trivial (v_gtr rfl rfl) ?_
      refine xV rfl rfl rfl (v_pick_false rfl rfl) ?_
      refine rl_nil (g_le (xK (xS rfl (xS rfl (xS rfl (xS rfl (xS rfl (xS rfl (xS rfl (xS rfl (xS rfl (xS rfl (Fr.le_refl _)))))))))))) ?_)
      refine g_cond rfl (fun h1 => ?_) (fun h1 => ?_)
      · try with_reducible exact ft_elim h1
        all_goals
          try replace h1 := of_decide_eq_true h1
          refine g_seq ?_
          refine g_region ?_
          refine xV rfl rfl rfl (v_assign rfl) ?_
          refine rl_nil (g_le (xK (Fr.le_refl _)) ?_)
          refine g_ret1 Try.func44 rfl rfl ?_
          rw [if_pos (by omega)]
          exact ⟨rfl, hw.xQ⟩
      · try with_reducible exact tf_elim h1
        all_goals
          try replace h1 := of_decide_eq_false h1
          rw [if_neg (by omega)]
          refine g_skip (g_seq (g_seq ?_))
          refine g_region ?_
          refine xV rfl rfl rfl (v_fieldAddr0 T.fld_48_1_1 rfl) ?_
          refine rl_v rfl rfl rfl (by exact sat_cell hw (by (repeat first | with_reducible exact xH | apply xT); first | done | fail) rfl) (v_load T.scal_45 rfl) ?_
          refine xV rfl rfl rfl (v_lenSlice T.sl_45_126_2 rfl) ?_
          refine xV rfl rfl rfl (v_move rfl) ?_
          refine rl_nil (g_le (xK (xK (xK (xS rfl (Fr.le_refl _))))) ?_)
          refine g_block ?_
          refine g_loopC (σ := Nat) (fun C x => (21, .int .i64 (x : Nat)) :: C) [(2, _), (3, _), (4, _), (19, _), (20, _)] (by repeat (first | exact Fr.le_nil _ | refine Fr.le_cons rfl ?_)) (fun z w => z ≤ x.entries.length ∧ entsBad q none x.entries = entsBad q (if z = 0 then none else (x.entries[z - 1]?).map (·.name)) (x.entries.drop z) ∧ Sat E w (QtAt bk0_0 q :: pt bk0_1 (.cells [Value.bool x.leaf, .slice ea x.entries.length ec, .slice ka x.kids.length kc].toArray 48 (0, 0)) :: RO g :: L)) (fun z => x.entries.length - z) ?_ 0 (by repeat (first | exact Fr.le_nil _ | refine Fr.le_cons rfl ?_)) ⟨by simp, by simp, hw.xQ⟩
          rintro i w ⟨hi1, heq, hw⟩ ih
          refine g_seq ?_
          refine g_region ?_
          refine xV rfl rfl rfl (v_lss rfl rfl) ?_
          refine rl_nil (g_le (xK (Fr.le_refl _)) ?_)
          refine g_seq ?_
          refine g_cond rfl (fun h2 => ?_) (fun h2 => ?_)
          · try with_reducible exact ft_elim h2
            all_goals
              try replace h2 := of_decide_eq_true h2
              refine g_skip (g_seq (g_block (g_seq ?_)))
              have hz := hw
              clear hw
              obtain ⟨b4, o1, e, ecs, rfl, he, hat1, hl1, hrde⟩ := ge (i : Nat) (by omega) (by omega)
              rw [Int.toNat_natCast] at he hat1
              obtain ⟨va, vn, vc, rfl, hrde⟩ := en_told hrde
              obtain ⟨he1, he2⟩ := List.getElem?_eq_some_iff.1 he
              rw [List.drop_eq_getElem_cons he1, he2] at heq
              simp only [entsBad] at heq
              have hw := hz
              refine g_region ?_
              refine xV rfl rfl rfl (v_move rfl) ?_
              refine xV rfl rfl rfl (v_indexAddr T.sl_45_126_2 rfl rfl (by omega) (by omega)) ?_
              refine rl_v rfl rfl rfl (by exact ro_ats hw (by (repeat first | with_reducible exact xH | apply xT); first | done | fail) (by assumption)) (v_loadAgg (vs := [_, _]) T.agg_126_2 rfl rfl) ?_
              refine rl_k rfl (k_alloc hw T.zero_126 rfl rfl (fun bk5_3 w hw => ?_))
              refine xV rfl rfl rfl (v_assign rfl) ?_
              refine rl_k rfl (k_storeWhole hw T.agg_126_2 rfl rfl (by simp [Value.oneCell']) rfl (by (repeat first | with_reducible exact xH | apply xT); first | done | fail) rfl (fun w hw => ?_))
              refine rl_nil (g_le (xK (xK (xK (xK (xK (Fr.le_refl _)))))) ?_)
              refine g_seq (g_seq ?_)
              refine g_region ?_
              refine rl_v rfl rfl rfl (by exact sat_cells hw (by (repeat first | with_reducible exact xH | apply xT); first | done | fail) ⟨rfl, rfl, rfl, rfl, rfl, rfl, rfl, trivial⟩) (v_loadAgg (vs := [_, _, _, _, _, _, _]) T.agg_23_7 rfl rfl) ?_
              refine rl_v rfl rfl rfl (by exact sat_cells hw (by (repeat first | with_reducible exact xH | apply xT); first | done | fail) ⟨rfl, rfl, trivial⟩) (v_loadAgg (vs := [_, _]) T.agg_126_2 rfl rfl) ?_
              refine rl_k rfl (k_callf Try.func61 rfl rfl rfl rfl ?_)
              refine Calls.mono (rightE_calls q hrde (hw.xQ)) ?_
              rintro _ w ⟨rfl, hw⟩
              refine ⟨_, rfl, ?_⟩
              refine xV rfl rfl rfl (v_assign rfl) ?_
              refine rl_nil (g_le (xK (xK (xK (xK (Fr.le_refl _))))) ?_)
              refine g_seq ?_
              refine g_region ?_
              refine xV rfl rfl rfl (v_move rfl) ?_
              refine xV rfl rfl rfl (v_neq rfl rfl) ?_
              refine rl_nil (g_le (xK (xK (Fr.le_refl _))) ?_)
              refine g_cond rfl (fun h3 => ?_) (fun h3 => ?_)
              · try with_reducible exact ft_elim h3
                all_goals
                  try replace h3 := of_decide_eq_true h3
                  refine g_seq ?_
                  refine g_region ?_
                  refine xV rfl rfl rfl (v_move rfl) ?_
                  refine xV rfl rfl rfl (v_assign rfl) ?_
                  refine rl_nil (g_le (xK (xK (Fr.le_refl _))) ?_)
                  refine g_ret1 Try.func44 rfl rfl ?_
                  rw [if_pos h3] at heq
                  rw [heq]
                  exact ⟨rfl, hw.xQ⟩
              · try with_reducible exact tf_elim h3
                all_goals
                  try replace h3 := of_decide_eq_false h3
                  rw [if_neg h3] at heq
                  refine g_skip (g_seq ?_)
                  refine g_drawR ord_f44_r9_E05 (by kernel_rfl) T.mixed hw (fun w hw => ?_)
                  refine rs_kv 0 rfl rfl rfl rfl (S' := fun _ => True) trivial (v_move rfl) ?_
                  refine rs_kv 1 rfl rfl rfl rfl (S' := fun _ => True) trivial (v_gtr rfl rfl) ?_
                  refine rs_kv 2 rfl rfl rfl rfl (S' := fun _ => True) trivial (v_move rfl) ?_
                  refine rs_split (s := 34) rfl (fun g9_2 => ?_) (fun g9_2 => ?_)
                  · try with_reducible exact ft_elim g9_2
                    all_goals
                      try replace g9_2 := of_decide_eq_true g9_2
                      obtain ⟨b7, o7, e7, ecs7, hz8, he7, hat7, hl7, hrd7⟩ := ge ((i : Int) - 1) (by omega) (by omega)
                      simp only [Option.some.injEq, Addr.mk.injEq, and_true] at hz8
                      obtain ⟨rfl, rfl⟩ := hz8
                      obtain ⟨va7, vn7, vc7, rfl, hrd7⟩ := en_told hrd7
                      rw [show ((i : Int) - 1).toNat = i - 1 by omega] at he7
                      rw [if_neg (show ¬ i = 0 by omega), he7] at heq
                      simp only [Option.map_some] at heq
                      refine rs_ag 3 rfl (met_on rfl rfl rfl rfl) rfl rfl (v_fieldAddr0 T.fld_126_0_0 rfl) ?_
                      refine rs_ag 5 rfl (met_on rfl rfl rfl rfl) rfl rfl (v_fieldAddr0 T.fld_48_1_1 rfl) ?_
                      refine rs_ag 7 rfl (met_on rfl rfl rfl rfl) rfl rfl (v_move rfl) ?_
                      refine rs_ag 8 rfl (met_on rfl rfl rfl rfl) rfl rfl (v_sub rfl rfl (by omega)) ?_
                      refine rs_vg 4 rfl (met_on rfl rfl rfl rfl) rfl rfl (OpV.mono (v_load T.scal_9 rfl) (fun w hw => by exact sat_cell hw (by (repeat first | with_reducible exact xH | apply xT); first | done | fail) rfl)) (by exact hw) ?_
                      refine rs_kvg 6 rfl (met_on rfl rfl rfl rfl) rfl rfl (by exact sat_cell hw (by (repeat first | with_reducible exact xH | apply xT); first | done | fail) rfl) (v_load T.scal_45 rfl) ?_
                      refine rs_kvg 9 rfl (met_on rfl rfl rfl rfl) rfl rfl (S' := fun _ => True) trivial (v_indexAddr T.sl_45_126_2 rfl rfl (by omega) (by omega)) ?_
                      refine rs_kvg 10 rfl (met_on rfl rfl rfl rfl) rfl rfl (S' := fun _ => True) trivial (v_fieldAddr T.fld_126_0_0 rfl) ?_
                      refine rs_kvg 11 rfl (met_on rfl rfl rfl rfl) rfl rfl (by exact ro_at0 hw (by (repeat first | with_reducible exact xH | apply xT); first | done | fail) (by assumption) rfl) (v_load T.scal_9 rfl) ?_
                      refine rs_kvg 12 rfl (met_on rfl rfl rfl rfl) rfl rfl (S' := fun _ => True) trivial (v_leqStr rfl rfl) ?_
                      refine rs_kv 13 rfl rfl rfl rfl (S' := fun _ => True) trivial (v_pick_true rfl rfl) ?_
                      refine rs_done (g_le (xK (xK (xK (xK (xK (xK (xK (xK (xK (xK (xK (xK (xK (xK (xK (Fr.le_refl _)))))))))))))))) ?_)
                      refine g_cond rfl (fun h4 => ?_) (fun h4 => ?_)
                      · try with_reducible exact ft_elim h4
                        all_goals
                          try replace h4 := of_decide_eq_true h4
                          refine g_seq ?_
                          refine g_region ?_
                          refine xV rfl rfl rfl (v_assign rfl) ?_
                          refine rl_nil (g_le (xK (Fr.le_refl _)) ?_)
                          refine g_ret1 Try.func44 rfl rfl ?_
                          rw [if_pos h4] at heq
                          rw [heq]
                          exact ⟨rfl, hw.xQ⟩
                      · try with_reducible exact tf_elim h4
                        all_goals
                          try replace h4 := of_decide_eq_false h4
                          refine g_skip (g_inBlock ?_)
                          refine g_region ?_
                          refine xV rfl rfl rfl (v_add rfl rfl (by omega)) ?_
                          refine xV rfl rfl rfl (v_move rfl) ?_
                          refine rl_nil (g_le (xK (xK (Fr.le_refl _))) ?_)
                          rw [if_neg (by simp [h4])] at heq
                          exact g_le (by repeat (first | exact Fr.le_nil _ | refine Fr.le_cons rfl ?_)) (ih (i + 1) w ⟨by omega, by rw [if_neg (by omega), Nat.add_sub_cancel, he]; exact heq, hw.xQ⟩ (by omega))
                  · try with_reducible exact tf_elim g9_2
                    all_goals
                      try replace g9_2 := of_decide_eq_false g9_2
                      obtain rfl : i = 0 := by omega
                      simp only [if_true] at heq
                      refine rs_aoff 3 rfl (met_off rfl rfl rfl rfl rfl) rfl rfl ?_
                      refine rs_aoff 5 rfl (met_off rfl rfl rfl rfl rfl) rfl rfl ?_
                      refine rs_aoff 7 rfl (met_off rfl rfl rfl rfl rfl) rfl rfl ?_
                      refine rs_aoff 8 rfl (met_off rfl rfl rfl rfl rfl) rfl rfl ?_
                      refine rs_voff 4 rfl (met_off rfl rfl rfl rfl rfl) rfl rfl (by exact hw) ?_
                      refine rs_koff 6 rfl (met_off rfl rfl rfl rfl rfl) rfl rfl ?_
                      refine rs_koff 9 rfl (met_off rfl rfl rfl rfl rfl) rfl rfl ?_
                      refine rs_koff 10 rfl (met_off rfl rfl rfl rfl rfl) rfl rfl ?_
                      refine rs_koff 11 rfl (met_off rfl rfl rfl rfl rfl) rfl rfl ?_
                      refine rs_koff 12 rfl (met_off rfl rfl rfl rfl rfl) rfl rfl ?_
                      refine rs_kv 13 rfl rfl rfl rfl (S' := fun _ => True) trivial (v_pick_false rfl rfl) ?_
                      refine rs_done (g_le (xK (xK (xK (xK (xK (xK (xK (xK (xK (xK (xK (xK (xK (xK (xK (Fr.le_refl _)))))))))))))))) ?_)
                      refine g_cond_false rfl ?_
                      refine g_skip (g_inBlock ?_)
                      refine g_region ?_
                      refine xV rfl rfl rfl (v_add rfl rfl (by omega)) ?_
                      refine xV rfl rfl rfl (v_move rfl) ?_
                      refine rl_nil (g_le (xK (xK (Fr.le_refl _))) ?_)
                      rw [if_neg (by simp)] at heq
                      exact g_le (by repeat (first | exact Fr.le_nil _ | refine Fr.le_cons rfl ?_)) (ih (0 + 1) w ⟨by omega, by rw [if_neg (by omega), Nat.add_sub_cancel, he]; exact heq, hw.xQ⟩ (by omega))
          · try with_reducible exact tf_elim h2
            all_goals
              try replace h2 := of_decide_eq_false h2
              refine g_exit rfl (g_seq ?_)
              refine g_region ?_
              refine xV rfl rfl rfl (v_assign rfl) ?_
              refine rl_nil (g_le (xK (Fr.le_refl _)) ?_)
              refine g_ret1 Try.func44 rfl rfl ?_
              rw [List.drop_eq_nil_of_le (by omega)] at heq
              refine ⟨?_, hw.xQ⟩
              rw [heq]
              rfl
theorem ord_f26_r16_E05 : orderOfB Try.f26 16 [] (.k 0 (.k 1 (.k 2 (.a 3 (.a 5 (.a 7 (.a 8 (.v 4 (.k 6 (.k 9 (.k 10 (.k 11 (.k 12 (.k 13 (.k 14 .done))))))))))))))) = true := by kernel_rfl
set_option maxHeartbeats 2000000 in
theorem rightN_calls {E : Env} {w : World} {L : List As} {g : Hp} {ncs : List Value} {x : Nd} (q : Qt) (hn : rdNd g ncs x) (hw : Sat E w (RO g :: L)) :
    Calls Try.prog 26 #[q.v, .agg ncs.toArray] w fun v w' => v = .returned (.int .i64 (rightN q x)) ∧ Sat E w' (RO g :: L) := by
  obtain ⟨ea, en, ec, ka, kn, kc, rfl, hnd⟩ := nd_told hn
  obtain ⟨n0, n1, n2, hq9, _, hqe, hqk⟩ := id hnd
  simp only [List.cons.injEq, and_true] at hq9
  obtain ⟨_, rfl, rfl⟩ := hq9
  obtain ⟨rfl, heb, _, hem, ge⟩ := rdSl_get hqe
  obtain ⟨rfl, hkb, _, hkm, gk⟩ := rdSl_get hqk
  simp only [maxLen] at hem hkm
  have hrq := right_iff q
  unfold rightN
  refine calls_of_g (n := 71) Try.func26 rfl rfl rfl ?_
  change G _ _ _ _ _ [(0, _), (1, _)] _
  refine g_seq ?_
  refine g_region ?_
  refine rl_k rfl (k_box hw rfl rfl rfl (fun bk0_0 w hw => ?_))
  refine rl_k rfl (k_box hw rfl rfl rfl (fun bk0_1 w hw => ?_))
  refine xV rfl rfl rfl (v_assign rfl) ?_
  refine rl_nil (g_le (xK (xK (xK (Fr.le_refl _)))) ?_)
  refine g_seq (g_seq ?_)
  refine g_region ?_
  refine rl_v rfl rfl rfl (by exact sat_cells hw (by (repeat first | with_reducible exact xH | apply xT); first | done | fail) ⟨rfl, rfl, rfl, rfl, rfl, rfl, rfl, trivial⟩) (v_loadAgg (vs := [_, _, _, _, _, _, _]) T.agg_23_7 rfl rfl) ?_
  refine rl_k rfl (k_callf Try.func42 rfl rfl rfl rfl ?_)
  refine Calls.mono (right_calls q (hw.xQ)) ?_
  rintro _ w ⟨rfl, hw⟩
  refine ⟨_, rfl, ?_⟩
  refine xV rfl rfl rfl (v_neq rfl rfl) ?_
  refine rl_nil (g_le (xK (xS rfl (xS rfl (Fr.le_refl _)))) ?_)
  refine g_cond rfl (fun h1 => ?_) (fun h1 => ?_)
  · try with_reducible exact ft_elim h1
    all_goals
      try replace h1 := of_decide_eq_true h1
      refine g_seq ?_
      refine g_region ?_
      refine xV rfl rfl rfl (v_assign rfl) ?_
      refine rl_nil (g_le (xK (Fr.le_refl _)) ?_)
      refine g_ret1 Try.func26 rfl rfl ?_
      rw [if_pos (hrq.1 h1)]
      exact ⟨rfl, hw.xQ⟩
  · try with_reducible exact tf_elim h1
    all_goals
      try replace h1 := of_decide_eq_false h1
      have hq : q.ok := by rw [hrq] at h1; exact Classical.not_not.1 h1
      obtain ⟨_, hq2, _⟩ := id hq
      rw [if_neg (by simpa using hq)]
      refine g_skip (g_seq (g_seq ?_))
      refine g_region ?_
      refine xV rfl rfl rfl (v_fieldAddr0 T.fld_48_0_0 rfl) ?_
      refine rl_v rfl rfl rfl (by exact sat_cell hw (by (repeat first | with_reducible exact xH | apply xT); first | done | fail) rfl) (v_load T.scal_4 rfl) ?_
      refine rl_nil (g_le (xK (xS rfl (Fr.le_refl _))) ?_)
      refine g_cond rfl (fun h2 => ?_) (fun h2 => ?_)
      · try with_reducible exact ft_elim h2
        all_goals
          try replace h2 := of_decide_eq_true h2
          refine g_seq ?_
          refine g_region ?_
          refine rl_v rfl rfl rfl (by exact sat_cells hw (by (repeat first | with_reducible exact xH | apply xT); first | done | fail) ⟨rfl, rfl, rfl, rfl, rfl, rfl, rfl, trivial⟩) (v_loadAgg (vs := [_, _, _, _, _, _, _]) T.agg_23_7 rfl rfl) ?_
          refine rl_v rfl rfl rfl (by exact sat_cells hw (by (repeat first | with_reducible exact xH | apply xT); first | done | fail) ⟨rfl, rfl, rfl, trivial⟩) (v_loadAgg (vs := [_, _, _]) T.agg_48_3 rfl rfl) ?_
          refine rl_k rfl (k_callf Try.func44 rfl rfl rfl rfl ?_)
          refine Calls.mono (leafRight_calls q hnd (hw.xQ)) ?_
          rintro _ w ⟨rfl, hw⟩
          refine ⟨_, rfl, ?_⟩
          refine xV rfl rfl rfl (v_assign rfl) ?_
          refine rl_nil (g_le (xK (xS rfl (xS rfl (xS rfl (Fr.le_refl _))))) ?_)
          refine g_ret1 Try.func26 rfl rfl ?_
          rw [if_pos h2]
          exact ⟨rfl, hw.xQ⟩
      · try with_reducible exact tf_elim h2
        all_goals
          try replace h2 := of_decide_eq_false h2
          rw [if_neg (by simp [h2])]
          refine g_skip (g_seq (g_seq ?_))
          refine g_region ?_
          refine xV rfl rfl rfl (v_fieldAddr0 T.fld_48_1_1 rfl) ?_
          refine rl_v rfl rfl rfl (by exact sat_cell hw (by (repeat first | with_reducible exact xH | apply xT); first | done | fail) rfl) (v_load T.scal_45 rfl) ?_
          refine xV rfl rfl rfl (v_lenSlice T.sl_45_126_2 rfl) ?_
          refine xV rfl rfl rfl (v_gtr rfl rfl) ?_
          refine xV rfl rfl rfl (v_move rfl) ?_
          refine rl_split (s := 19) rfl (fun g5_4 => ?_) (fun g5_4 => ?_)
          · try with_reducible exact ft_elim g5_4
            all_goals
              try replace g5_4 := of_decide_eq_true g5_4
              refine rl_off (met_off rfl rfl rfl rfl rfl) rfl rfl ?_
              refine rl_off (met_off rfl rfl rfl rfl rfl) rfl rfl ?_
              refine rl_off (met_off rfl rfl rfl rfl rfl) rfl rfl ?_
              refine rl_off (met_off rfl rfl rfl rfl rfl) rfl rfl ?_
              refine xV rfl rfl rfl (v_pick_true rfl rfl) ?_
              refine xV rfl rfl rfl (v_move rfl) ?_
              refine rl_off (met_off rfl rfl rfl rfl rfl) rfl rfl ?_
              refine rl_off (met_off rfl rfl rfl rfl rfl) rfl rfl ?_
              refine rl_off (met_off rfl rfl rfl rfl rfl) rfl rfl ?_
              refine rl_off (met_off rfl rfl rfl rfl rfl) rfl rfl ?_
              refine xV rfl rfl rfl (v_pick_true rfl rfl) ?_
              refine rl_nil (g_le (xK (xS rfl (xS rfl (xS rfl (xS rfl (xS rfl (xS rfl (xS rfl (xS rfl (xS rfl (xS rfl (xS rfl (xS rfl (xS rfl (xS rfl (xS rfl (xS rfl (Fr.le_refl _)))))))))))))))))) ?_)
              refine g_cond_true rfl ?_
              refine g_seq ?_
              refine g_region ?_
              refine xV rfl rfl rfl (v_assign rfl) ?_
              refine rl_nil (g_le (xK (Fr.le_refl _)) ?_)
              refine g_ret1 Try.func26 rfl rfl ?_
              rw [if_pos (by omega)]
              exact ⟨rfl, hw.xQ⟩
          · try with_reducible exact tf_elim g5_4
            all_goals
              try replace g5_4 := of_decide_eq_false g5_4
              refine rl_vg (met_on rfl rfl rfl rfl) rfl rfl (S := fun _ => True) trivial (v_fieldAddr0 T.fld_48_2_2 rfl) ?_
              refine rl_vg (met_on rfl rfl rfl rfl) rfl rfl (by exact sat_cell hw (by (repeat first | with_reducible exact xH | apply xT); first | done | fail) rfl) (v_load T.scal_46 rfl) ?_
              refine rl_vg (met_on rfl rfl rfl rfl) rfl rfl (S := fun _ => True) trivial (v_lenSlice T.sl_46_101_5 rfl) ?_
              refine rl_vg (met_on rfl rfl rfl rfl) rfl rfl (S := fun _ => True) trivial (v_lss rfl rfl) ?_
              refine xV rfl rfl rfl (v_pick_false rfl rfl) ?_
              refine xV rfl rfl rfl (v_move rfl) ?_
              refine rl_split (s := 25) rfl (fun g5_10 => ?_) (fun g5_10 => ?_)
              · try with_reducible exact ft_elim g5_10
                all_goals
                  try replace g5_10 := of_decide_eq_true g5_10
                  refine rl_off (met_off rfl rfl rfl rfl rfl) rfl rfl ?_
                  refine rl_off (met_off rfl rfl rfl rfl rfl) rfl rfl ?_
                  refine rl_off (met_off rfl rfl rfl rfl rfl) rfl rfl ?_
                  refine rl_off (met_off rfl rfl rfl rfl rfl) rfl rfl ?_
                  refine xV rfl rfl rfl (v_pick_true rfl rfl) ?_
                  refine rl_nil (g_le (xK (xS rfl (xS rfl (xS rfl (xS rfl (xS rfl (xS rfl (xS rfl (xS rfl (xS rfl (xS rfl (xS rfl (xS rfl (xS rfl (xS rfl (xS rfl (xS rfl (xS rfl (Fr.le_refl _))))))))))))))))))) ?_)
                  refine g_cond_true rfl ?_
                  refine g_seq ?_
                  refine g_region ?_
                  refine xV rfl rfl rfl (v_assign rfl) ?_
                  refine rl_nil (g_le (xK (Fr.le_refl _)) ?_)
                  refine g_ret1 Try.func26 rfl rfl ?_
                  rw [if_pos (by omega)]
                  exact ⟨rfl, hw.xQ⟩
              · try with_reducible exact tf_elim g5_10
                all_goals
                  try replace g5_10 := of_decide_eq_false g5_10
                  refine rl_vg (met_on rfl rfl rfl rfl) rfl rfl (S := fun _ => True) trivial (v_fieldAddr0 T.fld_48_2_2 rfl) ?_
                  refine rl_vg (met_on rfl rfl rfl rfl) rfl rfl (by exact sat_cell hw (by (repeat first | with_reducible exact xH | apply xT); first | done | fail) rfl) (v_load T.scal_46 rfl) ?_
                  refine rl_vg (met_on rfl rfl rfl rfl) rfl rfl (S := fun _ => True) trivial (v_lenSlice T.sl_46_101_5 rfl) ?_
                  refine rl_vg (met_on rfl rfl rfl rfl) rfl rfl (S := fun _ => True) trivial (v_gtr rfl rfl) ?_
                  refine xV rfl rfl rfl (v_pick_false rfl rfl) ?_
                  refine rl_nil (g_le (xK (xS rfl (xS rfl (xS rfl (xS rfl (xS rfl (xS rfl (xS rfl (xS rfl (xS rfl (xS rfl (xS rfl (xS rfl (xS rfl (xS rfl (xS rfl (xS rfl (xS rfl (Fr.le_refl _))))))))))))))))))) ?_)
                  refine g_cond rfl (fun h3 => ?_) (fun h3 => ?_)
                  · try with_reducible exact ft_elim h3
                    all_goals
                      try replace h3 := of_decide_eq_true h3
                      refine g_seq ?_
                      refine g_region ?_
                      refine xV rfl rfl rfl (v_assign rfl) ?_
                      refine rl_nil (g_le (xK (Fr.le_refl _)) ?_)
                      refine g_ret1 Try.func26 rfl rfl ?_
                      rw [if_pos (by omega)]
                      exact ⟨rfl, hw.xQ⟩
                  · try with_reducible exact tf_elim h3
                    all_goals
                      try replace h3 := of_decide_eq_false h3
                      rw [if_neg (by omega)]
                      refine g_skip (g_seq (g_seq ?_))
                      refine g_region ?_
                      refine xV rfl rfl rfl (v_fieldAddr0 T.fld_48_2_2 rfl) ?_
                      refine rl_v rfl rfl rfl (by exact sat_cell hw (by (repeat first | with_reducible exact xH | apply xT); first | done | fail) rfl) (v_load T.scal_46 rfl) ?_
                      refine xV rfl rfl rfl (v_lenSlice T.sl_46_101_5 rfl) ?_
                      refine xV rfl rfl rfl (v_move rfl) ?_
                      refine rl_nil (g_le (xK (xK (xK (xS rfl (Fr.le_refl _))))) ?_)
                      refine g_block ?_
                      refine g_loopC (σ := Nat) (fun C x => (34, .int .i64 (x : Nat)) :: C) [(2, _), (3, _), (4, _), (32, _), (33, _)] (by repeat (first | exact Fr.le_nil _ | refine Fr.le_cons rfl ?_)) (fun z w => z ≤ x.kids.length ∧ kidsBad q none x.kids = kidsBad q (if z = 0 then none else (x.kids[z - 1]?).map (·.low)) (x.kids.drop z) ∧ Sat E w (QtAt bk0_0 q :: pt bk0_1 (.cells [Value.bool x.leaf, .slice ea x.entries.length ec, .slice ka x.kids.length kc].toArray 48 (0, 0)) :: RO g :: L)) (fun z => x.kids.length - z) ?_ 0 (by repeat (first | exact Fr.le_nil _ | refine Fr.le_cons rfl ?_)) ⟨by simp, by simp, hw.xQ⟩
                      rintro i w ⟨hi1, heq, hw⟩ ih
                      refine g_seq ?_
                      refine g_region ?_
                      refine xV rfl rfl rfl (v_lss rfl rfl) ?_
                      refine rl_nil (g_le (xK (Fr.le_refl _)) ?_)
                      refine g_seq ?_
                      refine g_cond rfl (fun h4 => ?_) (fun h4 => ?_)
                      · try with_reducible exact ft_elim h4
                        all_goals
                          try replace h4 := of_decide_eq_true h4
                          refine g_skip (g_seq (g_block (g_seq ?_)))
                          have hz := hw
                          clear hw
                          obtain ⟨b4, o1, k, kcs, rfl, hk, hat1, hl1, rfl, hkok⟩ := gk (i : Nat) (by omega) (by omega)
                          rw [Int.toNat_natCast] at hk hat1
                          obtain ⟨hk1, hk2⟩ := List.getElem?_eq_some_iff.1 hk
                          have hks := hkok.1
                          simp only [reachBytes] at hks
                          rw [List.drop_eq_getElem_cons hk1, hk2] at heq
                          simp only [kidsBad] at heq
                          have hw := hz
                          refine g_region ?_
                          refine xV rfl rfl rfl (v_move rfl) ?_
                          refine xV rfl rfl rfl (v_indexAddr T.sl_46_101_5 rfl rfl (by omega) (by omega)) ?_
                          refine rl_v rfl rfl rfl (by exact ro_ats hw (by (repeat first | with_reducible exact xH | apply xT); first | done | fail) (by assumption)) (v_loadAgg (vs := [_, _, _, _, _]) T.agg_101_5 rfl rfl) ?_
                          refine rl_k rfl (k_alloc hw T.zero_101 rfl rfl (fun bk9_3 w hw => ?_))
                          refine xV rfl rfl rfl (v_assign rfl) ?_
                          refine rl_k rfl (k_storeWhole hw T.agg_101_5 rfl rfl (by simp [Value.oneCell']) rfl (by (repeat first | with_reducible exact xH | apply xT); first | done | fail) rfl (fun w hw => ?_))
                          refine rl_nil (g_le (xK (xK (xK (xK (xK (Fr.le_refl _)))))) ?_)
                          refine g_block (g_seq ?_)
                          refine g_region ?_
                          refine xV rfl rfl rfl (v_fieldAddr0 T.fld_101_0_0 rfl) ?_
                          refine rl_v rfl rfl rfl (by exact sat_cell hw (by (repeat first | with_reducible exact xH | apply xT); first | done | fail) rfl) (v_load T.scal_9 rfl) ?_
                          refine xV rfl rfl rfl (v_eqlStr rfl rfl) ?_
                          refine xV rfl rfl rfl (v_assign rfl) ?_
                          refine rl_nil (g_le (xK (xK (xK (xK (Fr.le_refl _))))) ?_)
                          refine g_cond rfl (fun h5 => ?_) (fun h5 => ?_)
                          · try with_reducible exact ft_elim h5
                            all_goals
                              try replace h5 := of_decide_eq_true h5
                              refine g_seq ?_
                              refine g_region ?_
                              refine xV rfl rfl rfl (v_assign rfl) ?_
                              refine rl_nil (g_le (xK (Fr.le_refl _)) ?_)
                              refine g_ret1 Try.func26 rfl rfl ?_
                              rw [if_pos (show k.low = ByteArray.empty from h5)] at heq
                              rw [heq]
                              exact ⟨rfl, hw.xQ⟩
                          · try with_reducible exact tf_elim h5
                            all_goals
                              try replace h5 := of_decide_eq_false h5
                              rw [if_neg (show ¬ k.low = ByteArray.empty from h5)] at heq
                              refine g_seq ?_
                              refine g_region ?_
                              refine xV rfl rfl rfl (v_fieldAddr0 T.fld_101_0_0 rfl) ?_
                              refine rl_v rfl rfl rfl (by exact sat_cell hw (by (repeat first | with_reducible exact xH | apply xT); first | done | fail) rfl) (v_load T.scal_9 rfl) ?_
                              refine xV rfl rfl rfl (v_lenStr T.str_9 rfl) ?_
                              refine xV rfl rfl rfl (v_fieldAddr0 T.fld_23_1_1 rfl) ?_
                              refine rl_v rfl rfl rfl (by exact sat_cell hw (by (repeat first | with_reducible exact xH | apply xT); first | done | fail) rfl) (v_load T.scal_3 rfl) ?_
                              refine xV rfl rfl rfl (v_gtr rfl rfl) ?_
                              refine xV rfl rfl rfl (v_assign rfl) ?_
                              refine rl_nil (g_le (xK (xK (xK (xK (xK (xK (xK (Fr.le_refl _)))))))) ?_)
                              refine g_cond rfl (fun h6 => ?_) (fun h6 => ?_)
                              · try with_reducible exact ft_elim h6
                                all_goals
                                  try replace h6 := of_decide_eq_true h6
                                  refine g_seq ?_
                                  refine g_region ?_
                                  refine xV rfl rfl rfl (v_assign rfl) ?_
                                  refine rl_nil (g_le (xK (Fr.le_refl _)) ?_)
                                  refine g_ret1 Try.func26 rfl rfl ?_
                                  rw [if_pos (by omega)] at heq
                                  rw [heq]
                                  exact ⟨rfl, hw.xQ⟩
                              · try with_reducible exact tf_elim h6
                                all_goals
                                  try replace h6 := of_decide_eq_false h6
                                  rw [if_neg (show ¬ q.nm < k.low.size by omega)] at heq
                                  refine g_seq ?_
                                  refine g_region ?_
                                  refine xV rfl rfl rfl (v_fieldAddr0 T.fld_101_1_1 rfl) ?_
                                  refine rl_v rfl rfl rfl (by exact sat_cells hw (by (repeat first | with_reducible exact xH | apply xT); first | done | fail) ⟨rfl, rfl, rfl, rfl, trivial⟩) (v_loadAgg (vs := [_, _, _, _]) T.agg_51_4 rfl rfl) ?_
                                  refine rl_k rfl (k_callf Try.func35 rfl rfl rfl rfl ?_)
                                  refine Calls.mono (refRight_calls k.ref (hw.xQ)) ?_
                                  rintro _ w ⟨rfl, hw⟩
                                  refine ⟨_, rfl, ?_⟩
                                  refine xV rfl rfl rfl (v_not rfl) ?_
                                  refine xV rfl rfl rfl (v_assign rfl) ?_
                                  refine rl_nil (g_le (xK (xK (xK (xK (xK (Fr.le_refl _)))))) ?_)
                                  refine g_cond rfl (fun h7 => ?_) (fun h7 => ?_)
                                  · try with_reducible exact ft_elim h7
                                    all_goals
                                      try replace h7 := of_decide_eq_true h7
                                      refine g_seq ?_
                                      refine g_region ?_
                                      refine xV rfl rfl rfl (v_assign rfl) ?_
                                      refine rl_nil (g_le (xK (Fr.le_refl _)) ?_)
                                      refine g_ret1 Try.func26 rfl rfl ?_
                                      rw [if_pos (show ¬ refR k.ref by simpa using h7)] at heq
                                      rw [heq]
                                      exact ⟨rfl, hw.xQ⟩
                                  · try with_reducible exact tf_elim h7
                                    all_goals
                                      try replace h7 := of_decide_eq_false h7
                                      rw [if_neg (show ¬ ¬ refR k.ref by simpa using h7)] at heq
                                      refine g_seq ?_
                                      refine g_drawR ord_f26_r16_E05 (by kernel_rfl) T.mixed hw (fun w hw => ?_)
                                      refine rs_kv 0 rfl rfl rfl rfl (S' := fun _ => True) trivial (v_move rfl) ?_
                                      refine rs_kv 1 rfl rfl rfl rfl (S' := fun _ => True) trivial (v_gtr rfl rfl) ?_
                                      refine rs_kv 2 rfl rfl rfl rfl (S' := fun _ => True) trivial (v_move rfl) ?_
                                      refine rs_split (s := 58) rfl (fun g16_2 => ?_) (fun g16_2 => ?_)
                                      · try with_reducible exact ft_elim g16_2
                                        all_goals
                                          try replace g16_2 := of_decide_eq_true g16_2
                                          obtain ⟨b7, o7, k7, ecs7, hz8, hk7, hat7, hl7, rfl, _⟩ := gk ((i : Int) - 1) (by omega) (by omega)
                                          simp only [Option.some.injEq, Addr.mk.injEq, and_true] at hz8
                                          obtain ⟨rfl, rfl⟩ := hz8
                                          rw [show ((i : Int) - 1).toNat = i - 1 by omega] at hk7
                                          rw [if_neg (show ¬ i = 0 by omega), hk7] at heq
                                          simp only [Option.map_some] at heq
                                          refine rs_ag 3 rfl (met_on rfl rfl rfl rfl) rfl rfl (v_fieldAddr0 T.fld_101_0_0 rfl) ?_
                                          refine rs_ag 5 rfl (met_on rfl rfl rfl rfl) rfl rfl (v_fieldAddr0 T.fld_48_2_2 rfl) ?_
                                          refine rs_ag 7 rfl (met_on rfl rfl rfl rfl) rfl rfl (v_move rfl) ?_
                                          refine rs_ag 8 rfl (met_on rfl rfl rfl rfl) rfl rfl (v_sub rfl rfl (by omega)) ?_
                                          refine rs_vg 4 rfl (met_on rfl rfl rfl rfl) rfl rfl (OpV.mono (v_load T.scal_9 rfl) (fun w hw => by exact sat_cell hw (by (repeat first | with_reducible exact xH | apply xT); first | done | fail) rfl)) (by exact hw) ?_
                                          refine rs_kvg 6 rfl (met_on rfl rfl rfl rfl) rfl rfl (by exact sat_cell hw (by (repeat first | with_reducible exact xH | apply xT); first | done | fail) rfl) (v_load T.scal_46 rfl) ?_
                                          refine rs_kvg 9 rfl (met_on rfl rfl rfl rfl) rfl rfl (S' := fun _ => True) trivial (v_indexAddr T.sl_46_101_5 rfl rfl (by omega) (by omega)) ?_
                                          refine rs_kvg 10 rfl (met_on rfl rfl rfl rfl) rfl rfl (S' := fun _ => True) trivial (v_fieldAddr T.fld_101_0_0 rfl) ?_
                                          refine rs_kvg 11 rfl (met_on rfl rfl rfl rfl) rfl rfl (by exact ro_at0 hw (by (repeat first | with_reducible exact xH | apply xT); first | done | fail) (by assumption) rfl) (v_load T.scal_9 rfl) ?_
                                          refine rs_kvg 12 rfl (met_on rfl rfl rfl rfl) rfl rfl (S' := fun _ => True) trivial (v_leqStr rfl rfl) ?_
                                          refine rs_kv 13 rfl rfl rfl rfl (S' := fun _ => True) trivial (v_pick_true rfl rfl) ?_
                                          refine rs_kv 14 rfl rfl rfl rfl (S' := fun _ => True) trivial (v_assign rfl) ?_
                                          refine rs_done (g_le (xK (xK (xK (xK (xK (xK (xK (xK (xK (xK (xK (xK (xK (xK (xK (xK (Fr.le_refl _))))))))))))))))) ?_)
                                          refine g_cond rfl (fun h8 => ?_) (fun h8 => ?_)
                                          · try with_reducible exact ft_elim h8
                                            all_goals
                                              try replace h8 := of_decide_eq_true h8
                                              refine g_seq ?_
                                              refine g_region ?_
                                              refine xV rfl rfl rfl (v_assign rfl) ?_
                                              refine rl_nil (g_le (xK (Fr.le_refl _)) ?_)
                                              refine g_ret1 Try.func26 rfl rfl ?_
                                              rw [if_pos h8] at heq
                                              rw [heq]
                                              exact ⟨rfl, hw.xQ⟩
                                          · try with_reducible exact tf_elim h8
                                            all_goals
                                              try replace h8 := of_decide_eq_false h8
                                              refine g_skip (g_inBlock (g_inBlock ?_))
                                              refine g_region ?_
                                              refine xV rfl rfl rfl (v_add rfl rfl (by omega)) ?_
                                              refine xV rfl rfl rfl (v_move rfl) ?_
                                              refine rl_nil (g_le (xK (xK (Fr.le_refl _))) ?_)
                                              rw [if_neg (by simp [h8])] at heq
                                              exact g_le (by repeat (first | exact Fr.le_nil _ | refine Fr.le_cons rfl ?_)) (ih (i + 1) w ⟨by omega, by rw [if_neg (by omega), Nat.add_sub_cancel, hk]; exact heq, hw.xQ⟩ (by omega))
                                      · try with_reducible exact tf_elim g16_2
                                        all_goals
                                          try replace g16_2 := of_decide_eq_false g16_2
                                          obtain rfl : i = 0 := by omega
                                          simp only [if_true] at heq
                                          refine rs_aoff 3 rfl (met_off rfl rfl rfl rfl rfl) rfl rfl ?_
                                          refine rs_aoff 5 rfl (met_off rfl rfl rfl rfl rfl) rfl rfl ?_
                                          refine rs_aoff 7 rfl (met_off rfl rfl rfl rfl rfl) rfl rfl ?_
                                          refine rs_aoff 8 rfl (met_off rfl rfl rfl rfl rfl) rfl rfl ?_
                                          refine rs_voff 4 rfl (met_off rfl rfl rfl rfl rfl) rfl rfl (by exact hw) ?_
                                          refine rs_koff 6 rfl (met_off rfl rfl rfl rfl rfl) rfl rfl ?_
                                          refine rs_koff 9 rfl (met_off rfl rfl rfl rfl rfl) rfl rfl ?_
                                          refine rs_koff 10 rfl (met_off rfl rfl rfl rfl rfl) rfl rfl ?_
                                          refine rs_koff 11 rfl (met_off rfl rfl rfl rfl rfl) rfl rfl ?_
                                          refine rs_koff 12 rfl (met_off rfl rfl rfl rfl rfl) rfl rfl ?_
                                          refine rs_kv 13 rfl rfl rfl rfl (S' := fun _ => True) trivial (v_pick_false rfl rfl) ?_
                                          refine rs_kv 14 rfl rfl rfl rfl (S' := fun _ => True) trivial (v_assign rfl) ?_
                                          refine rs_done (g_le (xK (xK (xK (xK (xK (xK (xK (xK (xK (xK (xK (xK (xK (xK (xK (xK (Fr.le_refl _))))))))))))))))) ?_)
                                          refine g_cond_false rfl ?_
                                          refine g_skip (g_inBlock (g_inBlock ?_))
                                          refine g_region ?_
                                          refine xV rfl rfl rfl (v_add rfl rfl (by omega)) ?_
                                          refine xV rfl rfl rfl (v_move rfl) ?_
                                          refine rl_nil (g_le (xK (xK (Fr.le_refl _))) ?_)
                                          rw [if_neg (by simp)] at heq
                                          exact g_le (by repeat (first | exact Fr.le_nil _ | refine Fr.le_cons rfl ?_)) (ih (0 + 1) w ⟨by omega, by rw [if_neg (by omega), Nat.add_sub_cancel, hk]; exact heq, hw.xQ⟩ (by omega))
                      · try with_reducible exact tf_elim h4
                        all_goals
                          try replace h4 := of_decide_eq_false h4
                          refine g_exit rfl (g_seq ?_)
                          refine g_region ?_
                          refine xV rfl rfl rfl (v_assign rfl) ?_
                          refine rl_nil (g_le (xK (Fr.le_refl _)) ?_)
                          refine g_ret1 Try.func26 rfl rfl ?_
                          rw [List.drop_eq_nil_of_le (by omega)] at heq
                          refine ⟨?_, hw.xQ⟩
                          rw [heq]
                          rfl
end Go.Proofs.Ytlgpdglnfjndhaa
