/-
  CachePlays: the cache answers as the document says.
-/
import Derived.Test.YtnkddbbcfolcdaaC15v
namespace Go.Proofs.Ytnkddbbcfolcdaa
set_option linter.unusedSimpArgs false
set_option linter.unusedVariables false
open Go Xe Go.Lib Go.RowKit Go.ChangeShapes Go.WideShapes Go.ChangeAt
theorem unpin_facts (s : Ch) (r : Rf) : (s.unpin r).2.l.length = s.l.length ∧ (s.unpin r).2.hits = s.hits ∧ (s.unpin r).2.misses = s.misses ∧ (s.unpin r).2.room = s.room := by
  unfold Ch.unpin Ch.repin; split
  · simp
  · split
    · split <;> simp
    · simp
set_option maxHeartbeats 4000000 in
theorem CachePlays_no {w : World} {room : Int} {a : Option Addr} {len cap : Nat} (hrm : ¬ (0 ≤ room ∧ room ≤ 32)) :
    Law Try.prog 7 [.int .i64 room, .slice a len cap] w := by
  unfold Law
  have hw := Sat.old w
  generalize w = W at hw ⊢
  refine calls_of_g (n := 179) Try.func7 rfl rfl rfl ?_
  change G _ _ _ _ _ [(0, _), (1, _)] _
  refine g_seq ?_
  refine g_region ?_
  refine rl_v rfl rfl rfl (S := fun _ => True) trivial (v_assign rfl) ?_
  refine rl_nil (g_le (Fr.le_keep (Fr.le_refl _)) ?_)
  refine g_seq ?_
  refine g_region ?_
  refine rl_v rfl rfl rfl (S := fun _ => True) trivial (v_move rfl) ?_
  refine rl_k rfl (k_callf Try.func8 rfl rfl rfl rfl ?_)
  refine Calls.mono (cnew_calls room hw) ?_
  rintro _ w ⟨_, hn⟩
  obtain ⟨rfl, hw⟩ := hn hrm
  refine ⟨_, rfl, ?_⟩
  refine rl_v rfl rfl rfl (S := fun _ => True) trivial (v_move rfl) ?_
  refine rl_v rfl rfl rfl (S := fun _ => True) trivial (v_extract rfl rfl) ?_
  refine rl_v rfl rfl rfl (S := fun _ => True) trivial (v_extract rfl rfl) ?_
  refine rl_v rfl rfl rfl (S := fun _ => True) trivial (v_assign rfl) ?_
  refine rl_v rfl rfl rfl (S := fun _ => True) trivial (v_assign rfl) ?_
  refine rl_nil (g_le (Fr.le_keep (Fr.le_keep (Fr.le_skip rfl (Fr.le_skip rfl (Fr.le_skip rfl (Fr.le_skip rfl (Fr.le_skip rfl (Fr.le_refl _)))))))) ?_)
  refine g_seq ?_
  refine g_region ?_
  refine rl_v rfl rfl rfl (S := fun _ => True) trivial (v_move rfl) ?_
  refine rl_k rfl (k_callf Try.func26 rfl rfl rfl rfl ?_)
  refine Calls.mono (rnew15_calls room hw) ?_
  rw [decide_eq_false hrm]
  rintro _ w ⟨q, rfl, hw⟩
  refine ⟨_, rfl, ?_⟩
  refine rl_v rfl rfl rfl (S := fun _ => True) trivial (v_move rfl) ?_
  refine rl_v rfl rfl rfl (S := fun _ => True) trivial (v_extract rfl rfl) ?_
  refine rl_v rfl rfl rfl (S := fun _ => True) trivial (v_extract rfl rfl) ?_
  refine rl_v rfl rfl rfl (S := fun _ => True) trivial (v_assign rfl) ?_
  refine rl_v rfl rfl rfl (S := fun _ => True) trivial (v_assign rfl) ?_
  refine rl_nil (g_le (Fr.le_keep (Fr.le_keep (Fr.le_skip rfl (Fr.le_skip rfl (Fr.le_skip rfl (Fr.le_skip rfl (Fr.le_skip rfl (Fr.le_refl _)))))))) ?_)
  refine g_seq (g_seq ?_)
  refine g_region ?_
  refine rl_v rfl rfl rfl (S := fun _ => True) trivial (v_move rfl) ?_
  refine rl_v rfl rfl rfl (S := fun _ => True) trivial (v_neqNil T.ptr_26 rfl rfl) ?_
  refine rl_v rfl rfl rfl (S := fun _ => True) trivial (v_move rfl) ?_
  first | (refine rl_v rfl rfl rfl (S := fun _ => True) trivial (v_neqBoolF T.bool_4 rfl rfl (by first | rfl | assumption)) ?_) | (refine rl_v rfl rfl rfl (S := fun _ => True) trivial (v_neqBool T.bool_4 rfl rfl) ?_)
  refine rl_v rfl rfl rfl (S := fun _ => True) trivial (v_move rfl) ?_
  first | (refine rl_vg (met_on rfl rfl rfl rfl) rfl rfl (S := fun _ => True) trivial (v_move rfl) ?_) | (refine rl_off (by first | exact met_off rfl rfl rfl rfl rfl | exact met_gone rfl rfl rfl rfl) rfl rfl ?_)
  first | (refine rl_vg (met_on rfl rfl rfl rfl) rfl rfl (S := fun _ => True) trivial (v_move rfl) ?_) | (refine rl_off (by first | exact met_off rfl rfl rfl rfl rfl | exact met_gone rfl rfl rfl rfl) rfl rfl ?_)
  first | (refine rl_vg (met_on rfl rfl rfl rfl) rfl rfl (S := fun _ => True) trivial (v_eqlT rfl rfl (by first | omega | rfl)) ?_) | (refine rl_vg (met_on rfl rfl rfl rfl) rfl rfl (S := fun _ => True) trivial (v_eqlF rfl rfl (by omega)) ?_) | (refine rl_vg (met_on rfl rfl rfl rfl) rfl rfl (S := fun _ => True) trivial (v_eql rfl rfl) ?_) | (refine rl_off (by first | exact met_off rfl rfl rfl rfl rfl | exact met_gone rfl rfl rfl rfl) rfl rfl ?_)
  first | (refine rl_vg (met_on rfl rfl rfl rfl) rfl rfl (S := fun _ => True) trivial (v_neqBoolF T.bool_4 rfl rfl (by first | rfl | assumption)) ?_) | (refine rl_vg (met_on rfl rfl rfl rfl) rfl rfl (S := fun _ => True) trivial (v_neqBool T.bool_4 rfl rfl) ?_) | (refine rl_off (by first | exact met_off rfl rfl rfl rfl rfl | exact met_gone rfl rfl rfl rfl) rfl rfl ?_)
  first | (refine rl_v rfl rfl rfl (S := fun _ => True) trivial (v_pick_true rfl rfl) ?_) | (refine rl_v rfl rfl rfl (S := fun _ => True) trivial (v_pick_false rfl rfl) ?_) | (refine rl_v rfl rfl rfl (S := fun _ => True) trivial (v_pick rfl rfl rfl) ?_)
  refine rl_v rfl rfl rfl (S := fun _ => True) trivial (v_move rfl) ?_
  first | (refine rl_vg (met_on rfl rfl rfl rfl) rfl rfl (S := fun _ => True) trivial (v_move rfl) ?_) | (refine rl_off (by first | exact met_off rfl rfl rfl rfl rfl | exact met_gone rfl rfl rfl rfl) rfl rfl ?_)
  first | (refine rl_vg (met_on rfl rfl rfl rfl) rfl rfl (S := fun _ => True) trivial (v_not rfl) ?_) | (refine rl_off (by first | exact met_off rfl rfl rfl rfl rfl | exact met_gone rfl rfl rfl rfl) rfl rfl ?_)
  first | (refine rl_vg (met_on rfl rfl rfl rfl) rfl rfl (S := fun _ => True) trivial (v_move rfl) ?_) | (refine rl_off (by first | exact met_off rfl rfl rfl rfl rfl | exact met_gone rfl rfl rfl rfl) rfl rfl ?_)
  first | (refine rl_vg (met_on rfl rfl rfl rfl) rfl rfl (S := fun _ => True) trivial (v_move rfl) ?_) | (refine rl_off (by first | exact met_off rfl rfl rfl rfl rfl | exact met_gone rfl rfl rfl rfl) rfl rfl ?_)
  first | (refine rl_vg (met_on rfl rfl rfl rfl) rfl rfl (S := fun _ => True) trivial (v_neqT rfl rfl (by omega)) ?_) | (refine rl_vg (met_on rfl rfl rfl rfl) rfl rfl (S := fun _ => True) trivial (v_neqF rfl rfl (by first | omega | rfl)) ?_) | (refine rl_vg (met_on rfl rfl rfl rfl) rfl rfl (S := fun _ => True) trivial (v_neq rfl rfl) ?_) | (refine rl_off (by first | exact met_off rfl rfl rfl rfl rfl | exact met_gone rfl rfl rfl rfl) rfl rfl ?_)
  first | (refine rl_vg (met_on rfl rfl rfl rfl) rfl rfl (S := fun _ => True) trivial (v_pick_true rfl rfl) ?_) | (refine rl_vg (met_on rfl rfl rfl rfl) rfl rfl (S := fun _ => True) trivial (v_pick_false rfl rfl) ?_) | (refine rl_vg (met_on rfl rfl rfl rfl) rfl rfl (S := fun _ => True) trivial (v_pick rfl rfl rfl) ?_) | (refine rl_off (by first | exact met_off rfl rfl rfl rfl rfl | exact met_gone rfl rfl rfl rfl) rfl rfl ?_)
  first | (refine rl_v rfl rfl rfl (S := fun _ => True) trivial (v_pick_true rfl rfl) ?_) | (refine rl_v rfl rfl rfl (S := fun _ => True) trivial (v_pick_false rfl rfl) ?_) | (refine rl_v rfl rfl rfl (S := fun _ => True) trivial (v_pick rfl rfl rfl) ?_)
  refine rl_nil (g_le (Fr.le_keep (Fr.le_skip rfl (Fr.le_skip rfl (Fr.le_skip rfl (Fr.le_skip rfl (Fr.le_skip rfl (Fr.le_skip rfl (Fr.le_skip rfl (Fr.le_skip rfl (Fr.le_skip rfl (Fr.le_skip rfl (Fr.le_skip rfl (Fr.le_skip rfl (Fr.le_skip rfl (Fr.le_skip rfl (Fr.le_skip rfl (Fr.le_skip rfl (Fr.le_skip rfl (Fr.le_refl _))))))))))))))))))) ?_)
  refine g_cond_false rfl ?_
  refine g_skip (g_seq (g_seq ?_))
  refine g_region ?_
  refine rl_v rfl rfl rfl (S := fun _ => True) trivial (v_move rfl) ?_
  refine rl_v rfl rfl rfl (S := fun _ => True) trivial (v_not rfl) ?_
  refine rl_nil (g_le (Fr.le_keep (Fr.le_skip rfl (Fr.le_refl _))) ?_)
  refine g_cond_true rfl ?_
  refine g_seq ?_
  refine g_region ?_
  refine rl_v rfl rfl rfl (S := fun _ => True) trivial (v_assign rfl) ?_
  refine rl_nil (g_le (Fr.le_keep (Fr.le_refl _)) ?_)
  refine g_ret1 Try.func7 rfl rfl ?_
  exact ⟨rfl, (hw.sub (by (repeat (first | with_reducible exact Sub.refl _ | exact Sub.nil _ | (apply Sub.cons; focus ((repeat (first | with_reducible exact Pick.here _ | apply Pick.there)); (first | done | fail))) | with_reducible apply Sub.drop)); first | done | fail) : Sat (envOf W) w [Old W])⟩
theorem ord_f7_r35_C15P : orderOfB Try.f7 35 [] (.a 0 (.a 2 (.a 3 (.a 4 (.v 5 (.a 6 (.k 1 (.k 7 (.k 8 (.a 9 (.k 10 (.k 11 (.k 12 (.k 13 (.k 14 (.k 15 (.k 16 (.a 17 (.k 18 (.k 19 (.k 20 (.k 21 (.k 22 (.k 23 .done)))))))))))))))))))))))) = true := by kernel_rfl
theorem ord_f7_r20_C15P : orderOfB Try.f7 20 [5] (.a 0 (.a 3 (.v 1 (.v 4 (.k 2 (.k 5 (.k 6 .done))))))) = true := by kernel_rfl
theorem ord_f7_r23_C15P : orderOfB Try.f7 23 [5] (.a 0 (.a 3 (.v 1 (.v 4 (.k 2 (.k 5 (.k 6 .done))))))) = true := by kernel_rfl
theorem ord_f7_r26_C15P : orderOfB Try.f7 26 [8, 9] (.a 0 (.a 1 (.a 5 (.a 6 (.v 2 (.v 7 (.k 3 (.k 4 (.k 8 (.k 9 (.k 10 .done))))))))))) = true := by kernel_rfl
theorem ord_f7_r32_C15P : orderOfB Try.f7 32 [6] (.a 0 (.a 2 (.a 3 (.a 4 (.v 5 (.k 1 (.k 6 (.k 7 .done)))))))) = true := by kernel_rfl
theorem ord_f7_r12_C15P : orderOfB Try.f7 12 [9] (.a 0 (.a 2 (.a 5 (.a 7 (.v 1 (.v 3 (.v 6 (.v 8 (.k 4 (.k 9 (.k 10 .done))))))))))) = true := by kernel_rfl
theorem ord_f7_r38_C15P : orderOfB Try.f7 38 [6] (.a 0 (.a 2 (.a 3 (.a 4 (.v 5 (.k 1 (.k 6 (.k 7 .done)))))))) = true := by kernel_rfl
set_option maxHeartbeats 8000000 in
theorem CachePlays_yes {w : World} {room : Int} {a : Option Addr} {len cap : Nat} {xs : List Op} (hrm : 0 ≤ room ∧ room ≤ 32) (hr : rdArg (rdSl 96 6 rdOp) w (.slice a len cap) xs) :
    Law Try.prog 7 [.int .i64 room, .slice a len cap] w := by
  unfold Law
  have hw := Sat.old w
  generalize w = W at hr hw ⊢
  have hr : (rdSl 96 6 rdOp) (hpOf W) [.slice a len cap] xs := hr
  obtain ⟨hlen, _, hlc, _, _⟩ := rdSl_get hr
  refine calls_of_g (n := 179) Try.func7 rfl rfl rfl ?_
  change G _ _ _ _ _ [(0, _), (1, _)] _
  refine g_seq ?_
  refine g_region ?_
  refine rl_v rfl rfl rfl (S := fun _ => True) trivial (v_assign rfl) ?_
  refine rl_nil (g_le (Fr.le_keep (Fr.le_refl _)) ?_)
  refine g_seq ?_
  refine g_region ?_
  refine rl_v rfl rfl rfl (S := fun _ => True) trivial (v_move rfl) ?_
  refine rl_k rfl (k_callf Try.func8 rfl rfl rfl rfl ?_)
  refine Calls.mono (cnew_calls room hw) ?_
  rintro _ w ⟨hn, _⟩
  obtain ⟨c, rfl, hw⟩ := hn hrm
  refine ⟨_, rfl, ?_⟩
  refine rl_v rfl rfl rfl (S := fun _ => True) trivial (v_move rfl) ?_
  refine rl_v rfl rfl rfl (S := fun _ => True) trivial (v_extract rfl rfl) ?_
  refine rl_v rfl rfl rfl (S := fun _ => True) trivial (v_extract rfl rfl) ?_
  refine rl_v rfl rfl rfl (S := fun _ => True) trivial (v_assign rfl) ?_
  refine rl_v rfl rfl rfl (S := fun _ => True) trivial (v_assign rfl) ?_
  refine rl_nil (g_le (Fr.le_keep (Fr.le_keep (Fr.le_skip rfl (Fr.le_skip rfl (Fr.le_skip rfl (Fr.le_skip rfl (Fr.le_skip rfl (Fr.le_refl _)))))))) ?_)
  refine g_seq ?_
  refine g_region ?_
  refine rl_v rfl rfl rfl (S := fun _ => True) trivial (v_move rfl) ?_
  refine rl_k rfl (k_callf Try.func26 rfl rfl rfl rfl ?_)
  refine Calls.mono (rnew15_calls room hw) ?_
  rw [decide_eq_true hrm]
  rintro _ w ⟨q, rfl, hw⟩
  refine ⟨_, rfl, ?_⟩
  refine rl_v rfl rfl rfl (S := fun _ => True) trivial (v_move rfl) ?_
  refine rl_v rfl rfl rfl (S := fun _ => True) trivial (v_extract rfl rfl) ?_
  refine rl_v rfl rfl rfl (S := fun _ => True) trivial (v_extract rfl rfl) ?_
  refine rl_v rfl rfl rfl (S := fun _ => True) trivial (v_assign rfl) ?_
  refine rl_v rfl rfl rfl (S := fun _ => True) trivial (v_assign rfl) ?_
  refine rl_nil (g_le (Fr.le_keep (Fr.le_keep (Fr.le_skip rfl (Fr.le_skip rfl (Fr.le_skip rfl (Fr.le_skip rfl (Fr.le_skip rfl (Fr.le_refl _)))))))) ?_)
  refine g_seq (g_seq ?_)
  refine g_region ?_
  refine rl_v rfl rfl rfl (S := fun _ => True) trivial (v_move rfl) ?_
  refine rl_v rfl rfl rfl (S := fun _ => True) trivial (v_neqNil T.ptr_26 rfl rfl) ?_
  refine rl_v rfl rfl rfl (S := fun _ => True) trivial (v_move rfl) ?_
  first | (refine rl_v rfl rfl rfl (S := fun _ => True) trivial (v_neqBoolF T.bool_4 rfl rfl (by first | rfl | assumption)) ?_) | (refine rl_v rfl rfl rfl (S := fun _ => True) trivial (v_neqBool T.bool_4 rfl rfl) ?_)
  refine rl_v rfl rfl rfl (S := fun _ => True) trivial (v_move rfl) ?_
  first | (refine rl_vg (met_on rfl rfl rfl rfl) rfl rfl (S := fun _ => True) trivial (v_move rfl) ?_) | (refine rl_off (by first | exact met_off rfl rfl rfl rfl rfl | exact met_gone rfl rfl rfl rfl) rfl rfl ?_)
  first | (refine rl_vg (met_on rfl rfl rfl rfl) rfl rfl (S := fun _ => True) trivial (v_move rfl) ?_) | (refine rl_off (by first | exact met_off rfl rfl rfl rfl rfl | exact met_gone rfl rfl rfl rfl) rfl rfl ?_)
  first | (refine rl_vg (met_on rfl rfl rfl rfl) rfl rfl (S := fun _ => True) trivial (v_eqlT rfl rfl (by first | omega | rfl)) ?_) | (refine rl_vg (met_on rfl rfl rfl rfl) rfl rfl (S := fun _ => True) trivial (v_eqlF rfl rfl (by omega)) ?_) | (refine rl_vg (met_on rfl rfl rfl rfl) rfl rfl (S := fun _ => True) trivial (v_eql rfl rfl) ?_) | (refine rl_off (by first | exact met_off rfl rfl rfl rfl rfl | exact met_gone rfl rfl rfl rfl) rfl rfl ?_)
  first | (refine rl_vg (met_on rfl rfl rfl rfl) rfl rfl (S := fun _ => True) trivial (v_neqBoolF T.bool_4 rfl rfl (by first | rfl | assumption)) ?_) | (refine rl_vg (met_on rfl rfl rfl rfl) rfl rfl (S := fun _ => True) trivial (v_neqBool T.bool_4 rfl rfl) ?_) | (refine rl_off (by first | exact met_off rfl rfl rfl rfl rfl | exact met_gone rfl rfl rfl rfl) rfl rfl ?_)
  first | (refine rl_v rfl rfl rfl (S := fun _ => True) trivial (v_pick_true rfl rfl) ?_) | (refine rl_v rfl rfl rfl (S := fun _ => True) trivial (v_pick_false rfl rfl) ?_) | (refine rl_v rfl rfl rfl (S := fun _ => True) trivial (v_pick rfl rfl rfl) ?_)
  refine rl_v rfl rfl rfl (S := fun _ => True) trivial (v_move rfl) ?_
  first | (refine rl_vg (met_on rfl rfl rfl rfl) rfl rfl (S := fun _ => True) trivial (v_move rfl) ?_) | (refine rl_off (by first | exact met_off rfl rfl rfl rfl rfl | exact met_gone rfl rfl rfl rfl) rfl rfl ?_)
  first | (refine rl_vg (met_on rfl rfl rfl rfl) rfl rfl (S := fun _ => True) trivial (v_not rfl) ?_) | (refine rl_off (by first | exact met_off rfl rfl rfl rfl rfl | exact met_gone rfl rfl rfl rfl) rfl rfl ?_)
  first | (refine rl_vg (met_on rfl rfl rfl rfl) rfl rfl (S := fun _ => True) trivial (v_move rfl) ?_) | (refine rl_off (by first | exact met_off rfl rfl rfl rfl rfl | exact met_gone rfl rfl rfl rfl) rfl rfl ?_)
  first | (refine rl_vg (met_on rfl rfl rfl rfl) rfl rfl (S := fun _ => True) trivial (v_move rfl) ?_) | (refine rl_off (by first | exact met_off rfl rfl rfl rfl rfl | exact met_gone rfl rfl rfl rfl) rfl rfl ?_)
  first | (refine rl_vg (met_on rfl rfl rfl rfl) rfl rfl (S := fun _ => True) trivial (v_neqT rfl rfl (by omega)) ?_) | (refine rl_vg (met_on rfl rfl rfl rfl) rfl rfl (S := fun _ => True) trivial (v_neqF rfl rfl (by first | omega | rfl)) ?_) | (refine rl_vg (met_on rfl rfl rfl rfl) rfl rfl (S := fun _ => True) trivial (v_neq rfl rfl) ?_) | (refine rl_off (by first | exact met_off rfl rfl rfl rfl rfl | exact met_gone rfl rfl rfl rfl) rfl rfl ?_)
  first | (refine rl_vg (met_on rfl rfl rfl rfl) rfl rfl (S := fun _ => True) trivial (v_pick_true rfl rfl) ?_) | (refine rl_vg (met_on rfl rfl rfl rfl) rfl rfl (S := fun _ => True) trivial (v_pick_false rfl rfl) ?_) | (refine rl_vg (met_on rfl rfl rfl rfl) rfl rfl (S := fun _ => True) trivial (v_pick rfl rfl rfl) ?_) | (refine rl_off (by first | exact met_off rfl rfl rfl rfl rfl | exact met_gone rfl rfl rfl rfl) rfl rfl ?_)
  first | (refine rl_v rfl rfl rfl (S := fun _ => True) trivial (v_pick_true rfl rfl) ?_) | (refine rl_v rfl rfl rfl (S := fun _ => True) trivial (v_pick_false rfl rfl) ?_) | (refine rl_v rfl rfl rfl (S := fun _ => True) trivial (v_pick rfl rfl rfl) ?_)
  refine rl_nil (g_le (Fr.le_keep (Fr.le_skip rfl (Fr.le_skip rfl (Fr.le_skip rfl (Fr.le_skip rfl (Fr.le_skip rfl (Fr.le_skip rfl (Fr.le_skip rfl (Fr.le_skip rfl (Fr.le_skip rfl (Fr.le_skip rfl (Fr.le_skip rfl (Fr.le_skip rfl (Fr.le_skip rfl (Fr.le_skip rfl (Fr.le_skip rfl (Fr.le_skip rfl (Fr.le_skip rfl (Fr.le_refl _))))))))))))))))))) ?_)
  refine g_cond_false rfl ?_
  refine g_skip (g_seq (g_seq ?_))
  refine g_region ?_
  refine rl_v rfl rfl rfl (S := fun _ => True) trivial (v_move rfl) ?_
  refine rl_v rfl rfl rfl (S := fun _ => True) trivial (v_not rfl) ?_
  refine rl_nil (g_le (Fr.le_keep (Fr.le_skip rfl (Fr.le_refl _))) ?_)
  refine g_cond_false rfl ?_
  refine g_skip (g_seq (g_seq ?_))
  refine g_region ?_
  refine rl_v rfl rfl rfl (S := fun _ => True) trivial (v_move rfl) ?_
  refine rl_k rfl (k_callf Try.func16 rfl rfl rfl rfl ?_)
  refine Calls.mono (short_calls a len cap 80 (by omega) hlc hw) ?_
  rintro _ w ⟨rfl, hw⟩
  refine ⟨_, rfl, ?_⟩
  refine rl_v rfl rfl rfl (S := fun _ => True) trivial (v_lenSlice T.sl_45_49_6 rfl) ?_
  refine rl_v rfl rfl rfl (S := fun _ => True) trivial (v_move rfl) ?_
  refine rl_nil (g_le (Fr.le_keep (Fr.le_keep (Fr.le_keep (Fr.le_skip rfl (Fr.le_refl _))))) ?_)
  refine g_block ?_
  refine g_loopC (σ := Int × Ch × Hp × Value × List Value × Value × List Value) (fun C x => (51, .int .i64 x.1) :: C) [(4, _), (5, _), (7, _), (49, _), (50, _)] (by repeat (first | exact Fr.le_nil _ | refine Fr.le_cons rfl ?_)) (fun z w => 0 ≤ z.1 ∧ z.1 ≤ (min len 80 : Nat) ∧ z.2.1.l.length ≤ z.1 ∧ (hpOf W).le z.2.2.1 ∧ Els rdHd 8 z.2.2.1 z.2.2.2.2.1 z.2.1.l ∧ Els rdHd 8 z.2.2.1 z.2.2.2.2.2.2 z.2.1.l ∧ Sat (envOf W) w (pt c (.cells [Value.int .i64 (z.2.1 : Ch).room, z.2.2.2.1, .int .i64 (z.2.1 : Ch).hits, .int .i64 (z.2.1 : Ch).misses].toArray 70 (0, 0)) :: OwnSl 42 8 z.2.2.2.1 (z.2.1 : Ch).l.length z.2.2.2.2.1 :: pt q (.cells [Value.int .i64 (z.2.1 : Ch).room, z.2.2.2.2.2.1, .int .i64 (z.2.1 : Ch).hits, .int .i64 (z.2.1 : Ch).misses].toArray 67 (0, 0)) :: OwnSl 42 8 z.2.2.2.2.2.1 (z.2.1 : Ch).l.length z.2.2.2.2.2.2 :: RO z.2.2.1 :: [])) (fun z => ((min len 80 : Nat) - z.1).toNat) ?_ (0, ⟨room, [], 0, 0⟩, hpOf W, .slice none 0 0, [], .slice none 0 0, []) (by repeat (first | exact Fr.le_nil _ | refine Fr.le_cons rfl ?_)) ⟨by simp, by simp only; omega, by simp, Hp.le_refl _, Els.nil, Els.nil, hw.sub (by (repeat (first | with_reducible exact Sub.refl _ | exact Sub.nil _ | (apply Sub.cons; focus ((repeat (first | with_reducible exact Pick.here _ | apply Pick.there)); (first | done | fail))) | with_reducible apply Sub.drop)); first | done | fail)⟩
  rintro ⟨i, s, g, lv, cells, rv, rcs⟩ w ⟨hi0, hi1, hb, hg, hels, helr, hw⟩ ih
  dsimp only at hi0 hi1 hb hg hels helr hw ⊢
  have hb' : s.l.length ≤ 100000 := by omega
  refine g_seq ?_
  refine g_region ?_
  first | (refine rl_v rfl rfl rfl (S := fun _ => True) trivial (v_lssT rfl rfl (by omega)) ?_) | (refine rl_v rfl rfl rfl (S := fun _ => True) trivial (v_lssF rfl rfl (by omega)) ?_) | (refine rl_v rfl rfl rfl (S := fun _ => True) trivial (v_lss rfl rfl) ?_)
  refine rl_nil (g_le (Fr.le_keep (Fr.le_refl _)) ?_)
  refine g_seq ?_
  refine g_cond rfl (fun h3 => ?_) (fun h3 => ?_)
  · try with_reducible exact ft_elim h3
    all_goals
      try replace h3 := of_decide_eq_true h3
      refine g_skip (g_seq (g_block (g_seq ?_)))
      have hz := hw
      clear hw
      obtain ⟨_, _, _, _, g1⟩ := rdSl_get (rdSl_take (min len 80) (mono_sl mono_Op hg hr) (by omega))
      obtain ⟨b4, o1, x, ecs, rfl, hx, hat1, hl1, hro⟩ := g1 i hi0 (by omega)
      obtain ⟨q0, q1, q2, q3, q4, q5, rfl, ⟨hd0, _⟩, ⟨hd1, _⟩, hnd, hrf⟩ := hro
      simp only [List.cons.injEq, and_true] at hd0 hd1
      subst hd0 hd1
      obtain ⟨n0, n1, n2, hq, hq0, hq1, hq2⟩ := id hnd
      simp only [List.cons.injEq, and_true] at hq
      obtain ⟨rfl, rfl, rfl⟩ := hq
      simp only [rdBool, List.cons.injEq, and_true] at hq0
      subst hq0
      obtain ⟨qa1, qn1, qk1, rfl⟩ := rdSl_shape hq1
      obtain ⟨qa2, qn2, qk2, rfl⟩ := rdSl_shape hq2
      obtain ⟨qa3, qn3, qk3, rfl⟩ := rdSl_shape hrf
      have hw := hz
      refine g_region ?_
      refine rl_v rfl rfl rfl (S := fun _ => True) trivial (v_indexAddr T.sl_45_49_6 rfl rfl (by omega) (by omega)) ?_
      refine rl_v rfl rfl rfl (by first | exact sat_cells hw (by (repeat (first | with_reducible exact Pick.here _ | apply Pick.there)); first | done | fail) ⟨rfl, rfl, rfl, rfl, rfl, rfl, trivial⟩ | exact ro_ats hw (by (repeat (first | with_reducible exact Pick.here _ | apply Pick.there)); first | done | fail) (by assumption) | exact own_cells hw (by (repeat (first | with_reducible exact Pick.here _ | apply Pick.there)); first | done | fail) (by assumption) | exact old_cells hw (by (repeat (first | with_reducible exact Pick.here _ | apply Pick.there)); first | done | fail) (by assumption)) (v_loadAgg (vs := [_, _, _, _, _, _]) T.agg_49_6 rfl rfl) ?_
      refine rl_k rfl (k_alloc hw T.zero_49 rfl rfl (fun bk9_2 w hw => ?_))
      first | (refine rl_k rfl (k_storeWhole hw T.agg_49_6 rfl rfl (by simp [Value.oneCell']) rfl (by (repeat (first | with_reducible exact Pick.here _ | apply Pick.there)); first | done | fail) rfl (fun w hw => ?_))) | (refine rl_k rfl (k_storeAgg hw T.agg_49_6 rfl rfl (by simp [Value.oneCell']) rfl (by (repeat (first | with_reducible exact Pick.here _ | apply Pick.there)); first | done | fail) rfl rfl (fun w hw => ?_))) | (refine rl_k rfl (k_storeOwnAgg hw T.agg_49_6 rfl rfl (by simp [Value.oneCell']) rfl (by (repeat (first | with_reducible exact Pick.here _ | apply Pick.there)); first | done | fail) (by assumption) (by omega) (fun w hw => ?_)))
      refine rl_nil (g_le (Fr.le_keep (Fr.le_keep (Fr.le_keep (Fr.le_refl _)))) ?_)
      refine g_seq ?_
      refine g_region ?_
      first | (refine rl_v rfl rfl rfl (S := fun _ => True) trivial (v_fieldAddr0 T.fld_49_1_1 rfl) ?_) | (refine rl_v rfl rfl rfl (S := fun _ => True) trivial (v_fieldAddr T.fld_49_1_1 rfl) ?_)
      refine rl_v rfl rfl rfl (by first | exact sat_cell hw (by (repeat (first | with_reducible exact Pick.here _ | apply Pick.there)); first | done | fail) rfl | exact own_cell hw (by (repeat (first | with_reducible exact Pick.here _ | apply Pick.there)); first | done | fail) (by first | rfl | assumption) | exact ro_at0 hw (by (repeat (first | with_reducible exact Pick.here _ | apply Pick.there)); first | done | fail) (by assumption) rfl | exact ro_at hw (by (repeat (first | with_reducible exact Pick.here _ | apply Pick.there)); first | done | fail) (by assumption) rfl | exact own_at0 hw (by (repeat (first | with_reducible exact Pick.here _ | apply Pick.there)); first | done | fail) (by assumption) rfl | exact own_at hw (by (repeat (first | with_reducible exact Pick.here _ | apply Pick.there)); first | done | fail) (by assumption) rfl | exact old_cell hw (by (repeat (first | with_reducible exact Pick.here _ | apply Pick.there)); first | done | fail) (by assumption) | assumption) (v_load T.scal_3 rfl) ?_
      refine rl_k rfl (k_callf Try.func11 rfl rfl rfl rfl ?_)
      refine Calls.mono (of_calls _ hw) ?_
      rintro _ w ⟨rfl, hw⟩
      refine ⟨_, rfl, ?_⟩
      refine rl_k rfl (k_alloc hw T.zero_34 rfl rfl (fun bk10_3 w hw => ?_))
      first | (refine rl_k rfl (k_storeWhole hw T.agg_34_4 rfl rfl (by simp [Value.oneCell']) rfl (by (repeat (first | with_reducible exact Pick.here _ | apply Pick.there)); first | done | fail) rfl (fun w hw => ?_))) | (refine rl_k rfl (k_storeAgg hw T.agg_34_4 rfl rfl (by simp [Value.oneCell']) rfl (by (repeat (first | with_reducible exact Pick.here _ | apply Pick.there)); first | done | fail) rfl rfl (fun w hw => ?_))) | (refine rl_k rfl (k_storeOwnAgg hw T.agg_34_4 rfl rfl (by simp [Value.oneCell']) rfl (by (repeat (first | with_reducible exact Pick.here _ | apply Pick.there)); first | done | fail) (by assumption) (by omega) (fun w hw => ?_)))
      refine rl_nil (g_le (Fr.le_keep (Fr.le_keep (Fr.le_keep (Fr.le_keep (Fr.le_refl _))))) ?_)
      refine g_seq (g_seq ?_)
      refine g_region ?_
      first | (refine rl_v rfl rfl rfl (S := fun _ => True) trivial (v_fieldAddr0 T.fld_49_0_0 rfl) ?_) | (refine rl_v rfl rfl rfl (S := fun _ => True) trivial (v_fieldAddr T.fld_49_0_0 rfl) ?_)
      refine rl_v rfl rfl rfl (by first | exact sat_cell hw (by (repeat (first | with_reducible exact Pick.here _ | apply Pick.there)); first | done | fail) rfl | exact own_cell hw (by (repeat (first | with_reducible exact Pick.here _ | apply Pick.there)); first | done | fail) (by first | rfl | assumption) | exact ro_at0 hw (by (repeat (first | with_reducible exact Pick.here _ | apply Pick.there)); first | done | fail) (by assumption) rfl | exact ro_at hw (by (repeat (first | with_reducible exact Pick.here _ | apply Pick.there)); first | done | fail) (by assumption) rfl | exact own_at0 hw (by (repeat (first | with_reducible exact Pick.here _ | apply Pick.there)); first | done | fail) (by assumption) rfl | exact own_at hw (by (repeat (first | with_reducible exact Pick.here _ | apply Pick.there)); first | done | fail) (by assumption) rfl | exact old_cell hw (by (repeat (first | with_reducible exact Pick.here _ | apply Pick.there)); first | done | fail) (by assumption) | assumption) (v_load T.scal_3 rfl) ?_
      refine rl_nil (g_le (Fr.le_keep (Fr.le_keep (Fr.le_refl _))) ?_)
      refine g_cutc (σ := Ch × Hp × Value × List Value × Value × List Value) (fun C x => C) [(4, _), (5, _), (7, _), (10, _), (11, _), (49, _), (50, _), (51, _), (52, _), (53, _), (54, _), (55, _), (56, _), (57, _), (58, _), (59, _)] (by repeat (first | exact Fr.le_nil _ | refine Fr.le_cons rfl ?_)) (fun z w => z.1.l.length ≤ i + 1 ∧ (hpOf W).le z.2.1 ∧ Els rdHd 8 z.2.1 z.2.2.2.1 z.1.l ∧ Els rdHd 8 z.2.1 z.2.2.2.2.2 z.1.l ∧ Sat (envOf W) w (pt c (.cells [Value.int .i64 (z.1 : Ch).room, z.2.2.1, .int .i64 (z.1 : Ch).hits, .int .i64 (z.1 : Ch).misses].toArray 70 (0, 0)) :: OwnSl 42 8 z.2.2.1 (z.1 : Ch).l.length z.2.2.2.1 :: pt q (.cells [Value.int .i64 (z.1 : Ch).room, z.2.2.2.2.1, .int .i64 (z.1 : Ch).hits, .int .i64 (z.1 : Ch).misses].toArray 67 (0, 0)) :: OwnSl 42 8 z.2.2.2.2.1 (z.1 : Ch).l.length z.2.2.2.2.2 :: RO z.2.1 :: [])) ?_ ?_
      · skip
        rintro ⟨s2, g2, lv2, cells2, rv2, rcs2⟩ w ⟨kb, kg, kels, kelr, hw⟩
        dsimp only at kb kg kels kelr hw ⊢
        all_goals
          refine g_seq ?_
          have hz := hw
          clear hw
          have hw := hz
          refine g_region ?_
          refine rl_v rfl rfl rfl (S := fun _ => True) trivial (v_move rfl) ?_
          refine rl_k rfl (k_callf Try.func23 rfl rfl rfl rfl ?_)
          refine Calls.mono (chits_calls (hw.sub (by (repeat (first | with_reducible exact Sub.refl _ | exact Sub.nil _ | (apply Sub.cons; focus ((repeat (first | with_reducible exact Pick.here _ | apply Pick.there)); (first | done | fail))) | with_reducible apply Sub.drop)); first | done | fail))) ?_
          rintro _ w ⟨rfl, hw⟩
          refine ⟨_, rfl, ?_⟩
          refine rl_v rfl rfl rfl (S := fun _ => True) trivial (v_move rfl) ?_
          refine rl_v rfl rfl rfl (S := fun _ => True) trivial (v_extract rfl rfl) ?_
          refine rl_v rfl rfl rfl (S := fun _ => True) trivial (v_extract rfl rfl) ?_
          refine rl_v rfl rfl rfl (S := fun _ => True) trivial (v_assign rfl) ?_
          refine rl_v rfl rfl rfl (S := fun _ => True) trivial (v_assign rfl) ?_
          refine rl_nil (g_le (Fr.le_keep (Fr.le_keep (Fr.le_keep (Fr.le_keep (Fr.le_keep (Fr.le_keep (Fr.le_keep (Fr.le_refl _)))))))) ?_)
          refine g_seq ?_
          obtain ⟨va, vc, rfl, _, _, _⟩ := (hw.pick .at3).own_shape
          refine g_drawR ord_f7_r35_C15P (by kernel_rfl) T.mixed hw (fun w hw => ?_)
          refine rs_a 0 rfl rfl rfl rfl (v_move rfl) ?_
          refine rs_a 2 rfl rfl rfl rfl (v_move rfl) ?_
          refine rs_a 3 rfl rfl rfl rfl (v_nilCheck rfl) ?_
          first | (refine rs_a 4 rfl rfl rfl rfl (v_fieldAddr0 T.fld_67_1_1 rfl) ?_) | (refine rs_a 4 rfl rfl rfl rfl (v_fieldAddr T.fld_67_1_1 rfl) ?_)
          refine rs_v 5 rfl rfl rfl rfl (OpV.mono (v_load T.scal_39 rfl) (fun w hw => by first | exact sat_cell hw (by (repeat (first | with_reducible exact Pick.here _ | apply Pick.there)); first | done | fail) rfl | exact own_cell hw (by (repeat (first | with_reducible exact Pick.here _ | apply Pick.there)); first | done | fail) (by first | rfl | assumption) | exact ro_at0 hw (by (repeat (first | with_reducible exact Pick.here _ | apply Pick.there)); first | done | fail) (by assumption) rfl | exact ro_at hw (by (repeat (first | with_reducible exact Pick.here _ | apply Pick.there)); first | done | fail) (by assumption) rfl | exact own_at0 hw (by (repeat (first | with_reducible exact Pick.here _ | apply Pick.there)); first | done | fail) (by assumption) rfl | exact own_at hw (by (repeat (first | with_reducible exact Pick.here _ | apply Pick.there)); first | done | fail) (by assumption) rfl | exact old_cell hw (by (repeat (first | with_reducible exact Pick.here _ | apply Pick.there)); first | done | fail) (by assumption) | assumption)) (by first | exact hw | exact Sat.sub hw (by (repeat (first | with_reducible exact Sub.refl _ | exact Sub.nil _ | (apply Sub.cons; focus ((repeat (first | with_reducible exact Pick.here _ | apply Pick.there)); (first | done | fail))) | with_reducible apply Sub.drop)); first | done | fail)) ?_
          refine rs_a 6 rfl rfl rfl rfl (v_lenSlice T.sl_39_42_8 rfl) ?_
          refine rs_k 1 rfl rfl (k_callf Try.func18 rfl rfl rfl rfl ?_)
          refine Calls.mono (ckept_calls (hw.sub (by (repeat (first | with_reducible exact Sub.refl _ | exact Sub.nil _ | (apply Sub.cons; focus ((repeat (first | with_reducible exact Pick.here _ | apply Pick.there)); (first | done | fail))) | with_reducible apply Sub.drop)); first | done | fail))) ?_
          rintro _ w ⟨rfl, hw⟩
          refine ⟨_, rfl, ?_⟩
          refine ⟨fun _ => (by first | exact hw | exact Sat.sub hw (by (repeat (first | with_reducible exact Sub.refl _ | exact Sub.nil _ | (apply Sub.cons; focus ((repeat (first | with_reducible exact Pick.here _ | apply Pick.there)); (first | done | fail))) | with_reducible apply Sub.drop)); first | done | fail) | exact Sat.sub (Sat.shrink (Sat.pick hw (by (repeat (first | with_reducible exact Pick.here _ | apply Pick.there)); first | done | fail)) (by assumption)) (by (repeat (first | with_reducible exact Sub.refl _ | exact Sub.nil _ | (apply Sub.cons; focus ((repeat (first | with_reducible exact Pick.here _ | apply Pick.there)); (first | done | fail))) | with_reducible apply Sub.drop)); first | done | fail)), ?_⟩
          first | (refine rs_kv 7 rfl rfl rfl rfl (S' := fun _ => True) trivial (v_neqT rfl rfl (by omega)) ?_) | (refine rs_kv 7 rfl rfl rfl rfl (S' := fun _ => True) trivial (v_neqF rfl rfl (by first | omega | rfl)) ?_) | (refine rs_kv 7 rfl rfl rfl rfl (S' := fun _ => True) trivial (v_neq rfl rfl) ?_)
          refine rs_kv 8 rfl rfl rfl rfl (S' := fun _ => True) trivial (v_move rfl) ?_
          refine rs_split (s := 155) rfl (fun g35_8 => ?_) (fun g35_8 => ?_)
          · try with_reducible exact ft_elim g35_8
            all_goals
              try replace g35_8 := of_decide_eq_true g35_8
              simp at g35_8
          · try with_reducible exact tf_elim g35_8
            all_goals
              try replace g35_8 := of_decide_eq_false g35_8
              refine rs_ag 9 rfl (met_on rfl rfl rfl rfl) rfl rfl (v_move rfl) ?_
              refine rs_kvg 10 rfl (met_on rfl rfl rfl rfl) rfl rfl (S' := fun _ => True) trivial (v_move rfl) ?_
              refine rs_kvg 11 rfl (met_on rfl rfl rfl rfl) rfl rfl (S' := fun _ => True) trivial (v_nilCheck rfl) ?_
              first | (refine rs_kvg 12 rfl (met_on rfl rfl rfl rfl) rfl rfl (S' := fun _ => True) trivial (v_fieldAddr0 T.fld_67_2_2 rfl) ?_) | (refine rs_kvg 12 rfl (met_on rfl rfl rfl rfl) rfl rfl (S' := fun _ => True) trivial (v_fieldAddr T.fld_67_2_2 rfl) ?_)
              refine rs_kvg 13 rfl (met_on rfl rfl rfl rfl) rfl rfl (by first | exact sat_cell hw (by (repeat (first | with_reducible exact Pick.here _ | apply Pick.there)); first | done | fail) rfl | exact own_cell hw (by (repeat (first | with_reducible exact Pick.here _ | apply Pick.there)); first | done | fail) (by first | rfl | assumption) | exact ro_at0 hw (by (repeat (first | with_reducible exact Pick.here _ | apply Pick.there)); first | done | fail) (by assumption) rfl | exact ro_at hw (by (repeat (first | with_reducible exact Pick.here _ | apply Pick.there)); first | done | fail) (by assumption) rfl | exact own_at0 hw (by (repeat (first | with_reducible exact Pick.here _ | apply Pick.there)); first | done | fail) (by assumption) rfl | exact own_at hw (by (repeat (first | with_reducible exact Pick.here _ | apply Pick.there)); first | done | fail) (by assumption) rfl | exact old_cell hw (by (repeat (first | with_reducible exact Pick.here _ | apply Pick.there)); first | done | fail) (by assumption) | assumption) (v_load T.scal_3 rfl) ?_
              first | (refine rs_kvg 14 rfl (met_on rfl rfl rfl rfl) rfl rfl (S' := fun _ => True) trivial (v_neqT rfl rfl (by omega)) ?_) | (refine rs_kvg 14 rfl (met_on rfl rfl rfl rfl) rfl rfl (S' := fun _ => True) trivial (v_neqF rfl rfl (by first | omega | rfl)) ?_) | (refine rs_kvg 14 rfl (met_on rfl rfl rfl rfl) rfl rfl (S' := fun _ => True) trivial (v_neq rfl rfl) ?_)
              first | (refine rs_kv 15 rfl rfl rfl rfl (S' := fun _ => True) trivial (v_pick_true rfl rfl) ?_) | (refine rs_kv 15 rfl rfl rfl rfl (S' := fun _ => True) trivial (v_pick_false rfl rfl) ?_) | (refine rs_kv 15 rfl rfl rfl rfl (S' := fun _ => True) trivial (v_pick rfl rfl rfl) ?_)
              refine rs_kv 16 rfl rfl rfl rfl (S' := fun _ => True) trivial (v_move rfl) ?_
              refine rs_split (s := 163) rfl (fun g35_16 => ?_) (fun g35_16 => ?_)
              · try with_reducible exact ft_elim g35_16
                all_goals
                  try replace g35_16 := of_decide_eq_true g35_16
                  simp at g35_16
              · try with_reducible exact tf_elim g35_16
                all_goals
                  try replace g35_16 := of_decide_eq_false g35_16
                  refine rs_ag 17 rfl (met_on rfl rfl rfl rfl) rfl rfl (v_move rfl) ?_
                  refine rs_kvg 18 rfl (met_on rfl rfl rfl rfl) rfl rfl (S' := fun _ => True) trivial (v_move rfl) ?_
                  refine rs_kvg 19 rfl (met_on rfl rfl rfl rfl) rfl rfl (S' := fun _ => True) trivial (v_nilCheck rfl) ?_
                  first | (refine rs_kvg 20 rfl (met_on rfl rfl rfl rfl) rfl rfl (S' := fun _ => True) trivial (v_fieldAddr0 T.fld_67_3_3 rfl) ?_) | (refine rs_kvg 20 rfl (met_on rfl rfl rfl rfl) rfl rfl (S' := fun _ => True) trivial (v_fieldAddr T.fld_67_3_3 rfl) ?_)
                  refine rs_kvg 21 rfl (met_on rfl rfl rfl rfl) rfl rfl (by first | exact sat_cell hw (by (repeat (first | with_reducible exact Pick.here _ | apply Pick.there)); first | done | fail) rfl | exact own_cell hw (by (repeat (first | with_reducible exact Pick.here _ | apply Pick.there)); first | done | fail) (by first | rfl | assumption) | exact ro_at0 hw (by (repeat (first | with_reducible exact Pick.here _ | apply Pick.there)); first | done | fail) (by assumption) rfl | exact ro_at hw (by (repeat (first | with_reducible exact Pick.here _ | apply Pick.there)); first | done | fail) (by assumption) rfl | exact own_at0 hw (by (repeat (first | with_reducible exact Pick.here _ | apply Pick.there)); first | done | fail) (by assumption) rfl | exact own_at hw (by (repeat (first | with_reducible exact Pick.here _ | apply Pick.there)); first | done | fail) (by assumption) rfl | exact old_cell hw (by (repeat (first | with_reducible exact Pick.here _ | apply Pick.there)); first | done | fail) (by assumption) | assumption) (v_load T.scal_3 rfl) ?_
                  first | (refine rs_kvg 22 rfl (met_on rfl rfl rfl rfl) rfl rfl (S' := fun _ => True) trivial (v_neqT rfl rfl (by omega)) ?_) | (refine rs_kvg 22 rfl (met_on rfl rfl rfl rfl) rfl rfl (S' := fun _ => True) trivial (v_neqF rfl rfl (by first | omega | rfl)) ?_) | (refine rs_kvg 22 rfl (met_on rfl rfl rfl rfl) rfl rfl (S' := fun _ => True) trivial (v_neq rfl rfl) ?_)
                  first | (refine rs_kv 23 rfl rfl rfl rfl (S' := fun _ => True) trivial (v_pick_true rfl rfl) ?_) | (refine rs_kv 23 rfl rfl rfl rfl (S' := fun _ => True) trivial (v_pick_false rfl rfl) ?_) | (refine rs_kv 23 rfl rfl rfl rfl (S' := fun _ => True) trivial (v_pick rfl rfl rfl) ?_)
                  refine rs_done (g_le (Fr.le_keep (Fr.le_keep (Fr.le_keep (Fr.le_keep (Fr.le_keep (Fr.le_keep (Fr.le_keep (Fr.le_keep (Fr.le_keep (Fr.le_keep (Fr.le_keep (Fr.le_keep (Fr.le_keep (Fr.le_keep (Fr.le_keep (Fr.le_keep (Fr.le_keep (Fr.le_keep (Fr.le_keep (Fr.le_keep (Fr.le_keep (Fr.le_keep (Fr.le_keep (Fr.le_keep (Fr.le_keep (Fr.le_keep (Fr.le_refl _))))))))))))))))))))))))))) ?_)
                  refine g_cond_false rfl ?_
                  refine g_skip (g_inBlock ?_)
                  refine g_region ?_
                  first | (refine rl_v rfl rfl rfl (S := fun _ => True) trivial (v_add rfl rfl (by omega)) ?_) | (refine rl_v rfl rfl rfl (S := fun _ => True) trivial (v_addW rfl rfl) ?_)
                  refine rl_v rfl rfl rfl (S := fun _ => True) trivial (v_move rfl) ?_
                  refine rl_nil (g_le (Fr.le_keep (Fr.le_keep (Fr.le_refl _))) ?_)
                  exact g_le (by repeat (first | exact Fr.le_nil _ | refine Fr.le_cons rfl ?_)) (ih (i + 1, s2, g2, lv2, cells2, _, rcs2) w ⟨by simp only; omega, by simp only; omega, by simp only; omega, kg, kels, kelr, hw.sub (by (repeat (first | with_reducible exact Sub.refl _ | exact Sub.nil _ | (apply Sub.cons; focus ((repeat (first | with_reducible exact Pick.here _ | apply Pick.there)); (first | done | fail))) | with_reducible apply Sub.drop)); first | done | fail)⟩ (by simp only; omega))
      · intro joinb2
        refine g_block (g_seq ?_)
        refine g_region ?_
        first | (refine rl_v rfl rfl rfl (S := fun _ => True) trivial (v_eqlT rfl rfl (by first | omega | rfl)) ?_) | (refine rl_v rfl rfl rfl (S := fun _ => True) trivial (v_eqlF rfl rfl (by omega)) ?_) | (refine rl_v rfl rfl rfl (S := fun _ => True) trivial (v_eql rfl rfl) ?_)
        refine rl_v rfl rfl rfl (S := fun _ => True) trivial (v_assign rfl) ?_
        refine rl_nil (g_le (Fr.le_keep (Fr.le_keep (Fr.le_refl _))) ?_)
        refine g_cond rfl (fun h4 => ?_) (fun h4 => ?_)
        · try with_reducible exact ft_elim h4
          all_goals
            try replace h4 := of_decide_eq_true h4
            refine g_seq ?_
            refine g_region ?_
            refine rl_v rfl rfl rfl (S := fun _ => True) trivial (v_move rfl) ?_
            refine rl_v rfl rfl rfl (by first | exact sat_cells hw (by (repeat (first | with_reducible exact Pick.here _ | apply Pick.there)); first | done | fail) ⟨rfl, rfl, rfl, rfl, trivial⟩ | exact ro_ats hw (by (repeat (first | with_reducible exact Pick.here _ | apply Pick.there)); first | done | fail) (by assumption) | exact own_cells hw (by (repeat (first | with_reducible exact Pick.here _ | apply Pick.there)); first | done | fail) (by assumption) | exact old_cells hw (by (repeat (first | with_reducible exact Pick.here _ | apply Pick.there)); first | done | fail) (by assumption)) (v_loadAgg (vs := [_, _, _, _]) T.agg_34_4 rfl rfl) ?_
            refine rl_k rfl (k_callf Try.func13 rfl rfl rfl rfl ?_)
            have hgf := s.get_facts (ofR x.r)
            refine Calls.mono (cgetF_calls (ofR x.r) hels hb' (hw.sub (by (repeat (first | with_reducible exact Sub.refl _ | exact Sub.nil _ | (apply Sub.cons; focus ((repeat (first | with_reducible exact Pick.here _ | apply Pick.there)); (first | done | fail))) | with_reducible apply Sub.drop)); first | done | fail))) ?_
            rintro _ w ⟨g2, lv2, cells2, ea, en, ec, ka, kn, kc, hg2, rfl, hnd1, hels2, hw⟩
            refine ⟨_, rfl, ?_⟩
            refine rl_v rfl rfl rfl (S := fun _ => True) trivial (v_move rfl) ?_
            refine rl_v rfl rfl rfl (S := fun _ => True) trivial (v_extract rfl rfl) ?_
            refine rl_v rfl rfl rfl (S := fun _ => True) trivial (v_extract rfl rfl) ?_
            refine rl_k rfl (k_alloc hw T.zero_25 rfl rfl (fun bk15_6 w hw => ?_))
            first | (refine rl_k rfl (k_storeWhole hw T.agg_25_3 rfl rfl (by simp [Value.oneCell']) rfl (by (repeat (first | with_reducible exact Pick.here _ | apply Pick.there)); first | done | fail) rfl (fun w hw => ?_))) | (refine rl_k rfl (k_storeAgg hw T.agg_25_3 rfl rfl (by simp [Value.oneCell']) rfl (by (repeat (first | with_reducible exact Pick.here _ | apply Pick.there)); first | done | fail) rfl rfl (fun w hw => ?_))) | (refine rl_k rfl (k_storeOwnAgg hw T.agg_25_3 rfl rfl (by simp [Value.oneCell']) rfl (by (repeat (first | with_reducible exact Pick.here _ | apply Pick.there)); first | done | fail) (by assumption) (by omega) (fun w hw => ?_)))
            refine rl_v rfl rfl rfl (S := fun _ => True) trivial (v_assign rfl) ?_
            refine rl_nil (g_le (Fr.le_keep (Fr.le_keep (Fr.le_keep (Fr.le_keep (Fr.le_keep (Fr.le_keep (Fr.le_keep (Fr.le_keep (Fr.le_refl _))))))))) ?_)
            refine g_seq ?_
            refine g_region ?_
            refine rl_v rfl rfl rfl (S := fun _ => True) trivial (v_move rfl) ?_
            refine rl_v rfl rfl rfl (by first | exact sat_cells hw (by (repeat (first | with_reducible exact Pick.here _ | apply Pick.there)); first | done | fail) ⟨rfl, rfl, rfl, rfl, trivial⟩ | exact ro_ats hw (by (repeat (first | with_reducible exact Pick.here _ | apply Pick.there)); first | done | fail) (by assumption) | exact own_cells hw (by (repeat (first | with_reducible exact Pick.here _ | apply Pick.there)); first | done | fail) (by assumption) | exact old_cells hw (by (repeat (first | with_reducible exact Pick.here _ | apply Pick.there)); first | done | fail) (by assumption)) (v_loadAgg (vs := [_, _, _, _]) T.agg_34_4 rfl rfl) ?_
            refine rl_k rfl (k_callf Try.func27 rfl rfl rfl rfl ?_)
            refine Calls.mono (rgetF_calls (ofR x.r) (helr.mono mono_Hd hg2) hb' (hw.sub (by (repeat (first | with_reducible exact Sub.refl _ | exact Sub.nil _ | (apply Sub.cons; focus ((repeat (first | with_reducible exact Pick.here _ | apply Pick.there)); (first | done | fail))) | with_reducible apply Sub.drop)); first | done | fail))) ?_
            rintro _ w ⟨g3, rv2, rcs2, fa, fn, fc, la, ln, lc, hg3, rfl, hnd2, helr2, hw⟩
            refine ⟨_, rfl, ?_⟩
            refine rl_v rfl rfl rfl (S := fun _ => True) trivial (v_move rfl) ?_
            refine rl_v rfl rfl rfl (S := fun _ => True) trivial (v_extract rfl rfl) ?_
            refine rl_v rfl rfl rfl (S := fun _ => True) trivial (v_extract rfl rfl) ?_
            refine rl_k rfl (k_alloc hw T.zero_25 rfl rfl (fun bk16_6 w hw => ?_))
            first | (refine rl_k rfl (k_storeWhole hw T.agg_25_3 rfl rfl (by simp [Value.oneCell']) rfl (by (repeat (first | with_reducible exact Pick.here _ | apply Pick.there)); first | done | fail) rfl (fun w hw => ?_))) | (refine rl_k rfl (k_storeAgg hw T.agg_25_3 rfl rfl (by simp [Value.oneCell']) rfl (by (repeat (first | with_reducible exact Pick.here _ | apply Pick.there)); first | done | fail) rfl rfl (fun w hw => ?_))) | (refine rl_k rfl (k_storeOwnAgg hw T.agg_25_3 rfl rfl (by simp [Value.oneCell']) rfl (by (repeat (first | with_reducible exact Pick.here _ | apply Pick.there)); first | done | fail) (by assumption) (by omega) (fun w hw => ?_)))
            refine rl_v rfl rfl rfl (S := fun _ => True) trivial (v_assign rfl) ?_
            refine rl_nil (g_le (Fr.le_keep (Fr.le_keep (Fr.le_keep (Fr.le_keep (Fr.le_keep (Fr.le_keep (Fr.le_keep (Fr.le_keep (Fr.le_refl _))))))))) ?_)
            refine g_seq ?_
            refine g_region ?_
            refine rl_v rfl rfl rfl (S := fun _ => True) trivial (v_move rfl) ?_
            refine rl_v rfl rfl rfl (S := fun _ => True) trivial (v_move rfl) ?_
            first | (refine rl_v rfl rfl rfl (S := fun _ => True) trivial (v_neqBoolF T.bool_4 rfl rfl (by first | rfl | assumption)) ?_) | (refine rl_v rfl rfl rfl (S := fun _ => True) trivial (v_neqBool T.bool_4 rfl rfl) ?_)
            refine rl_v rfl rfl rfl (S := fun _ => True) trivial (v_move rfl) ?_
            refine rl_split (s := 88) rfl (fun g17_3 => ?_) (fun g17_3 => ?_)
            · try with_reducible exact ft_elim g17_3
              all_goals
                try replace g17_3 := of_decide_eq_true g17_3
                simp at g17_3
            · try with_reducible exact tf_elim g17_3
              all_goals
                try replace g17_3 := of_decide_eq_false g17_3
                refine rl_vg (met_on rfl rfl rfl rfl) rfl rfl (by first | exact sat_cells hw (by (repeat (first | with_reducible exact Pick.here _ | apply Pick.there)); first | done | fail) ⟨rfl, rfl, rfl, trivial⟩ | exact ro_ats hw (by (repeat (first | with_reducible exact Pick.here _ | apply Pick.there)); first | done | fail) (by assumption) | exact own_cells hw (by (repeat (first | with_reducible exact Pick.here _ | apply Pick.there)); first | done | fail) (by assumption) | exact old_cells hw (by (repeat (first | with_reducible exact Pick.here _ | apply Pick.there)); first | done | fail) (by assumption)) (v_loadAgg (vs := [_, _, _]) T.agg_25_3 rfl rfl) ?_
                refine rl_vg (met_on rfl rfl rfl rfl) rfl rfl (by first | exact sat_cells hw (by (repeat (first | with_reducible exact Pick.here _ | apply Pick.there)); first | done | fail) ⟨rfl, rfl, rfl, trivial⟩ | exact ro_ats hw (by (repeat (first | with_reducible exact Pick.here _ | apply Pick.there)); first | done | fail) (by assumption) | exact own_cells hw (by (repeat (first | with_reducible exact Pick.here _ | apply Pick.there)); first | done | fail) (by assumption) | exact old_cells hw (by (repeat (first | with_reducible exact Pick.here _ | apply Pick.there)); first | done | fail) (by assumption)) (v_loadAgg (vs := [_, _, _]) T.agg_25_3 rfl rfl) ?_
                refine rl_kg (met_on rfl rfl rfl rfl) (k_callf Try.func15 rfl rfl rfl rfl ?_)
                refine Calls.mono (likeNd_calls (mono_Nd hg3 hnd1) hnd2 (hw.sub (by (repeat (first | with_reducible exact Sub.refl _ | exact Sub.nil _ | (apply Sub.cons; focus ((repeat (first | with_reducible exact Pick.here _ | apply Pick.there)); (first | done | fail))) | with_reducible apply Sub.drop)); first | done | fail))) ?_
                rw [decide_eq_true rfl]
                rintro _ w ⟨rfl, hw⟩
                refine ⟨_, rfl, ?_⟩
                refine rl_vg (met_on rfl rfl rfl rfl) rfl rfl (S := fun _ => True) trivial (v_not rfl) ?_
                first | (refine rl_v rfl rfl rfl (S := fun _ => True) trivial (v_pick_true rfl rfl) ?_) | (refine rl_v rfl rfl rfl (S := fun _ => True) trivial (v_pick_false rfl rfl) ?_) | (refine rl_v rfl rfl rfl (S := fun _ => True) trivial (v_pick rfl rfl rfl) ?_)
                refine rl_nil (g_le (Fr.le_keep (Fr.le_keep (Fr.le_keep (Fr.le_keep (Fr.le_keep (Fr.le_keep (Fr.le_keep (Fr.le_keep (Fr.le_keep (Fr.le_keep (Fr.le_refl _))))))))))) ?_)
                refine g_cond_false rfl ?_
                refine g_skip (g_inBlock ?_)
                exact joinb2 ((s.get (ofR x.r)).2.2, g3, lv2, cells2, rv2, rcs2) w _ (by repeat (first | exact Fr.le_nil _ | refine Fr.le_cons rfl ?_)) ⟨by simp only; omega, hg.trans (hg2.trans hg3), hels2.mono mono_Hd hg3, helr2, hw.sub (by (repeat (first | with_reducible exact Sub.refl _ | exact Sub.nil _ | (apply Sub.cons; focus ((repeat (first | with_reducible exact Pick.here _ | apply Pick.there)); (first | done | fail))) | with_reducible apply Sub.drop)); first | done | fail)⟩
        · try with_reducible exact tf_elim h4
          all_goals
            try replace h4 := of_decide_eq_false h4
            refine g_seq ?_
            refine g_region ?_
            first | (refine rl_v rfl rfl rfl (S := fun _ => True) trivial (v_eqlT rfl rfl (by first | omega | rfl)) ?_) | (refine rl_v rfl rfl rfl (S := fun _ => True) trivial (v_eqlF rfl rfl (by omega)) ?_) | (refine rl_v rfl rfl rfl (S := fun _ => True) trivial (v_eql rfl rfl) ?_)
            refine rl_v rfl rfl rfl (S := fun _ => True) trivial (v_assign rfl) ?_
            refine rl_nil (g_le (Fr.le_keep (Fr.le_keep (Fr.le_refl _))) ?_)
            refine g_cond rfl (fun h6 => ?_) (fun h6 => ?_)
            · try with_reducible exact ft_elim h6
              all_goals
                try replace h6 := of_decide_eq_true h6
                refine g_seq ?_
                refine g_drawB ord_f7_r20_C15P (by kernel_rfl) T.mixed (fun w hw => ((hw.pick .at2).drop.pick .at2).drop) hw (fun w hw => ?_)
                refine rs_a 0 rfl rfl rfl rfl (v_move rfl) ?_
                refine rs_a 3 rfl rfl rfl rfl (v_move rfl) ?_
                refine rs_v 1 rfl rfl rfl rfl (OpV.mono (v_loadAgg (vs := [_, _, _, _]) T.agg_34_4 rfl rfl) (fun w hw => by first | exact sat_cells hw (by (repeat (first | with_reducible exact Pick.here _ | apply Pick.there)); first | done | fail) ⟨rfl, rfl, rfl, rfl, trivial⟩ | exact ro_ats hw (by (repeat (first | with_reducible exact Pick.here _ | apply Pick.there)); first | done | fail) (by assumption) | exact own_cells hw (by (repeat (first | with_reducible exact Pick.here _ | apply Pick.there)); first | done | fail) (by assumption) | exact old_cells hw (by (repeat (first | with_reducible exact Pick.here _ | apply Pick.there)); first | done | fail) (by assumption))) (by first | exact hw | exact Sat.sub hw (by (repeat (first | with_reducible exact Sub.refl _ | exact Sub.nil _ | (apply Sub.cons; focus ((repeat (first | with_reducible exact Pick.here _ | apply Pick.there)); (first | done | fail))) | with_reducible apply Sub.drop)); first | done | fail)) ?_
                refine rs_v 4 rfl rfl rfl rfl (OpV.mono (v_loadAgg (vs := [_, _, _, _]) T.agg_34_4 rfl rfl) (fun w hw => by first | exact sat_cells hw (by (repeat (first | with_reducible exact Pick.here _ | apply Pick.there)); first | done | fail) ⟨rfl, rfl, rfl, rfl, trivial⟩ | exact ro_ats hw (by (repeat (first | with_reducible exact Pick.here _ | apply Pick.there)); first | done | fail) (by assumption) | exact own_cells hw (by (repeat (first | with_reducible exact Pick.here _ | apply Pick.there)); first | done | fail) (by assumption) | exact old_cells hw (by (repeat (first | with_reducible exact Pick.here _ | apply Pick.there)); first | done | fail) (by assumption))) (by first | exact hw | exact Sat.sub hw (by (repeat (first | with_reducible exact Sub.refl _ | exact Sub.nil _ | (apply Sub.cons; focus ((repeat (first | with_reducible exact Pick.here _ | apply Pick.there)); (first | done | fail))) | with_reducible apply Sub.drop)); first | done | fail)) ?_
                refine rs_k 2 rfl rfl (k_callf Try.func17 rfl rfl rfl rfl ?_)
                have hpf := pin_facts s (ofR x.r)
                refine Calls.mono (cpin_calls (ofR x.r) hels hb' (hw.sub (by (repeat (first | with_reducible exact Sub.refl _ | exact Sub.nil _ | (apply Sub.cons; focus ((repeat (first | with_reducible exact Pick.here _ | apply Pick.there)); (first | done | fail))) | with_reducible apply Sub.drop)); first | done | fail))) ?_
                rintro _ w ⟨cells2, rfl, hels2, hw⟩
                refine ⟨_, rfl, ?_⟩
                refine ⟨fun _ => (by first | exact hw | exact Sat.sub hw (by (repeat (first | with_reducible exact Sub.refl _ | exact Sub.nil _ | (apply Sub.cons; focus ((repeat (first | with_reducible exact Pick.here _ | apply Pick.there)); (first | done | fail))) | with_reducible apply Sub.drop)); first | done | fail) | exact Sat.sub (Sat.shrink (Sat.pick hw (by (repeat (first | with_reducible exact Pick.here _ | apply Pick.there)); first | done | fail)) (by assumption)) (by (repeat (first | with_reducible exact Sub.refl _ | exact Sub.nil _ | (apply Sub.cons; focus ((repeat (first | with_reducible exact Pick.here _ | apply Pick.there)); (first | done | fail))) | with_reducible apply Sub.drop)); first | done | fail)), ?_⟩
                refine rs_k 5 rfl rfl (k_callf Try.func28 rfl rfl rfl rfl ?_)
                refine Calls.mono (rpin_calls (ofR x.r) helr hb' (hw.sub (by (repeat (first | with_reducible exact Sub.refl _ | exact Sub.nil _ | (apply Sub.cons; focus ((repeat (first | with_reducible exact Pick.here _ | apply Pick.there)); (first | done | fail))) | with_reducible apply Sub.drop)); first | done | fail))) ?_
                rintro _ w ⟨rcs2, rfl, helr2, hw⟩
                refine ⟨_, rfl, ?_⟩
                refine ⟨fun hn => absurd (by decide) hn, ?_⟩
                first | (refine rs_kv 6 rfl rfl rfl rfl (S' := fun _ => True) trivial (v_neqT rfl rfl (by omega)) ?_) | (refine rs_kv 6 rfl rfl rfl rfl (S' := fun _ => True) trivial (v_neqF rfl rfl (by first | omega | rfl)) ?_) | (refine rs_kv 6 rfl rfl rfl rfl (S' := fun _ => True) trivial (v_neq rfl rfl) ?_)
                refine rs_done (g_le (Fr.le_keep (Fr.le_keep (Fr.le_keep (Fr.le_keep (Fr.le_keep (Fr.le_keep (Fr.le_keep (Fr.le_refl _)))))))) ?_)
                refine g_cond_false rfl ?_
                refine g_skip (g_inBlock ?_)
                exact joinb2 ((s.pin (ofR x.r)).2, g, lv, cells2, rv, rcs2) w _ (by repeat (first | exact Fr.le_nil _ | refine Fr.le_cons rfl ?_)) ⟨by simp only; omega, hg, hels2, helr2, hw.sub (by (repeat (first | with_reducible exact Sub.refl _ | exact Sub.nil _ | (apply Sub.cons; focus ((repeat (first | with_reducible exact Pick.here _ | apply Pick.there)); (first | done | fail))) | with_reducible apply Sub.drop)); first | done | fail)⟩
            · try with_reducible exact tf_elim h6
              all_goals
                try replace h6 := of_decide_eq_false h6
                refine g_seq ?_
                refine g_region ?_
                first | (refine rl_v rfl rfl rfl (S := fun _ => True) trivial (v_eqlT rfl rfl (by first | omega | rfl)) ?_) | (refine rl_v rfl rfl rfl (S := fun _ => True) trivial (v_eqlF rfl rfl (by omega)) ?_) | (refine rl_v rfl rfl rfl (S := fun _ => True) trivial (v_eql rfl rfl) ?_)
                refine rl_v rfl rfl rfl (S := fun _ => True) trivial (v_assign rfl) ?_
                refine rl_nil (g_le (Fr.le_keep (Fr.le_keep (Fr.le_refl _))) ?_)
                refine g_cond rfl (fun h8 => ?_) (fun h8 => ?_)
                · try with_reducible exact ft_elim h8
                  all_goals
                    try replace h8 := of_decide_eq_true h8
                    refine g_seq ?_
                    refine g_drawB ord_f7_r23_C15P (by kernel_rfl) T.mixed (fun w hw => ((hw.pick .at2).drop.pick .at2).drop) hw (fun w hw => ?_)
                    refine rs_a 0 rfl rfl rfl rfl (v_move rfl) ?_
                    refine rs_a 3 rfl rfl rfl rfl (v_move rfl) ?_
                    refine rs_v 1 rfl rfl rfl rfl (OpV.mono (v_loadAgg (vs := [_, _, _, _]) T.agg_34_4 rfl rfl) (fun w hw => by first | exact sat_cells hw (by (repeat (first | with_reducible exact Pick.here _ | apply Pick.there)); first | done | fail) ⟨rfl, rfl, rfl, rfl, trivial⟩ | exact ro_ats hw (by (repeat (first | with_reducible exact Pick.here _ | apply Pick.there)); first | done | fail) (by assumption) | exact own_cells hw (by (repeat (first | with_reducible exact Pick.here _ | apply Pick.there)); first | done | fail) (by assumption) | exact old_cells hw (by (repeat (first | with_reducible exact Pick.here _ | apply Pick.there)); first | done | fail) (by assumption))) (by first | exact hw | exact Sat.sub hw (by (repeat (first | with_reducible exact Sub.refl _ | exact Sub.nil _ | (apply Sub.cons; focus ((repeat (first | with_reducible exact Pick.here _ | apply Pick.there)); (first | done | fail))) | with_reducible apply Sub.drop)); first | done | fail)) ?_
                    refine rs_v 4 rfl rfl rfl rfl (OpV.mono (v_loadAgg (vs := [_, _, _, _]) T.agg_34_4 rfl rfl) (fun w hw => by first | exact sat_cells hw (by (repeat (first | with_reducible exact Pick.here _ | apply Pick.there)); first | done | fail) ⟨rfl, rfl, rfl, rfl, trivial⟩ | exact ro_ats hw (by (repeat (first | with_reducible exact Pick.here _ | apply Pick.there)); first | done | fail) (by assumption) | exact own_cells hw (by (repeat (first | with_reducible exact Pick.here _ | apply Pick.there)); first | done | fail) (by assumption) | exact old_cells hw (by (repeat (first | with_reducible exact Pick.here _ | apply Pick.there)); first | done | fail) (by assumption))) (by first | exact hw | exact Sat.sub hw (by (repeat (first | with_reducible exact Sub.refl _ | exact Sub.nil _ | (apply Sub.cons; focus ((repeat (first | with_reducible exact Pick.here _ | apply Pick.there)); (first | done | fail))) | with_reducible apply Sub.drop)); first | done | fail)) ?_
                    refine rs_k 2 rfl rfl (k_callf Try.func25 rfl rfl rfl rfl ?_)
                    have hpf := unpin_facts s (ofR x.r)
                    refine Calls.mono (cunpin_calls (ofR x.r) hels hb' (hw.sub (by (repeat (first | with_reducible exact Sub.refl _ | exact Sub.nil _ | (apply Sub.cons; focus ((repeat (first | with_reducible exact Pick.here _ | apply Pick.there)); (first | done | fail))) | with_reducible apply Sub.drop)); first | done | fail))) ?_
                    rintro _ w ⟨cells2, rfl, hels2, hw⟩
                    refine ⟨_, rfl, ?_⟩
                    refine ⟨fun _ => (by first | exact hw | exact Sat.sub hw (by (repeat (first | with_reducible exact Sub.refl _ | exact Sub.nil _ | (apply Sub.cons; focus ((repeat (first | with_reducible exact Pick.here _ | apply Pick.there)); (first | done | fail))) | with_reducible apply Sub.drop)); first | done | fail) | exact Sat.sub (Sat.shrink (Sat.pick hw (by (repeat (first | with_reducible exact Pick.here _ | apply Pick.there)); first | done | fail)) (by assumption)) (by (repeat (first | with_reducible exact Sub.refl _ | exact Sub.nil _ | (apply Sub.cons; focus ((repeat (first | with_reducible exact Pick.here _ | apply Pick.there)); (first | done | fail))) | with_reducible apply Sub.drop)); first | done | fail)), ?_⟩
                    refine rs_k 5 rfl rfl (k_callf Try.func29 rfl rfl rfl rfl ?_)
                    refine Calls.mono (runpin_calls (ofR x.r) helr hb' (hw.sub (by (repeat (first | with_reducible exact Sub.refl _ | exact Sub.nil _ | (apply Sub.cons; focus ((repeat (first | with_reducible exact Pick.here _ | apply Pick.there)); (first | done | fail))) | with_reducible apply Sub.drop)); first | done | fail))) ?_
                    rintro _ w ⟨rcs2, rfl, helr2, hw⟩
                    refine ⟨_, rfl, ?_⟩
                    refine ⟨fun hn => absurd (by decide) hn, ?_⟩
                    first | (refine rs_kv 6 rfl rfl rfl rfl (S' := fun _ => True) trivial (v_neqT rfl rfl (by omega)) ?_) | (refine rs_kv 6 rfl rfl rfl rfl (S' := fun _ => True) trivial (v_neqF rfl rfl (by first | omega | rfl)) ?_) | (refine rs_kv 6 rfl rfl rfl rfl (S' := fun _ => True) trivial (v_neq rfl rfl) ?_)
                    refine rs_done (g_le (Fr.le_keep (Fr.le_keep (Fr.le_keep (Fr.le_keep (Fr.le_keep (Fr.le_keep (Fr.le_keep (Fr.le_refl _)))))))) ?_)
                    refine g_cond_false rfl ?_
                    refine g_skip (g_inBlock ?_)
                    exact joinb2 ((s.unpin (ofR x.r)).2, g, lv, cells2, rv, rcs2) w _ (by repeat (first | exact Fr.le_nil _ | refine Fr.le_cons rfl ?_)) ⟨by simp only; omega, hg, hels2, helr2, hw.sub (by (repeat (first | with_reducible exact Sub.refl _ | exact Sub.nil _ | (apply Sub.cons; focus ((repeat (first | with_reducible exact Pick.here _ | apply Pick.there)); (first | done | fail))) | with_reducible apply Sub.drop)); first | done | fail)⟩
                · try with_reducible exact tf_elim h8
                  all_goals
                    try replace h8 := of_decide_eq_false h8
                    refine g_seq ?_
                    refine g_region ?_
                    first | (refine rl_v rfl rfl rfl (S := fun _ => True) trivial (v_eqlT rfl rfl (by first | omega | rfl)) ?_) | (refine rl_v rfl rfl rfl (S := fun _ => True) trivial (v_eqlF rfl rfl (by omega)) ?_) | (refine rl_v rfl rfl rfl (S := fun _ => True) trivial (v_eql rfl rfl) ?_)
                    refine rl_v rfl rfl rfl (S := fun _ => True) trivial (v_assign rfl) ?_
                    refine rl_nil (g_le (Fr.le_keep (Fr.le_keep (Fr.le_refl _))) ?_)
                    refine g_cond rfl (fun h10 => ?_) (fun h10 => ?_)
                    · try with_reducible exact ft_elim h10
                      all_goals
                        try replace h10 := of_decide_eq_true h10
                        refine g_seq ?_
                        refine g_drawB ord_f7_r26_C15P (by kernel_rfl) T.mixed (fun w hw => ((hw.pick .at2).drop.pick .at2).drop) hw (fun w hw => ?_)
                        refine rs_a 0 rfl rfl rfl rfl (v_move rfl) ?_
                        first | (refine rs_a 1 rfl rfl rfl rfl (v_fieldAddr0 T.fld_49_3_5 rfl) ?_) | (refine rs_a 1 rfl rfl rfl rfl (v_fieldAddr T.fld_49_3_5 rfl) ?_)
                        refine rs_a 5 rfl rfl rfl rfl (v_move rfl) ?_
                        first | (refine rs_a 6 rfl rfl rfl rfl (v_fieldAddr0 T.fld_49_3_5 rfl) ?_) | (refine rs_a 6 rfl rfl rfl rfl (v_fieldAddr T.fld_49_3_5 rfl) ?_)
                        refine rs_v 2 rfl rfl rfl rfl (OpV.mono (v_load T.scal_46 rfl) (fun w hw => by first | exact sat_cell hw (by (repeat (first | with_reducible exact Pick.here _ | apply Pick.there)); first | done | fail) rfl | exact own_cell hw (by (repeat (first | with_reducible exact Pick.here _ | apply Pick.there)); first | done | fail) (by first | rfl | assumption) | exact ro_at0 hw (by (repeat (first | with_reducible exact Pick.here _ | apply Pick.there)); first | done | fail) (by assumption) rfl | exact ro_at hw (by (repeat (first | with_reducible exact Pick.here _ | apply Pick.there)); first | done | fail) (by assumption) rfl | exact own_at0 hw (by (repeat (first | with_reducible exact Pick.here _ | apply Pick.there)); first | done | fail) (by assumption) rfl | exact own_at hw (by (repeat (first | with_reducible exact Pick.here _ | apply Pick.there)); first | done | fail) (by assumption) rfl | exact old_cell hw (by (repeat (first | with_reducible exact Pick.here _ | apply Pick.there)); first | done | fail) (by assumption) | assumption)) (by first | exact hw | exact Sat.sub hw (by (repeat (first | with_reducible exact Sub.refl _ | exact Sub.nil _ | (apply Sub.cons; focus ((repeat (first | with_reducible exact Pick.here _ | apply Pick.there)); (first | done | fail))) | with_reducible apply Sub.drop)); first | done | fail)) ?_
                        refine rs_v 7 rfl rfl rfl rfl (OpV.mono (v_load T.scal_46 rfl) (fun w hw => by first | exact sat_cell hw (by (repeat (first | with_reducible exact Pick.here _ | apply Pick.there)); first | done | fail) rfl | exact own_cell hw (by (repeat (first | with_reducible exact Pick.here _ | apply Pick.there)); first | done | fail) (by first | rfl | assumption) | exact ro_at0 hw (by (repeat (first | with_reducible exact Pick.here _ | apply Pick.there)); first | done | fail) (by assumption) rfl | exact ro_at hw (by (repeat (first | with_reducible exact Pick.here _ | apply Pick.there)); first | done | fail) (by assumption) rfl | exact own_at0 hw (by (repeat (first | with_reducible exact Pick.here _ | apply Pick.there)); first | done | fail) (by assumption) rfl | exact own_at hw (by (repeat (first | with_reducible exact Pick.here _ | apply Pick.there)); first | done | fail) (by assumption) rfl | exact old_cell hw (by (repeat (first | with_reducible exact Pick.here _ | apply Pick.there)); first | done | fail) (by assumption) | assumption)) (by first | exact hw | exact Sat.sub hw (by (repeat (first | with_reducible exact Sub.refl _ | exact Sub.nil _ | (apply Sub.cons; focus ((repeat (first | with_reducible exact Pick.here _ | apply Pick.there)); (first | done | fail))) | with_reducible apply Sub.drop)); first | done | fail)) ?_
                        refine rs_k 3 rfl rfl (k_callf Try.func20 rfl rfl rfl rfl ?_)
                        refine Calls.mono (refs_calls hrf (hw.sub (by (repeat (first | with_reducible exact Sub.refl _ | exact Sub.nil _ | (apply Sub.cons; focus ((repeat (first | with_reducible exact Pick.here _ | apply Pick.there)); (first | done | fail))) | with_reducible apply Sub.drop)); first | done | fail))) ?_
                        rintro _ w ⟨g2, ra, rm2, rk, hg2, rfl, hrs, hw⟩
                        refine ⟨_, rfl, ?_⟩
                        refine ⟨fun _ => (by first | exact hw | exact Sat.sub hw (by (repeat (first | with_reducible exact Sub.refl _ | exact Sub.nil _ | (apply Sub.cons; focus ((repeat (first | with_reducible exact Pick.here _ | apply Pick.there)); (first | done | fail))) | with_reducible apply Sub.drop)); first | done | fail) | exact Sat.sub (Sat.shrink (Sat.pick hw (by (repeat (first | with_reducible exact Pick.here _ | apply Pick.there)); first | done | fail)) (by assumption)) (by (repeat (first | with_reducible exact Sub.refl _ | exact Sub.nil _ | (apply Sub.cons; focus ((repeat (first | with_reducible exact Pick.here _ | apply Pick.there)); (first | done | fail))) | with_reducible apply Sub.drop)); first | done | fail)), ?_⟩
                        refine rs_k 4 rfl rfl (k_callf Try.func19 rfl rfl rfl rfl ?_)
                        have hpf := drop_facts (refsOf x.refs) (s, 0)
                        refine Calls.mono (cdrop_calls hrs (hels.mono mono_Hd hg2) hb' (hw.sub (by (repeat (first | with_reducible exact Sub.refl _ | exact Sub.nil _ | (apply Sub.cons; focus ((repeat (first | with_reducible exact Pick.here _ | apply Pick.there)); (first | done | fail))) | with_reducible apply Sub.drop)); first | done | fail))) ?_
                        rintro _ w ⟨lv2, cells2, rfl, hels2, hw⟩
                        refine ⟨_, rfl, ?_⟩
                        refine ⟨fun _ => (by first | exact hw | exact Sat.sub hw (by (repeat (first | with_reducible exact Sub.refl _ | exact Sub.nil _ | (apply Sub.cons; focus ((repeat (first | with_reducible exact Pick.here _ | apply Pick.there)); (first | done | fail))) | with_reducible apply Sub.drop)); first | done | fail) | exact Sat.sub (Sat.shrink (Sat.pick hw (by (repeat (first | with_reducible exact Pick.here _ | apply Pick.there)); first | done | fail)) (by assumption)) (by (repeat (first | with_reducible exact Sub.refl _ | exact Sub.nil _ | (apply Sub.cons; focus ((repeat (first | with_reducible exact Pick.here _ | apply Pick.there)); (first | done | fail))) | with_reducible apply Sub.drop)); first | done | fail)), ?_⟩
                        refine rs_k 8 rfl rfl (k_callf Try.func20 rfl rfl rfl rfl ?_)
                        refine Calls.mono (refs_calls (mono_sl mono_int hg2 hrf) (hw.sub (by (repeat (first | with_reducible exact Sub.refl _ | exact Sub.nil _ | (apply Sub.cons; focus ((repeat (first | with_reducible exact Pick.here _ | apply Pick.there)); (first | done | fail))) | with_reducible apply Sub.drop)); first | done | fail))) ?_
                        rintro _ w ⟨g3, ra3, rm3, rk3, hg3, rfl, hrs3, hw⟩
                        refine ⟨_, rfl, ?_⟩
                        refine ⟨fun hn => absurd (by decide) hn, ?_⟩
                        refine rs_k 9 rfl rfl (k_callf Try.func30 rfl rfl rfl rfl ?_)
                        refine Calls.mono (rdrop_calls hrs3 (helr.mono mono_Hd (hg2.trans hg3)) hb' (hw.sub (by (repeat (first | with_reducible exact Sub.refl _ | exact Sub.nil _ | (apply Sub.cons; focus ((repeat (first | with_reducible exact Pick.here _ | apply Pick.there)); (first | done | fail))) | with_reducible apply Sub.drop)); first | done | fail))) ?_
                        rintro _ w ⟨rv2, rcs2, rfl, helr2, hw⟩
                        refine ⟨_, rfl, ?_⟩
                        refine ⟨fun hn => absurd (by decide) hn, ?_⟩
                        first | (refine rs_kv 10 rfl rfl rfl rfl (S' := fun _ => True) trivial (v_neqT rfl rfl (by omega)) ?_) | (refine rs_kv 10 rfl rfl rfl rfl (S' := fun _ => True) trivial (v_neqF rfl rfl (by first | omega | rfl)) ?_) | (refine rs_kv 10 rfl rfl rfl rfl (S' := fun _ => True) trivial (v_neq rfl rfl) ?_)
                        refine rs_done (g_le (Fr.le_keep (Fr.le_keep (Fr.le_keep (Fr.le_keep (Fr.le_keep (Fr.le_keep (Fr.le_keep (Fr.le_keep (Fr.le_keep (Fr.le_keep (Fr.le_keep (Fr.le_refl _)))))))))))) ?_)
                        refine g_cond_false rfl ?_
                        refine g_skip (g_inBlock ?_)
                        dsimp only at hpf
                        exact joinb2 (((refsOf x.refs).foldl Ch.drop1 (s, 0)).1, g3, lv2, cells2, rv2, rcs2) w _ (by repeat (first | exact Fr.le_nil _ | refine Fr.le_cons rfl ?_)) ⟨by simp only; omega, hg.trans (hg2.trans hg3), hels2.mono mono_Hd hg3, helr2, hw.sub (by (repeat (first | with_reducible exact Sub.refl _ | exact Sub.nil _ | (apply Sub.cons; focus ((repeat (first | with_reducible exact Pick.here _ | apply Pick.there)); (first | done | fail))) | with_reducible apply Sub.drop)); first | done | fail)⟩
                    · try with_reducible exact tf_elim h10
                      all_goals
                        try replace h10 := of_decide_eq_false h10
                        refine g_seq ?_
                        refine g_region ?_
                        first | (refine rl_v rfl rfl rfl (S := fun _ => True) trivial (v_eqlT rfl rfl (by first | omega | rfl)) ?_) | (refine rl_v rfl rfl rfl (S := fun _ => True) trivial (v_eqlF rfl rfl (by omega)) ?_) | (refine rl_v rfl rfl rfl (S := fun _ => True) trivial (v_eql rfl rfl) ?_)
                        refine rl_v rfl rfl rfl (S := fun _ => True) trivial (v_assign rfl) ?_
                        refine rl_nil (g_le (Fr.le_keep (Fr.le_keep (Fr.le_refl _))) ?_)
                        refine g_cond rfl (fun h12 => ?_) (fun h12 => ?_)
                        · try with_reducible exact ft_elim h12
                          all_goals
                            try replace h12 := of_decide_eq_true h12
                            refine g_seq ?_
                            refine g_region ?_
                            refine rl_v rfl rfl rfl (S := fun _ => True) trivial (v_move rfl) ?_
                            refine rl_k rfl (k_callf Try.func22 rfl rfl rfl rfl ?_)
                            refine Calls.mono (cwipe_calls (hw.sub (by (repeat (first | with_reducible exact Sub.refl _ | exact Sub.nil _ | (apply Sub.cons; focus ((repeat (first | with_reducible exact Pick.here _ | apply Pick.there)); (first | done | fail))) | with_reducible apply Sub.drop)); first | done | fail))) ?_
                            rintro _ w ⟨rfl, hw⟩
                            refine ⟨_, rfl, ?_⟩
                            refine rl_nil (g_le (Fr.le_skip rfl (Fr.le_keep (Fr.le_refl _))) ?_)
                            refine g_region ?_
                            refine rl_v rfl rfl rfl (S := fun _ => True) trivial (v_move rfl) ?_
                            refine rl_v rfl rfl rfl (S := fun _ => True) trivial (v_nilCheck rfl) ?_
                            first | (refine rl_v rfl rfl rfl (S := fun _ => True) trivial (v_fieldAddr0 T.fld_67_1_1 rfl) ?_) | (refine rl_v rfl rfl rfl (S := fun _ => True) trivial (v_fieldAddr T.fld_67_1_1 rfl) ?_)
                            first | (refine rl_k rfl (k_storeOwn hw T.scal_39 rfl rfl rfl (by (repeat (first | with_reducible exact Pick.here _ | apply Pick.there)); first | done | fail) (by assumption) (fun w hw => ?_))) | (refine rl_k rfl (k_store hw T.scal_39 rfl rfl rfl (by (repeat (first | with_reducible exact Pick.here _ | apply Pick.there)); first | done | fail) rfl (by first | (simp only [List.set, Int.reduceToNat, Nat.reduceMul, Nat.reduceAdd]; rfl) | rfl) (fun w hw => ?_)))
                            refine rl_nil (g_le (Fr.le_keep (Fr.le_keep (Fr.le_keep (Fr.le_refl _)))) ?_)
                            have hw := hw.own_nil 42 8
                            refine g_inBlock ?_
                            refine joinb2 ((⟨s.room, [], s.hits, s.misses⟩ : Ch), g, .slice none 0 0, [], .slice none 0 0, []) w _ (by repeat (first | exact Fr.le_nil _ | refine Fr.le_cons rfl ?_)) ⟨by simp; omega, hg, Els.nil, Els.nil, ?_⟩
                            dsimp only [List.length_nil] at hw ⊢
                            exact hw.sub (by (repeat (first | with_reducible exact Sub.refl _ | exact Sub.nil _ | (apply Sub.cons; focus ((repeat (first | with_reducible exact Pick.here _ | apply Pick.there)); (first | done | fail))) | with_reducible apply Sub.drop)); first | done | fail)
                        · try with_reducible exact tf_elim h12
                          all_goals
                            try replace h12 := of_decide_eq_false h12
                            refine g_seq ?_
                            refine g_region ?_
                            first | (refine rl_v rfl rfl rfl (S := fun _ => True) trivial (v_eqlT rfl rfl (by first | omega | rfl)) ?_) | (refine rl_v rfl rfl rfl (S := fun _ => True) trivial (v_eqlF rfl rfl (by omega)) ?_) | (refine rl_v rfl rfl rfl (S := fun _ => True) trivial (v_eql rfl rfl) ?_)
                            refine rl_v rfl rfl rfl (S := fun _ => True) trivial (v_assign rfl) ?_
                            refine rl_nil (g_le (Fr.le_keep (Fr.le_keep (Fr.le_refl _))) ?_)
                            refine g_cond rfl (fun h13 => ?_) (fun h13 => ?_)
                            · try with_reducible exact ft_elim h13
                              all_goals
                                try replace h13 := of_decide_eq_true h13
                                refine g_seq ?_
                                refine g_drawR ord_f7_r32_C15P (by kernel_rfl) T.mixed hw (fun w hw => ?_)
                                refine rs_a 0 rfl rfl rfl rfl (v_move rfl) ?_
                                refine rs_a 2 rfl rfl rfl rfl (v_move rfl) ?_
                                refine rs_a 3 rfl rfl rfl rfl (v_nilCheck rfl) ?_
                                first | (refine rs_a 4 rfl rfl rfl rfl (v_fieldAddr0 T.fld_67_1_1 rfl) ?_) | (refine rs_a 4 rfl rfl rfl rfl (v_fieldAddr T.fld_67_1_1 rfl) ?_)
                                refine rs_v 5 rfl rfl rfl rfl (OpV.mono (v_load T.scal_39 rfl) (fun w hw => by first | exact sat_cell hw (by (repeat (first | with_reducible exact Pick.here _ | apply Pick.there)); first | done | fail) rfl | exact own_cell hw (by (repeat (first | with_reducible exact Pick.here _ | apply Pick.there)); first | done | fail) (by first | rfl | assumption) | exact ro_at0 hw (by (repeat (first | with_reducible exact Pick.here _ | apply Pick.there)); first | done | fail) (by assumption) rfl | exact ro_at hw (by (repeat (first | with_reducible exact Pick.here _ | apply Pick.there)); first | done | fail) (by assumption) rfl | exact own_at0 hw (by (repeat (first | with_reducible exact Pick.here _ | apply Pick.there)); first | done | fail) (by assumption) rfl | exact own_at hw (by (repeat (first | with_reducible exact Pick.here _ | apply Pick.there)); first | done | fail) (by assumption) rfl | exact old_cell hw (by (repeat (first | with_reducible exact Pick.here _ | apply Pick.there)); first | done | fail) (by assumption) | assumption)) (by first | exact hw | exact Sat.sub hw (by (repeat (first | with_reducible exact Sub.refl _ | exact Sub.nil _ | (apply Sub.cons; focus ((repeat (first | with_reducible exact Pick.here _ | apply Pick.there)); (first | done | fail))) | with_reducible apply Sub.drop)); first | done | fail)) ?_
                                refine rs_k 1 rfl rfl (k_callf Try.func14 rfl rfl rfl rfl ?_)
                                refine Calls.mono (choldsC_calls hels hb' (hw.sub (by (repeat (first | with_reducible exact Sub.refl _ | exact Sub.nil _ | (apply Sub.cons; focus ((repeat (first | with_reducible exact Pick.here _ | apply Pick.there)); (first | done | fail))) | with_reducible apply Sub.drop)); first | done | fail))) ?_
                                rintro _ w ⟨g2, ha2, hn2, hk2, hg2, rfl, hrd2, hw⟩
                                refine ⟨_, rfl, ?_⟩
                                refine ⟨fun _ => (by first | exact hw | exact Sat.sub hw (by (repeat (first | with_reducible exact Sub.refl _ | exact Sub.nil _ | (apply Sub.cons; focus ((repeat (first | with_reducible exact Pick.here _ | apply Pick.there)); (first | done | fail))) | with_reducible apply Sub.drop)); first | done | fail) | exact Sat.sub (Sat.shrink (Sat.pick hw (by (repeat (first | with_reducible exact Pick.here _ | apply Pick.there)); first | done | fail)) (by assumption)) (by (repeat (first | with_reducible exact Sub.refl _ | exact Sub.nil _ | (apply Sub.cons; focus ((repeat (first | with_reducible exact Pick.here _ | apply Pick.there)); (first | done | fail))) | with_reducible apply Sub.drop)); first | done | fail)), ?_⟩
                                refine rs_k 6 rfl rfl (k_callf Try.func31 rfl rfl rfl rfl ?_)
                                refine Calls.mono (rsame_calls hrd2 (helr.mono mono_Hd hg2) (hw.sub (by (repeat (first | with_reducible exact Sub.refl _ | exact Sub.nil _ | (apply Sub.cons; focus ((repeat (first | with_reducible exact Pick.here _ | apply Pick.there)); (first | done | fail))) | with_reducible apply Sub.drop)); first | done | fail))) ?_
                                rintro _ w ⟨rfl, hw⟩
                                refine ⟨_, rfl, ?_⟩
                                refine ⟨fun hn => absurd (by decide) hn, ?_⟩
                                refine rs_kv 7 rfl rfl rfl rfl (S' := fun _ => True) trivial (v_not rfl) ?_
                                refine rs_done (g_le (Fr.le_keep (Fr.le_keep (Fr.le_keep (Fr.le_keep (Fr.le_keep (Fr.le_keep (Fr.le_keep (Fr.le_keep (Fr.le_refl _))))))))) ?_)
                                refine g_cond_false rfl ?_
                                refine g_skip (g_inBlock ?_)
                                exact joinb2 (s, g2, lv, cells, rv, rcs) w _ (by repeat (first | exact Fr.le_nil _ | refine Fr.le_cons rfl ?_)) ⟨by simp only; omega, hg.trans hg2, hels.mono mono_Hd hg2, helr.mono mono_Hd hg2, hw.sub (by (repeat (first | with_reducible exact Sub.refl _ | exact Sub.nil _ | (apply Sub.cons; focus ((repeat (first | with_reducible exact Pick.here _ | apply Pick.there)); (first | done | fail))) | with_reducible apply Sub.drop)); first | done | fail)⟩
                            · try with_reducible exact tf_elim h13
                              all_goals
                                try replace h13 := of_decide_eq_false h13
                                refine g_seq ?_
                                refine g_drawB ord_f7_r12_C15P (by kernel_rfl) T.mixed (fun w hw => ((hw.pick .at2).drop.pick .at2).drop) hw (fun w hw => ?_)
                                refine rs_a 0 rfl rfl rfl rfl (v_move rfl) ?_
                                first | (refine rs_a 2 rfl rfl rfl rfl (v_fieldAddr0 T.fld_49_2_2 rfl) ?_) | (refine rs_a 2 rfl rfl rfl rfl (v_fieldAddr T.fld_49_2_2 rfl) ?_)
                                refine rs_a 5 rfl rfl rfl rfl (v_move rfl) ?_
                                first | (refine rs_a 7 rfl rfl rfl rfl (v_fieldAddr0 T.fld_49_2_2 rfl) ?_) | (refine rs_a 7 rfl rfl rfl rfl (v_fieldAddr T.fld_49_2_2 rfl) ?_)
                                refine rs_v 1 rfl rfl rfl rfl (OpV.mono (v_loadAgg (vs := [_, _, _, _]) T.agg_34_4 rfl rfl) (fun w hw => by first | exact sat_cells hw (by (repeat (first | with_reducible exact Pick.here _ | apply Pick.there)); first | done | fail) ⟨rfl, rfl, rfl, rfl, trivial⟩ | exact ro_ats hw (by (repeat (first | with_reducible exact Pick.here _ | apply Pick.there)); first | done | fail) (by assumption) | exact own_cells hw (by (repeat (first | with_reducible exact Pick.here _ | apply Pick.there)); first | done | fail) (by assumption) | exact old_cells hw (by (repeat (first | with_reducible exact Pick.here _ | apply Pick.there)); first | done | fail) (by assumption))) (by first | exact hw | exact Sat.sub hw (by (repeat (first | with_reducible exact Sub.refl _ | exact Sub.nil _ | (apply Sub.cons; focus ((repeat (first | with_reducible exact Pick.here _ | apply Pick.there)); (first | done | fail))) | with_reducible apply Sub.drop)); first | done | fail)) ?_
                                refine rs_v 3 rfl rfl rfl rfl (OpV.mono (v_loadAgg (vs := [_, _, _]) T.agg_25_3 rfl rfl) (fun w hw => by first | exact sat_cells hw (by (repeat (first | with_reducible exact Pick.here _ | apply Pick.there)); first | done | fail) ⟨rfl, rfl, rfl, trivial⟩ | exact ro_ats hw (by (repeat (first | with_reducible exact Pick.here _ | apply Pick.there)); first | done | fail) (by assumption) | exact own_cells hw (by (repeat (first | with_reducible exact Pick.here _ | apply Pick.there)); first | done | fail) (by assumption) | exact old_cells hw (by (repeat (first | with_reducible exact Pick.here _ | apply Pick.there)); first | done | fail) (by assumption))) (by first | exact hw | exact Sat.sub hw (by (repeat (first | with_reducible exact Sub.refl _ | exact Sub.nil _ | (apply Sub.cons; focus ((repeat (first | with_reducible exact Pick.here _ | apply Pick.there)); (first | done | fail))) | with_reducible apply Sub.drop)); first | done | fail)) ?_
                                refine rs_v 6 rfl rfl rfl rfl (OpV.mono (v_loadAgg (vs := [_, _, _, _]) T.agg_34_4 rfl rfl) (fun w hw => by first | exact sat_cells hw (by (repeat (first | with_reducible exact Pick.here _ | apply Pick.there)); first | done | fail) ⟨rfl, rfl, rfl, rfl, trivial⟩ | exact ro_ats hw (by (repeat (first | with_reducible exact Pick.here _ | apply Pick.there)); first | done | fail) (by assumption) | exact own_cells hw (by (repeat (first | with_reducible exact Pick.here _ | apply Pick.there)); first | done | fail) (by assumption) | exact old_cells hw (by (repeat (first | with_reducible exact Pick.here _ | apply Pick.there)); first | done | fail) (by assumption))) (by first | exact hw | exact Sat.sub hw (by (repeat (first | with_reducible exact Sub.refl _ | exact Sub.nil _ | (apply Sub.cons; focus ((repeat (first | with_reducible exact Pick.here _ | apply Pick.there)); (first | done | fail))) | with_reducible apply Sub.drop)); first | done | fail)) ?_
                                refine rs_v 8 rfl rfl rfl rfl (OpV.mono (v_loadAgg (vs := [_, _, _]) T.agg_25_3 rfl rfl) (fun w hw => by first | exact sat_cells hw (by (repeat (first | with_reducible exact Pick.here _ | apply Pick.there)); first | done | fail) ⟨rfl, rfl, rfl, trivial⟩ | exact ro_ats hw (by (repeat (first | with_reducible exact Pick.here _ | apply Pick.there)); first | done | fail) (by assumption) | exact own_cells hw (by (repeat (first | with_reducible exact Pick.here _ | apply Pick.there)); first | done | fail) (by assumption) | exact old_cells hw (by (repeat (first | with_reducible exact Pick.here _ | apply Pick.there)); first | done | fail) (by assumption))) (by first | exact hw | exact Sat.sub hw (by (repeat (first | with_reducible exact Sub.refl _ | exact Sub.nil _ | (apply Sub.cons; focus ((repeat (first | with_reducible exact Pick.here _ | apply Pick.there)); (first | done | fail))) | with_reducible apply Sub.drop)); first | done | fail)) ?_
                                refine rs_k 4 rfl rfl (k_callf Try.func10 rfl rfl rfl rfl ?_)
                                have hpf := put_facts s (ofR x.r) x.n
                                refine Calls.mono (cput_calls (ofR x.r) (ofR_ok _) hnd hels hb' (hw.sub (by (repeat (first | with_reducible exact Sub.refl _ | exact Sub.nil _ | (apply Sub.cons; focus ((repeat (first | with_reducible exact Pick.here _ | apply Pick.there)); (first | done | fail))) | with_reducible apply Sub.drop)); first | done | fail))) ?_
                                rintro _ w ⟨g2, lv2, cells2, hg2, rfl, hels2, hw⟩
                                refine ⟨_, rfl, ?_⟩
                                refine ⟨fun _ => (by first | exact hw | exact Sat.sub hw (by (repeat (first | with_reducible exact Sub.refl _ | exact Sub.nil _ | (apply Sub.cons; focus ((repeat (first | with_reducible exact Pick.here _ | apply Pick.there)); (first | done | fail))) | with_reducible apply Sub.drop)); first | done | fail) | exact Sat.sub (Sat.shrink (Sat.pick hw (by (repeat (first | with_reducible exact Pick.here _ | apply Pick.there)); first | done | fail)) (by assumption)) (by (repeat (first | with_reducible exact Sub.refl _ | exact Sub.nil _ | (apply Sub.cons; focus ((repeat (first | with_reducible exact Pick.here _ | apply Pick.there)); (first | done | fail))) | with_reducible apply Sub.drop)); first | done | fail)), ?_⟩
                                refine rs_k 9 rfl rfl (k_callf Try.func32 rfl rfl rfl rfl ?_)
                                refine Calls.mono (rput_calls (ofR x.r) (ofR_ok _) (mono_Nd hg2 hnd) (helr.mono mono_Hd hg2) hb' (hw.sub (by (repeat (first | with_reducible exact Sub.refl _ | exact Sub.nil _ | (apply Sub.cons; focus ((repeat (first | with_reducible exact Pick.here _ | apply Pick.there)); (first | done | fail))) | with_reducible apply Sub.drop)); first | done | fail))) ?_
                                rintro _ w ⟨g3, rv2, rcs2, hg3, rfl, helr2, hw⟩
                                refine ⟨_, rfl, ?_⟩
                                refine ⟨fun hn => absurd (by decide) hn, ?_⟩
                                first | (refine rs_kv 10 rfl rfl rfl rfl (S' := fun _ => True) trivial (v_neqT rfl rfl (by omega)) ?_) | (refine rs_kv 10 rfl rfl rfl rfl (S' := fun _ => True) trivial (v_neqF rfl rfl (by first | omega | rfl)) ?_) | (refine rs_kv 10 rfl rfl rfl rfl (S' := fun _ => True) trivial (v_neq rfl rfl) ?_)
                                refine rs_done (g_le (Fr.le_keep (Fr.le_keep (Fr.le_keep (Fr.le_keep (Fr.le_keep (Fr.le_keep (Fr.le_keep (Fr.le_keep (Fr.le_keep (Fr.le_keep (Fr.le_keep (Fr.le_refl _)))))))))))) ?_)
                                refine g_cond_false rfl ?_
                                refine g_skip (g_inBlock ?_)
                                exact joinb2 ((s.put (ofR x.r) x.n).2, g3, lv2, cells2, rv2, rcs2) w _ (by repeat (first | exact Fr.le_nil _ | refine Fr.le_cons rfl ?_)) ⟨by simp only; omega, hg.trans (hg2.trans hg3), hels2.mono mono_Hd hg3, helr2, hw.sub (by (repeat (first | with_reducible exact Sub.refl _ | exact Sub.nil _ | (apply Sub.cons; focus ((repeat (first | with_reducible exact Pick.here _ | apply Pick.there)); (first | done | fail))) | with_reducible apply Sub.drop)); first | done | fail)⟩
  · try with_reducible exact tf_elim h3
    all_goals
      try replace h3 := of_decide_eq_false h3
      refine g_exit rfl (g_seq ?_)
      refine g_drawR ord_f7_r38_C15P (by kernel_rfl) T.mixed hw (fun w hw => ?_)
      refine rs_a 0 rfl rfl rfl rfl (v_move rfl) ?_
      refine rs_a 2 rfl rfl rfl rfl (v_move rfl) ?_
      refine rs_a 3 rfl rfl rfl rfl (v_nilCheck rfl) ?_
      first | (refine rs_a 4 rfl rfl rfl rfl (v_fieldAddr0 T.fld_67_1_1 rfl) ?_) | (refine rs_a 4 rfl rfl rfl rfl (v_fieldAddr T.fld_67_1_1 rfl) ?_)
      refine rs_v 5 rfl rfl rfl rfl (OpV.mono (v_load T.scal_39 rfl) (fun w hw => by first | exact sat_cell hw (by (repeat (first | with_reducible exact Pick.here _ | apply Pick.there)); first | done | fail) rfl | exact own_cell hw (by (repeat (first | with_reducible exact Pick.here _ | apply Pick.there)); first | done | fail) (by first | rfl | assumption) | exact ro_at0 hw (by (repeat (first | with_reducible exact Pick.here _ | apply Pick.there)); first | done | fail) (by assumption) rfl | exact ro_at hw (by (repeat (first | with_reducible exact Pick.here _ | apply Pick.there)); first | done | fail) (by assumption) rfl | exact own_at0 hw (by (repeat (first | with_reducible exact Pick.here _ | apply Pick.there)); first | done | fail) (by assumption) rfl | exact own_at hw (by (repeat (first | with_reducible exact Pick.here _ | apply Pick.there)); first | done | fail) (by assumption) rfl | exact old_cell hw (by (repeat (first | with_reducible exact Pick.here _ | apply Pick.there)); first | done | fail) (by assumption) | assumption)) (by first | exact hw | exact Sat.sub hw (by (repeat (first | with_reducible exact Sub.refl _ | exact Sub.nil _ | (apply Sub.cons; focus ((repeat (first | with_reducible exact Pick.here _ | apply Pick.there)); (first | done | fail))) | with_reducible apply Sub.drop)); first | done | fail)) ?_
      refine rs_k 1 rfl rfl (k_callf Try.func14 rfl rfl rfl rfl ?_)
      refine Calls.mono (choldsC_calls hels hb' (hw.sub (by (repeat (first | with_reducible exact Sub.refl _ | exact Sub.nil _ | (apply Sub.cons; focus ((repeat (first | with_reducible exact Pick.here _ | apply Pick.there)); (first | done | fail))) | with_reducible apply Sub.drop)); first | done | fail))) ?_
      rintro _ w ⟨g2, ha2, hn2, hk2, hg2, rfl, hrd2, hw⟩
      refine ⟨_, rfl, ?_⟩
      refine ⟨fun _ => (by first | exact hw | exact Sat.sub hw (by (repeat (first | with_reducible exact Sub.refl _ | exact Sub.nil _ | (apply Sub.cons; focus ((repeat (first | with_reducible exact Pick.here _ | apply Pick.there)); (first | done | fail))) | with_reducible apply Sub.drop)); first | done | fail) | exact Sat.sub (Sat.shrink (Sat.pick hw (by (repeat (first | with_reducible exact Pick.here _ | apply Pick.there)); first | done | fail)) (by assumption)) (by (repeat (first | with_reducible exact Sub.refl _ | exact Sub.nil _ | (apply Sub.cons; focus ((repeat (first | with_reducible exact Pick.here _ | apply Pick.there)); (first | done | fail))) | with_reducible apply Sub.drop)); first | done | fail)), ?_⟩
      refine rs_k 6 rfl rfl (k_callf Try.func31 rfl rfl rfl rfl ?_)
      refine Calls.mono (rsame_calls hrd2 (helr.mono mono_Hd hg2) (hw.sub (by (repeat (first | with_reducible exact Sub.refl _ | exact Sub.nil _ | (apply Sub.cons; focus ((repeat (first | with_reducible exact Pick.here _ | apply Pick.there)); (first | done | fail))) | with_reducible apply Sub.drop)); first | done | fail))) ?_
      rintro _ w ⟨rfl, hw⟩
      refine ⟨_, rfl, ?_⟩
      refine ⟨fun hn => absurd (by decide) hn, ?_⟩
      refine rs_kv 7 rfl rfl rfl rfl (S' := fun _ => True) trivial (v_assign rfl) ?_
      refine rs_done (g_le (Fr.le_keep (Fr.le_skip rfl (Fr.le_skip rfl (Fr.le_skip rfl (Fr.le_skip rfl (Fr.le_skip rfl (Fr.le_skip rfl (Fr.le_skip rfl (Fr.le_refl _))))))))) ?_)
      refine g_ret1 Try.func7 rfl rfl ?_
      exact ⟨rfl, (hw.sub (by (repeat (first | with_reducible exact Sub.refl _ | exact Sub.nil _ | (apply Sub.cons; focus ((repeat (first | with_reducible exact Pick.here _ | apply Pick.there)); (first | done | fail))) | with_reducible apply Sub.drop)); first | done | fail) : Sat (envOf W) w [RO g2]).shrink (hg.trans hg2)⟩
theorem CachePlays_law {w : World} {room : Int} {a : Option Addr} {len cap : Nat} {xs : List Op} (hrw : (Lit.int .i64 room).wf = true) (hr : rdArg (rdSl 96 6 rdOp) w (.slice a len cap) xs) :
    Law Try.prog 7 [.int .i64 room, .slice a len cap] w := by
  by_cases hrm : 0 ≤ room ∧ room ≤ 32
  · exact CachePlays_yes hrm hr
  · exact CachePlays_no hrm

set_option maxRecDepth 100000 in
theorem CachePlays_lifted (os : Os) (started : os.Started) (H : Type) (enc : TypeId × Value → H) :
    ReturnsInHanded {} Try.checked os 7 .any (Rows.cachePlaysSpec.pre6 enc Try.prog Try.f7 Rows.cachePlaysRow.domain false) (Rows.cachePlaysSpec.post enc Try.prog Try.f7 false true false false) := by
  refine returnsInHanded_of_change_sized (C := Try.checked) T.own started (by kernel_rfl) Try.func7
    (ChangeSpec.witness6 (enc := enc) (C := Try.checked) false ⟨#[], #[(.int .i64 0), (.slice none 0 0)], []⟩ 8 (by kernel_rfl) (by kernel_rfl) (by kernel_rfl) (by kernel_rfl)) ?_
  intro W base args ds gs before hval0 hW hcnd hsz0 _
  have hval : ∀ (j : Nat) t v, Try.f7.params[j]? = some t → args[j]? = some v → Value.okWide Try.prog W .any base t v := hval0
  have hW' := hW
  obtain ⟨p, q, hA0, hV, rfl, hfz, hnd⟩ := hW
  have hA : DataW.TrodAll enc Try.prog W 0 (fun _ => true) true Try.f7.params.toList args.toList ds p := hA0
  obtain ⟨rfl, rfl⟩ := trodVars_none hV
  have hsz : (DataW.weightsEach Try.prog (Try.f7.params.toList ++ []) (ds ++ [])).all (· ≤ reachBytes) = true := hsz0
  rw [List.append_nil, List.append_nil] at hsz
  rw [Try.params7] at hA hval hsz
  obtain ⟨v0, vs0, d0, ds0, p0, q0, hargs, rfl, rfl, h0, r0⟩ := trodAll_cons hA
  obtain ⟨v1, vs1, d1, ds1, p1, q1, rfl, rfl, rfl, h1, r1⟩ := trodAll_cons r0
  obtain ⟨rfl, rfl, rfl⟩ := trodAll_nil r1
  obtain rfl : args = #[v0, v1] := by cases args; simp_all
  have lt0 : ∀ x ∈ p0, x.block < W.heap.size := by obtain ⟨m, hm⟩ := h0; exact DataW.trod_lt m _ _ _ hm
  obtain ⟨x0, w0⟩ := arg_of (j := 0) (reads_int T.int_3_i64) h0 hsz rfl rfl
  have lt1 : ∀ x ∈ p1, x.block < W.heap.size := by obtain ⟨m, hm⟩ := h1; exact DataW.trod_lt m _ _ _ hm
  obtain ⟨x1, w1⟩ := arg_of (j := 1) (reads_sl T.sl_45_49_6 T.bytes_49_96 (by decide) reads_Op) h1 hsz rfl rfl
  obtain ⟨n0, rfl⟩ := okWide_int Try.underlying3 (hval 0 3 v0 rfl rfl)
  obtain ⟨a1, l1, c1, rfl⟩ := okWide_slice Try.underlying45 (hval 1 45 v1 rfl rfl)
  obtain ⟨hc0, hr0⟩ := w0
  cases hc0
  refine (CachePlays_law hr0 w1).mono fun e W' ⟨he, hb⟩ => ?_
  have bel := hb.below
  subst he
  exact ⟨_, rfl, _, _, _, [], _, [], hW', trodAll_mk1 (shut_bool Try.underlying4 _), (trodAll_cons_mk (Below.trod T.laidOut (by kernel_rfl) (of_decide_eq_true (by kernel_rfl)) h0 bel lt0) (trodAll_cons_mk (Below.trod T.laidOut (by kernel_rfl) (of_decide_eq_true (by kernel_rfl)) h1 bel lt1) trodAll_mk0)), rfl, bel.frame _, fun h => by cases h⟩
theorem CachePlays_holds : Rows.CachePlaysSaid :=
  OpenClaim.holds_of_wide 7 Try.f7 rfl rfl rfl rfl rfl rfl rfl ⟨rfl, rfl, rfl, rfl, rfl⟩ rfl rfl rfl rfl rfl (by kernel_rfl) Try.func7 (by kernel_rfl)
    (of_decide_eq_true (by kernel_rfl)) (by unfold Func.isWrapper; rw [if_neg (of_decide_eq_false (by kernel_rfl))]; exact ⟨rfl, rfl⟩)
    (fun os started H enc _ => CachePlays_lifted os started H enc)
#print axioms CachePlays_holds
end Go.Proofs.Ytnkddbbcfolcdaa
