/-
  The reference's cell (layer 13).
-/
import Derived.Test.YtdebodbkggbjeaaC13b
namespace Go.Proofs.Ytdebodbkggbjeaa
set_option linter.unusedSimpArgs false
set_option linter.unusedVariables false
open Go Xe

theorem rcnew_calls {E : Env} {w : World} {L : List As} (p : Nat) (hw : Sat E w L) :
    Calls Try.prog 34 #[.pointer (some ⟨p, 0, none⟩)] w fun e w' => ∃ c, e = .returned (.pointer (some ⟨c, 0, none⟩)) ∧ Sat E w' (RcAt c p ⟨nil, nil, 0⟩ :: L) := by
  refine calls_of_g (n := 6) Try.func34 rfl rfl rfl ?_
  change G _ _ _ _ _ [(0, _)] _
  repeat (first | refine g_seq ?_ | refine g_skip ?_ | refine g_inBlock ?_ | refine g_block ?_ | refine g_label ?_)
  refine g_region ?_
  refine rl_v rfl rfl rfl (S := fun _ => True) trivial (v_assign rfl) ?_
  refine rl_nil (g_le (Fr.le_keep (Fr.le_refl _)) ?_)
  repeat (first | refine g_seq ?_ | refine g_skip ?_ | refine g_inBlock ?_ | refine g_block ?_ | refine g_label ?_)
  refine g_region ?_
  refine rl_v rfl rfl rfl (S := fun _ => True) trivial (v_move rfl) ?_
  refine rl_v rfl rfl rfl (S := fun _ => True) trivial (v_build rfl (T.build_97_0 ..)) ?_
  refine rl_k rfl (k_box hw rfl rfl rfl (fun blk w hw => ?_))
  refine rl_v rfl rfl rfl (S := fun _ => True) trivial (v_assign rfl) ?_
  refine rl_nil (g_le (Fr.le_keep (Fr.le_skip rfl (Fr.le_skip rfl (Fr.le_skip rfl (Fr.le_refl _))))) ?_)
  refine g_ret1 Try.func34 rfl rfl ?_
  exact ⟨_, rfl, hw⟩

theorem rset_calls {E : Env} {w : World} {L : List As} (c p : Nat) (s : Cs) (pw : Pw) (i : Int) (v : ByteArray) (hok : pw.ok) (hw : Sat E w (RcAt c p s :: RwAt p pw.ref :: L)) :
    Calls Try.prog 54 #[.pointer (some ⟨c, 0, none⟩), .int .i64 i, .string v] w
      fun e w' => e = .returned (.int .i64 (s.set pw i v).1) ∧ Sat E w' (RcAt c p (s.set pw i v).2.1 :: RwAt p (s.set pw i v).2.2.ref :: L) := by
  by_cases hi : i = 0 ∨ i = 1
  · obtain ⟨a, b, n⟩ := s
    refine calls_of_g (n := 50) Try.func54 rfl rfl rfl ?_
    change G _ _ _ _ _ [(0, _), (1, _), (2, _)] _
    rcases hi with rfl | rfl
    · repeat (first | refine g_seq ?_ | refine g_skip ?_ | refine g_inBlock ?_ | refine g_block ?_ | refine g_label ?_)
      refine g_region ?_
      refine rl_v rfl rfl rfl (S := fun _ => True) trivial (v_assign rfl) ?_
      refine rl_nil (g_le (Fr.le_keep (Fr.le_refl _)) ?_)
      repeat (first | refine g_seq ?_ | refine g_skip ?_ | refine g_inBlock ?_ | refine g_block ?_ | refine g_label ?_)
      refine g_region ?_
      refine rl_v rfl rfl rfl (S := fun _ => True) trivial (v_move rfl) ?_
      first | (refine rl_v rfl rfl rfl (S := fun _ => True) trivial (v_neqT rfl rfl (by omega)) ?_) | (refine rl_v rfl rfl rfl (S := fun _ => True) trivial (v_neqF rfl rfl (by first | omega | rfl)) ?_) | (refine rl_v rfl rfl rfl (S := fun _ => True) trivial (v_neq rfl rfl) ?_)
      refine rl_v rfl rfl rfl (S := fun _ => True) trivial (v_move rfl) ?_
      first | (refine rl_vg (met_on rfl rfl rfl rfl) rfl rfl (S := fun _ => True) trivial (v_move rfl) ?_) | (refine rl_off (by first | exact met_off rfl rfl rfl rfl rfl | exact met_gone rfl rfl rfl rfl) rfl rfl ?_)
      first | (refine rl_vg (met_on rfl rfl rfl rfl) rfl rfl (S := fun _ => True) trivial (v_neqT rfl rfl (by omega)) ?_) | (refine rl_vg (met_on rfl rfl rfl rfl) rfl rfl (S := fun _ => True) trivial (v_neqF rfl rfl (by first | omega | rfl)) ?_) | (refine rl_vg (met_on rfl rfl rfl rfl) rfl rfl (S := fun _ => True) trivial (v_neq rfl rfl) ?_) | (refine rl_off (by first | exact met_off rfl rfl rfl rfl rfl | exact met_gone rfl rfl rfl rfl) rfl rfl ?_)
      first | (refine rl_v rfl rfl rfl (S := fun _ => True) trivial (v_pick_true rfl rfl) ?_) | (refine rl_v rfl rfl rfl (S := fun _ => True) trivial (v_pick_false rfl rfl) ?_) | (refine rl_v rfl rfl rfl (S := fun _ => True) trivial (v_pick rfl rfl rfl) ?_)
      refine rl_nil (g_le (Fr.le_keep (Fr.le_skip rfl (Fr.le_skip rfl (Fr.le_skip rfl (Fr.le_skip rfl (Fr.le_skip rfl (Fr.le_refl _))))))) ?_)
      repeat (first | refine g_seq ?_ | refine g_skip ?_ | refine g_inBlock ?_ | refine g_block ?_ | refine g_label ?_)
      refine g_cond_false rfl ?_
      repeat (first | refine g_seq ?_ | refine g_skip ?_ | refine g_inBlock ?_ | refine g_block ?_ | refine g_label ?_)
      refine g_region ?_
      refine rl_v rfl rfl rfl (S := fun _ => True) trivial (v_move rfl) ?_
      refine rl_v rfl rfl rfl (S := fun _ => True) trivial (v_move rfl) ?_
      refine rl_v rfl rfl rfl (S := fun _ => True) trivial (v_nilCheck rfl) ?_
      first | (refine rl_v rfl rfl rfl (S := fun _ => True) trivial (v_fieldAddr0 T.fld_97_1_1 rfl) ?_) | (refine rl_v rfl rfl rfl (S := fun _ => True) trivial (v_fieldAddr T.fld_97_1_1 rfl) ?_)
      refine rl_v rfl rfl rfl (S := fun _ => True) trivial (v_indexAddrArr T.arr_70_2_9_1 rfl rfl (by omega) (by omega)) ?_
      refine rl_v rfl rfl rfl (by first | exact sat_cell hw (by (repeat (first | with_reducible exact Pick.here _ | apply Pick.there)); first | done | fail) rfl | exact own_cell hw (by (repeat (first | with_reducible exact Pick.here _ | apply Pick.there)); first | done | fail) (by first | rfl | assumption) | exact old_cell hw (by (repeat (first | with_reducible exact Pick.here _ | apply Pick.there)); first | done | fail) (by assumption) | assumption) (v_load T.scal_9 rfl) ?_
      first | (refine rl_v rfl rfl rfl (S := fun _ => True) trivial (v_neqStrF rfl rfl (by first | rfl | assumption)) ?_) | (refine rl_v rfl rfl rfl (S := fun _ => True) trivial (v_neqStrT rfl rfl (by first | assumption | decide)) ?_) | (refine rl_v rfl rfl rfl (S := fun _ => True) trivial (v_neqStr rfl rfl) ?_)
      refine rl_nil (g_le (Fr.le_keep (Fr.le_skip rfl (Fr.le_skip rfl (Fr.le_skip rfl (Fr.le_skip rfl (Fr.le_skip rfl (Fr.le_skip rfl (Fr.le_refl _)))))))) ?_)
      repeat (first | refine g_seq ?_ | refine g_skip ?_ | refine g_inBlock ?_ | refine g_block ?_ | refine g_label ?_)
      refine g_cond_dec rfl (fun h => ?_) (fun h => ?_)
      · repeat (first | refine g_seq ?_ | refine g_skip ?_ | refine g_inBlock ?_ | refine g_block ?_ | refine g_label ?_)
        refine g_region ?_
        refine rl_v rfl rfl rfl (S := fun _ => True) trivial (v_assign rfl) ?_
        refine rl_nil (g_le (Fr.le_keep (Fr.le_refl _)) ?_)
        refine g_ret1 Try.func54 rfl rfl ?_
        rw [Cs.set_131 (s := ⟨a, b, n⟩) (i := 0) (by omega) h]
        exact ⟨rfl, hw⟩
      · all_goals (repeat (first | refine g_seq ?_ | refine g_skip ?_ | refine g_inBlock ?_ | refine g_block ?_ | refine g_label ?_))
        all_goals (refine g_region ?_)
        all_goals (refine rl_v rfl rfl rfl (S := fun _ => True) trivial (v_move rfl) ?_)
        all_goals (first | (refine rl_v rfl rfl rfl (S := fun _ => True) trivial (v_eqlStrT rfl rfl (by first | rfl | assumption)) ?_) | (refine rl_v rfl rfl rfl (S := fun _ => True) trivial (v_eqlStrF rfl rfl (by first | assumption | decide)) ?_) | (refine rl_v rfl rfl rfl (S := fun _ => True) trivial (v_eqlStr rfl rfl) ?_))
        all_goals (refine rl_v rfl rfl rfl (S := fun _ => True) trivial (v_move rfl) ?_)
        all_goals (first | refine rl_split_dec (s := 23) rfl (fun hs => ?_) (fun hs => ?_) | refine rl_split (s := 23) rfl (fun hs => ?_) (fun hs => ?_) | skip)
        all_goals (first | (refine rl_vg (met_on rfl rfl rfl rfl) rfl rfl (S := fun _ => True) trivial (v_move rfl) ?_) | (refine rl_off (by first | exact met_off rfl rfl rfl rfl rfl | exact met_gone rfl rfl rfl rfl) rfl rfl ?_))
        all_goals (first | (refine rl_vg (met_on rfl rfl rfl rfl) rfl rfl (S := fun _ => True) trivial (v_lenStr T.str_9 rfl) ?_) | (refine rl_off (by first | exact met_off rfl rfl rfl rfl rfl | exact met_gone rfl rfl rfl rfl) rfl rfl ?_))
        all_goals (first | (refine rl_vg (met_on rfl rfl rfl rfl) rfl rfl (S := fun _ => True) trivial (v_gtrT rfl rfl (by omega)) ?_) | (refine rl_vg (met_on rfl rfl rfl rfl) rfl rfl (S := fun _ => True) trivial (v_gtrF rfl rfl (by omega)) ?_) | (refine rl_vg (met_on rfl rfl rfl rfl) rfl rfl (S := fun _ => True) trivial (v_gtr rfl rfl) ?_) | (refine rl_off (by first | exact met_off rfl rfl rfl rfl rfl | exact met_gone rfl rfl rfl rfl) rfl rfl ?_))
        all_goals (first | (refine rl_v rfl rfl rfl (S := fun _ => True) trivial (v_pick_true rfl rfl) ?_) | (refine rl_v rfl rfl rfl (S := fun _ => True) trivial (v_pick_false rfl rfl) ?_) | (refine rl_v rfl rfl rfl (S := fun _ => True) trivial (v_pick rfl rfl rfl) ?_))
        all_goals (refine rl_nil ?_)
        · repeat (first | refine g_seq ?_ | refine g_skip ?_ | refine g_inBlock ?_ | refine g_block ?_ | refine g_label ?_)
          refine g_cond_true rfl ?_
          repeat (first | refine g_seq ?_ | refine g_skip ?_ | refine g_inBlock ?_ | refine g_block ?_ | refine g_label ?_)
          refine g_region ?_
          refine rl_v rfl rfl rfl (S := fun _ => True) trivial (v_assign rfl) ?_
          refine rl_nil (g_le (Fr.le_keep (Fr.le_refl _)) ?_)
          refine g_ret1 Try.func54 rfl rfl ?_
          rw [Cs.set_2 (s := ⟨a, b, n⟩) (i := 0) (by omega) (ne_nil h) (.inl hs)]
          exact ⟨rfl, hw⟩
        · repeat (first | refine g_seq ?_ | refine g_skip ?_ | refine g_inBlock ?_ | refine g_block ?_ | refine g_label ?_)
          refine g_cond_dec rfl (fun h2 => ?_) (fun h2 => ?_)
          · repeat (first | refine g_seq ?_ | refine g_skip ?_ | refine g_inBlock ?_ | refine g_block ?_ | refine g_label ?_)
            refine g_region ?_
            refine rl_v rfl rfl rfl (S := fun _ => True) trivial (v_assign rfl) ?_
            refine rl_nil (g_le (Fr.le_keep (Fr.le_refl _)) ?_)
            refine g_ret1 Try.func54 rfl rfl ?_
            rw [Cs.set_2 (s := ⟨a, b, n⟩) (i := 0) (by omega) (ne_nil h) (.inr h2)]
            exact ⟨rfl, hw⟩
          · rw [Cs.set_lay (s := ⟨a, b, n⟩) (i := 0) (by omega) (ne_nil h) hs h2]
            repeat (first | refine g_seq ?_ | refine g_skip ?_ | refine g_inBlock ?_ | refine g_block ?_ | refine g_label ?_)
            refine g_region ?_
            refine rl_v rfl rfl rfl (S := fun _ => True) trivial (v_move rfl) ?_
            refine rl_v rfl rfl rfl (S := fun _ => True) trivial (v_nilCheck rfl) ?_
            first | (refine rl_v rfl rfl rfl (S := fun _ => True) trivial (v_fieldAddr0 T.fld_97_0_0 rfl) ?_) | (refine rl_v rfl rfl rfl (S := fun _ => True) trivial (v_fieldAddr T.fld_97_0_0 rfl) ?_)
            refine rl_v rfl rfl rfl (by first | exact sat_cell hw (by (repeat (first | with_reducible exact Pick.here _ | apply Pick.there)); first | done | fail) rfl | exact own_cell hw (by (repeat (first | with_reducible exact Pick.here _ | apply Pick.there)); first | done | fail) (by first | rfl | assumption) | exact old_cell hw (by (repeat (first | with_reducible exact Pick.here _ | apply Pick.there)); first | done | fail) (by assumption) | assumption) (v_load T.scal_26 rfl) ?_
            refine rl_k rfl (k_callf Try.func46 rfl rfl rfl rfl ?_)
            refine Calls.mono (rspend_calls p pw hok (hw.pick (by (repeat (first | with_reducible exact Pick.here _ | apply Pick.there)); first | done | fail))) ?_
            rintro _ w ⟨rfl, hw⟩
            refine ⟨_, rfl, ?_⟩
            refine rl_v rfl rfl rfl (S := fun _ => True) trivial (v_assign rfl) ?_
            refine rl_nil (g_le (Fr.le_keep (Fr.le_skip rfl (Fr.le_skip rfl (Fr.le_skip rfl (Fr.le_skip rfl (Fr.le_skip rfl (Fr.le_refl _))))))) ?_)
            repeat (first | refine g_seq ?_ | refine g_skip ?_ | refine g_inBlock ?_ | refine g_block ?_ | refine g_label ?_)
            refine g_region ?_
            refine rl_v rfl rfl rfl (S := fun _ => True) trivial (v_move rfl) ?_
            first | (refine rl_v rfl rfl rfl (S := fun _ => True) trivial (v_neqT rfl rfl (by omega)) ?_) | (refine rl_v rfl rfl rfl (S := fun _ => True) trivial (v_neqF rfl rfl (by first | omega | rfl)) ?_) | (refine rl_v rfl rfl rfl (S := fun _ => True) trivial (v_neq rfl rfl) ?_)
            refine rl_nil (g_le (Fr.le_keep (Fr.le_skip rfl (Fr.le_refl _))) ?_)
            repeat (first | refine g_seq ?_ | refine g_skip ?_ | refine g_inBlock ?_ | refine g_block ?_ | refine g_label ?_)
            refine g_cond_dec rfl (fun hsp => ?_) (fun hsp => ?_)
            · repeat (first | refine g_seq ?_ | refine g_skip ?_ | refine g_inBlock ?_ | refine g_block ?_ | refine g_label ?_)
              refine g_region ?_
              refine rl_v rfl rfl rfl (S := fun _ => True) trivial (v_move rfl) ?_
              refine rl_v rfl rfl rfl (S := fun _ => True) trivial (v_assign rfl) ?_
              refine rl_nil (g_le (Fr.le_keep (Fr.le_skip rfl (Fr.le_refl _))) ?_)
              refine g_ret1 Try.func54 rfl rfl ?_
              rw [Cs.lay, if_neg hsp]
              exact ⟨rfl, hw.sub (by (repeat (first | with_reducible exact Sub.refl _ | exact Sub.nil _ | (apply Sub.cons; focus ((repeat (first | with_reducible exact Pick.here _ | apply Pick.there)); (first | done | fail))) | with_reducible apply Sub.drop)); first | done | fail)⟩
            · have hsp : pw.spend.1 = 0 := by omega
              repeat (first | refine g_seq ?_ | refine g_skip ?_ | refine g_inBlock ?_ | refine g_block ?_ | refine g_label ?_)
              refine g_region ?_
              refine rl_v rfl rfl rfl (S := fun _ => True) trivial (v_move rfl) ?_
              refine rl_v rfl rfl rfl (S := fun _ => True) trivial (v_move rfl) ?_
              refine rl_v rfl rfl rfl (S := fun _ => True) trivial (v_move rfl) ?_
              refine rl_v rfl rfl rfl (S := fun _ => True) trivial (v_nilCheck rfl) ?_
              first | (refine rl_v rfl rfl rfl (S := fun _ => True) trivial (v_fieldAddr0 T.fld_97_1_1 rfl) ?_) | (refine rl_v rfl rfl rfl (S := fun _ => True) trivial (v_fieldAddr T.fld_97_1_1 rfl) ?_)
              refine rl_v rfl rfl rfl (S := fun _ => True) trivial (v_indexAddrArr T.arr_70_2_9_1 rfl rfl (by omega) (by omega)) ?_
              first | (refine rl_k rfl (k_storeOwn hw T.scal_9 rfl rfl rfl (by (repeat (first | with_reducible exact Pick.here _ | apply Pick.there)); first | done | fail) (by assumption) (fun w hw => ?_))) | (refine rl_k rfl (k_store hw T.scal_9 rfl rfl rfl (by (repeat (first | with_reducible exact Pick.here _ | apply Pick.there)); first | done | fail) rfl (by first | (simp only [List.set, Int.reduceToNat, Nat.reduceMul, Nat.reduceAdd]; rfl) | rfl) (fun w hw => ?_)))
              refine rl_nil (g_le (Fr.le_skip rfl (Fr.le_skip rfl (Fr.le_skip rfl (Fr.le_skip rfl (Fr.le_skip rfl (Fr.le_skip rfl (Fr.le_refl _))))))) ?_)
              repeat (first | refine g_seq ?_ | refine g_skip ?_ | refine g_inBlock ?_ | refine g_block ?_ | refine g_label ?_)
              refine g_region ?_
              refine rl_v rfl rfl rfl (S := fun _ => True) trivial (v_move rfl) ?_
              refine rl_v rfl rfl rfl (S := fun _ => True) trivial (v_move rfl) ?_
              refine rl_v rfl rfl rfl (S := fun _ => True) trivial (v_nilCheck rfl) ?_
              first | (refine rl_v rfl rfl rfl (S := fun _ => True) trivial (v_fieldAddr0 T.fld_97_2_3 rfl) ?_) | (refine rl_v rfl rfl rfl (S := fun _ => True) trivial (v_fieldAddr T.fld_97_2_3 rfl) ?_)
              refine rl_v rfl rfl rfl (by first | exact sat_cell hw (by (repeat (first | with_reducible exact Pick.here _ | apply Pick.there)); first | done | fail) rfl | exact own_cell hw (by (repeat (first | with_reducible exact Pick.here _ | apply Pick.there)); first | done | fail) (by first | rfl | assumption) | exact old_cell hw (by (repeat (first | with_reducible exact Pick.here _ | apply Pick.there)); first | done | fail) (by assumption) | assumption) (v_load T.scal_3 rfl) ?_
              first | (refine rl_v rfl rfl rfl (S := fun _ => True) trivial (v_add rfl rfl (by omega)) ?_) | (refine rl_v rfl rfl rfl (S := fun _ => True) trivial (v_addW rfl rfl) ?_)
              refine rl_v rfl rfl rfl (S := fun _ => True) trivial (v_nilCheck rfl) ?_
              first | (refine rl_v rfl rfl rfl (S := fun _ => True) trivial (v_fieldAddr0 T.fld_97_2_3 rfl) ?_) | (refine rl_v rfl rfl rfl (S := fun _ => True) trivial (v_fieldAddr T.fld_97_2_3 rfl) ?_)
              first | (refine rl_k rfl (k_storeOwn hw T.scal_3 rfl rfl rfl (by (repeat (first | with_reducible exact Pick.here _ | apply Pick.there)); first | done | fail) (by assumption) (fun w hw => ?_))) | (refine rl_k rfl (k_store hw T.scal_3 rfl rfl rfl (by (repeat (first | with_reducible exact Pick.here _ | apply Pick.there)); first | done | fail) rfl (by first | (simp only [List.set, Int.reduceToNat, Nat.reduceMul, Nat.reduceAdd]; rfl) | rfl) (fun w hw => ?_)))
              refine rl_nil (g_le (Fr.le_skip rfl (Fr.le_skip rfl (Fr.le_skip rfl (Fr.le_skip rfl (Fr.le_skip rfl (Fr.le_skip rfl (Fr.le_skip rfl (Fr.le_skip rfl (Fr.le_refl _))))))))) ?_)
              repeat (first | refine g_seq ?_ | refine g_skip ?_ | refine g_inBlock ?_ | refine g_block ?_ | refine g_label ?_)
              refine g_region ?_
              refine rl_v rfl rfl rfl (S := fun _ => True) trivial (v_assign rfl) ?_
              refine rl_nil (g_le (Fr.le_keep (Fr.le_refl _)) ?_)
              refine g_ret1 Try.func54 rfl rfl ?_
              rw [Cs.lay, if_pos hsp]
              exact ⟨rfl, hw⟩
    · repeat (first | refine g_seq ?_ | refine g_skip ?_ | refine g_inBlock ?_ | refine g_block ?_ | refine g_label ?_)
      refine g_region ?_
      refine rl_v rfl rfl rfl (S := fun _ => True) trivial (v_assign rfl) ?_
      refine rl_nil (g_le (Fr.le_keep (Fr.le_refl _)) ?_)
      repeat (first | refine g_seq ?_ | refine g_skip ?_ | refine g_inBlock ?_ | refine g_block ?_ | refine g_label ?_)
      refine g_region ?_
      refine rl_v rfl rfl rfl (S := fun _ => True) trivial (v_move rfl) ?_
      first | (refine rl_v rfl rfl rfl (S := fun _ => True) trivial (v_neqT rfl rfl (by omega)) ?_) | (refine rl_v rfl rfl rfl (S := fun _ => True) trivial (v_neqF rfl rfl (by first | omega | rfl)) ?_) | (refine rl_v rfl rfl rfl (S := fun _ => True) trivial (v_neq rfl rfl) ?_)
      refine rl_v rfl rfl rfl (S := fun _ => True) trivial (v_move rfl) ?_
      first | (refine rl_vg (met_on rfl rfl rfl rfl) rfl rfl (S := fun _ => True) trivial (v_move rfl) ?_) | (refine rl_off (by first | exact met_off rfl rfl rfl rfl rfl | exact met_gone rfl rfl rfl rfl) rfl rfl ?_)
      first | (refine rl_vg (met_on rfl rfl rfl rfl) rfl rfl (S := fun _ => True) trivial (v_neqT rfl rfl (by omega)) ?_) | (refine rl_vg (met_on rfl rfl rfl rfl) rfl rfl (S := fun _ => True) trivial (v_neqF rfl rfl (by first | omega | rfl)) ?_) | (refine rl_vg (met_on rfl rfl rfl rfl) rfl rfl (S := fun _ => True) trivial (v_neq rfl rfl) ?_) | (refine rl_off (by first | exact met_off rfl rfl rfl rfl rfl | exact met_gone rfl rfl rfl rfl) rfl rfl ?_)
      first | (refine rl_v rfl rfl rfl (S := fun _ => True) trivial (v_pick_true rfl rfl) ?_) | (refine rl_v rfl rfl rfl (S := fun _ => True) trivial (v_pick_false rfl rfl) ?_) | (refine rl_v rfl rfl rfl (S := fun _ => True) trivial (v_pick rfl rfl rfl) ?_)
      refine rl_nil (g_le (Fr.le_keep (Fr.le_skip rfl (Fr.le_skip rfl (Fr.le_skip rfl (Fr.le_skip rfl (Fr.le_skip rfl (Fr.le_refl _))))))) ?_)
      repeat (first | refine g_seq ?_ | refine g_skip ?_ | refine g_inBlock ?_ | refine g_block ?_ | refine g_label ?_)
      refine g_cond_false rfl ?_
      repeat (first | refine g_seq ?_ | refine g_skip ?_ | refine g_inBlock ?_ | refine g_block ?_ | refine g_label ?_)
      refine g_region ?_
      refine rl_v rfl rfl rfl (S := fun _ => True) trivial (v_move rfl) ?_
      refine rl_v rfl rfl rfl (S := fun _ => True) trivial (v_move rfl) ?_
      refine rl_v rfl rfl rfl (S := fun _ => True) trivial (v_nilCheck rfl) ?_
      first | (refine rl_v rfl rfl rfl (S := fun _ => True) trivial (v_fieldAddr0 T.fld_97_1_1 rfl) ?_) | (refine rl_v rfl rfl rfl (S := fun _ => True) trivial (v_fieldAddr T.fld_97_1_1 rfl) ?_)
      refine rl_v rfl rfl rfl (S := fun _ => True) trivial (v_indexAddrArr T.arr_70_2_9_1 rfl rfl (by omega) (by omega)) ?_
      refine rl_v rfl rfl rfl (by first | exact sat_cell hw (by (repeat (first | with_reducible exact Pick.here _ | apply Pick.there)); first | done | fail) rfl | exact own_cell hw (by (repeat (first | with_reducible exact Pick.here _ | apply Pick.there)); first | done | fail) (by first | rfl | assumption) | exact old_cell hw (by (repeat (first | with_reducible exact Pick.here _ | apply Pick.there)); first | done | fail) (by assumption) | assumption) (v_load T.scal_9 rfl) ?_
      first | (refine rl_v rfl rfl rfl (S := fun _ => True) trivial (v_neqStrF rfl rfl (by first | rfl | assumption)) ?_) | (refine rl_v rfl rfl rfl (S := fun _ => True) trivial (v_neqStrT rfl rfl (by first | assumption | decide)) ?_) | (refine rl_v rfl rfl rfl (S := fun _ => True) trivial (v_neqStr rfl rfl) ?_)
      refine rl_nil (g_le (Fr.le_keep (Fr.le_skip rfl (Fr.le_skip rfl (Fr.le_skip rfl (Fr.le_skip rfl (Fr.le_skip rfl (Fr.le_skip rfl (Fr.le_refl _)))))))) ?_)
      repeat (first | refine g_seq ?_ | refine g_skip ?_ | refine g_inBlock ?_ | refine g_block ?_ | refine g_label ?_)
      refine g_cond_dec rfl (fun h => ?_) (fun h => ?_)
      · repeat (first | refine g_seq ?_ | refine g_skip ?_ | refine g_inBlock ?_ | refine g_block ?_ | refine g_label ?_)
        refine g_region ?_
        refine rl_v rfl rfl rfl (S := fun _ => True) trivial (v_assign rfl) ?_
        refine rl_nil (g_le (Fr.le_keep (Fr.le_refl _)) ?_)
        refine g_ret1 Try.func54 rfl rfl ?_
        rw [Cs.set_131 (s := ⟨a, b, n⟩) (i := 1) (by omega) h]
        exact ⟨rfl, hw⟩
      · all_goals (repeat (first | refine g_seq ?_ | refine g_skip ?_ | refine g_inBlock ?_ | refine g_block ?_ | refine g_label ?_))
        all_goals (refine g_region ?_)
        all_goals (refine rl_v rfl rfl rfl (S := fun _ => True) trivial (v_move rfl) ?_)
        all_goals (first | (refine rl_v rfl rfl rfl (S := fun _ => True) trivial (v_eqlStrT rfl rfl (by first | rfl | assumption)) ?_) | (refine rl_v rfl rfl rfl (S := fun _ => True) trivial (v_eqlStrF rfl rfl (by first | assumption | decide)) ?_) | (refine rl_v rfl rfl rfl (S := fun _ => True) trivial (v_eqlStr rfl rfl) ?_))
        all_goals (refine rl_v rfl rfl rfl (S := fun _ => True) trivial (v_move rfl) ?_)
        all_goals (first | refine rl_split_dec (s := 23) rfl (fun hs => ?_) (fun hs => ?_) | refine rl_split (s := 23) rfl (fun hs => ?_) (fun hs => ?_) | skip)
        all_goals (first | (refine rl_vg (met_on rfl rfl rfl rfl) rfl rfl (S := fun _ => True) trivial (v_move rfl) ?_) | (refine rl_off (by first | exact met_off rfl rfl rfl rfl rfl | exact met_gone rfl rfl rfl rfl) rfl rfl ?_))
        all_goals (first | (refine rl_vg (met_on rfl rfl rfl rfl) rfl rfl (S := fun _ => True) trivial (v_lenStr T.str_9 rfl) ?_) | (refine rl_off (by first | exact met_off rfl rfl rfl rfl rfl | exact met_gone rfl rfl rfl rfl) rfl rfl ?_))
        all_goals (first | (refine rl_vg (met_on rfl rfl rfl rfl) rfl rfl (S := fun _ => True) trivial (v_gtrT rfl rfl (by omega)) ?_) | (refine rl_vg (met_on rfl rfl rfl rfl) rfl rfl (S := fun _ => True) trivial (v_gtrF rfl rfl (by omega)) ?_) | (refine rl_vg (met_on rfl rfl rfl rfl) rfl rfl (S := fun _ => True) trivial (v_gtr rfl rfl) ?_) | (refine rl_off (by first | exact met_off rfl rfl rfl rfl rfl | exact met_gone rfl rfl rfl rfl) rfl rfl ?_))
        all_goals (first | (refine rl_v rfl rfl rfl (S := fun _ => True) trivial (v_pick_true rfl rfl) ?_) | (refine rl_v rfl rfl rfl (S := fun _ => True) trivial (v_pick_false rfl rfl) ?_) | (refine rl_v rfl rfl rfl (S := fun _ => True) trivial (v_pick rfl rfl rfl) ?_))
        all_goals (refine rl_nil ?_)
        · repeat (first | refine g_seq ?_ | refine g_skip ?_ | refine g_inBlock ?_ | refine g_block ?_ | refine g_label ?_)
          refine g_cond_true rfl ?_
          repeat (first | refine g_seq ?_ | refine g_skip ?_ | refine g_inBlock ?_ | refine g_block ?_ | refine g_label ?_)
          refine g_region ?_
          refine rl_v rfl rfl rfl (S := fun _ => True) trivial (v_assign rfl) ?_
          refine rl_nil (g_le (Fr.le_keep (Fr.le_refl _)) ?_)
          refine g_ret1 Try.func54 rfl rfl ?_
          rw [Cs.set_2 (s := ⟨a, b, n⟩) (i := 1) (by omega) (ne_nil h) (.inl hs)]
          exact ⟨rfl, hw⟩
        · repeat (first | refine g_seq ?_ | refine g_skip ?_ | refine g_inBlock ?_ | refine g_block ?_ | refine g_label ?_)
          refine g_cond_dec rfl (fun h2 => ?_) (fun h2 => ?_)
          · repeat (first | refine g_seq ?_ | refine g_skip ?_ | refine g_inBlock ?_ | refine g_block ?_ | refine g_label ?_)
            refine g_region ?_
            refine rl_v rfl rfl rfl (S := fun _ => True) trivial (v_assign rfl) ?_
            refine rl_nil (g_le (Fr.le_keep (Fr.le_refl _)) ?_)
            refine g_ret1 Try.func54 rfl rfl ?_
            rw [Cs.set_2 (s := ⟨a, b, n⟩) (i := 1) (by omega) (ne_nil h) (.inr h2)]
            exact ⟨rfl, hw⟩
          · rw [Cs.set_lay (s := ⟨a, b, n⟩) (i := 1) (by omega) (ne_nil h) hs h2]
            repeat (first | refine g_seq ?_ | refine g_skip ?_ | refine g_inBlock ?_ | refine g_block ?_ | refine g_label ?_)
            refine g_region ?_
            refine rl_v rfl rfl rfl (S := fun _ => True) trivial (v_move rfl) ?_
            refine rl_v rfl rfl rfl (S := fun _ => True) trivial (v_nilCheck rfl) ?_
            first | (refine rl_v rfl rfl rfl (S := fun _ => True) trivial (v_fieldAddr0 T.fld_97_0_0 rfl) ?_) | (refine rl_v rfl rfl rfl (S := fun _ => True) trivial (v_fieldAddr T.fld_97_0_0 rfl) ?_)
            refine rl_v rfl rfl rfl (by first | exact sat_cell hw (by (repeat (first | with_reducible exact Pick.here _ | apply Pick.there)); first | done | fail) rfl | exact own_cell hw (by (repeat (first | with_reducible exact Pick.here _ | apply Pick.there)); first | done | fail) (by first | rfl | assumption) | exact old_cell hw (by (repeat (first | with_reducible exact Pick.here _ | apply Pick.there)); first | done | fail) (by assumption) | assumption) (v_load T.scal_26 rfl) ?_
            refine rl_k rfl (k_callf Try.func46 rfl rfl rfl rfl ?_)
            refine Calls.mono (rspend_calls p pw hok (hw.pick (by (repeat (first | with_reducible exact Pick.here _ | apply Pick.there)); first | done | fail))) ?_
            rintro _ w ⟨rfl, hw⟩
            refine ⟨_, rfl, ?_⟩
            refine rl_v rfl rfl rfl (S := fun _ => True) trivial (v_assign rfl) ?_
            refine rl_nil (g_le (Fr.le_keep (Fr.le_skip rfl (Fr.le_skip rfl (Fr.le_skip rfl (Fr.le_skip rfl (Fr.le_skip rfl (Fr.le_refl _))))))) ?_)
            repeat (first | refine g_seq ?_ | refine g_skip ?_ | refine g_inBlock ?_ | refine g_block ?_ | refine g_label ?_)
            refine g_region ?_
            refine rl_v rfl rfl rfl (S := fun _ => True) trivial (v_move rfl) ?_
            first | (refine rl_v rfl rfl rfl (S := fun _ => True) trivial (v_neqT rfl rfl (by omega)) ?_) | (refine rl_v rfl rfl rfl (S := fun _ => True) trivial (v_neqF rfl rfl (by first | omega | rfl)) ?_) | (refine rl_v rfl rfl rfl (S := fun _ => True) trivial (v_neq rfl rfl) ?_)
            refine rl_nil (g_le (Fr.le_keep (Fr.le_skip rfl (Fr.le_refl _))) ?_)
            repeat (first | refine g_seq ?_ | refine g_skip ?_ | refine g_inBlock ?_ | refine g_block ?_ | refine g_label ?_)
            refine g_cond_dec rfl (fun hsp => ?_) (fun hsp => ?_)
            · repeat (first | refine g_seq ?_ | refine g_skip ?_ | refine g_inBlock ?_ | refine g_block ?_ | refine g_label ?_)
              refine g_region ?_
              refine rl_v rfl rfl rfl (S := fun _ => True) trivial (v_move rfl) ?_
              refine rl_v rfl rfl rfl (S := fun _ => True) trivial (v_assign rfl) ?_
              refine rl_nil (g_le (Fr.le_keep (Fr.le_skip rfl (Fr.le_refl _))) ?_)
              refine g_ret1 Try.func54 rfl rfl ?_
              rw [Cs.lay, if_neg hsp]
              exact ⟨rfl, hw.sub (by (repeat (first | with_reducible exact Sub.refl _ | exact Sub.nil _ | (apply Sub.cons; focus ((repeat (first | with_reducible exact Pick.here _ | apply Pick.there)); (first | done | fail))) | with_reducible apply Sub.drop)); first | done | fail)⟩
            · have hsp : pw.spend.1 = 0 := by omega
              repeat (first | refine g_seq ?_ | refine g_skip ?_ | refine g_inBlock ?_ | refine g_block ?_ | refine g_label ?_)
              refine g_region ?_
              refine rl_v rfl rfl rfl (S := fun _ => True) trivial (v_move rfl) ?_
              refine rl_v rfl rfl rfl (S := fun _ => True) trivial (v_move rfl) ?_
              refine rl_v rfl rfl rfl (S := fun _ => True) trivial (v_move rfl) ?_
              refine rl_v rfl rfl rfl (S := fun _ => True) trivial (v_nilCheck rfl) ?_
              first | (refine rl_v rfl rfl rfl (S := fun _ => True) trivial (v_fieldAddr0 T.fld_97_1_1 rfl) ?_) | (refine rl_v rfl rfl rfl (S := fun _ => True) trivial (v_fieldAddr T.fld_97_1_1 rfl) ?_)
              refine rl_v rfl rfl rfl (S := fun _ => True) trivial (v_indexAddrArr T.arr_70_2_9_1 rfl rfl (by omega) (by omega)) ?_
              first | (refine rl_k rfl (k_storeOwn hw T.scal_9 rfl rfl rfl (by (repeat (first | with_reducible exact Pick.here _ | apply Pick.there)); first | done | fail) (by assumption) (fun w hw => ?_))) | (refine rl_k rfl (k_store hw T.scal_9 rfl rfl rfl (by (repeat (first | with_reducible exact Pick.here _ | apply Pick.there)); first | done | fail) rfl (by first | (simp only [List.set, Int.reduceToNat, Nat.reduceMul, Nat.reduceAdd]; rfl) | rfl) (fun w hw => ?_)))
              refine rl_nil (g_le (Fr.le_skip rfl (Fr.le_skip rfl (Fr.le_skip rfl (Fr.le_skip rfl (Fr.le_skip rfl (Fr.le_skip rfl (Fr.le_refl _))))))) ?_)
              repeat (first | refine g_seq ?_ | refine g_skip ?_ | refine g_inBlock ?_ | refine g_block ?_ | refine g_label ?_)
              refine g_region ?_
              refine rl_v rfl rfl rfl (S := fun _ => True) trivial (v_move rfl) ?_
              refine rl_v rfl rfl rfl (S := fun _ => True) trivial (v_move rfl) ?_
              refine rl_v rfl rfl rfl (S := fun _ => True) trivial (v_nilCheck rfl) ?_
              first | (refine rl_v rfl rfl rfl (S := fun _ => True) trivial (v_fieldAddr0 T.fld_97_2_3 rfl) ?_) | (refine rl_v rfl rfl rfl (S := fun _ => True) trivial (v_fieldAddr T.fld_97_2_3 rfl) ?_)
              refine rl_v rfl rfl rfl (by first | exact sat_cell hw (by (repeat (first | with_reducible exact Pick.here _ | apply Pick.there)); first | done | fail) rfl | exact own_cell hw (by (repeat (first | with_reducible exact Pick.here _ | apply Pick.there)); first | done | fail) (by first | rfl | assumption) | exact old_cell hw (by (repeat (first | with_reducible exact Pick.here _ | apply Pick.there)); first | done | fail) (by assumption) | assumption) (v_load T.scal_3 rfl) ?_
              first | (refine rl_v rfl rfl rfl (S := fun _ => True) trivial (v_add rfl rfl (by omega)) ?_) | (refine rl_v rfl rfl rfl (S := fun _ => True) trivial (v_addW rfl rfl) ?_)
              refine rl_v rfl rfl rfl (S := fun _ => True) trivial (v_nilCheck rfl) ?_
              first | (refine rl_v rfl rfl rfl (S := fun _ => True) trivial (v_fieldAddr0 T.fld_97_2_3 rfl) ?_) | (refine rl_v rfl rfl rfl (S := fun _ => True) trivial (v_fieldAddr T.fld_97_2_3 rfl) ?_)
              first | (refine rl_k rfl (k_storeOwn hw T.scal_3 rfl rfl rfl (by (repeat (first | with_reducible exact Pick.here _ | apply Pick.there)); first | done | fail) (by assumption) (fun w hw => ?_))) | (refine rl_k rfl (k_store hw T.scal_3 rfl rfl rfl (by (repeat (first | with_reducible exact Pick.here _ | apply Pick.there)); first | done | fail) rfl (by first | (simp only [List.set, Int.reduceToNat, Nat.reduceMul, Nat.reduceAdd]; rfl) | rfl) (fun w hw => ?_)))
              refine rl_nil (g_le (Fr.le_skip rfl (Fr.le_skip rfl (Fr.le_skip rfl (Fr.le_skip rfl (Fr.le_skip rfl (Fr.le_skip rfl (Fr.le_skip rfl (Fr.le_skip rfl (Fr.le_refl _))))))))) ?_)
              repeat (first | refine g_seq ?_ | refine g_skip ?_ | refine g_inBlock ?_ | refine g_block ?_ | refine g_label ?_)
              refine g_region ?_
              refine rl_v rfl rfl rfl (S := fun _ => True) trivial (v_assign rfl) ?_
              refine rl_nil (g_le (Fr.le_keep (Fr.le_refl _)) ?_)
              refine g_ret1 Try.func54 rfl rfl ?_
              rw [Cs.lay, if_pos hsp]
              exact ⟨rfl, hw⟩
  · rw [Cs.set_130 hi]
    refine calls_of_g (n := 50) Try.func54 rfl rfl rfl ?_
    change G _ _ _ _ _ [(0, _), (1, _), (2, _)] _
    repeat (first | refine g_seq ?_ | refine g_skip ?_ | refine g_inBlock ?_ | refine g_block ?_ | refine g_label ?_)
    refine g_region ?_
    refine rl_v rfl rfl rfl (S := fun _ => True) trivial (v_assign rfl) ?_
    refine rl_nil (g_le (Fr.le_keep (Fr.le_refl _)) ?_)
    repeat (first | refine g_seq ?_ | refine g_skip ?_ | refine g_inBlock ?_ | refine g_block ?_ | refine g_label ?_)
    refine g_region ?_
    refine rl_v rfl rfl rfl (S := fun _ => True) trivial (v_move rfl) ?_
    first | (refine rl_v rfl rfl rfl (S := fun _ => True) trivial (v_neqT rfl rfl (by omega)) ?_) | (refine rl_v rfl rfl rfl (S := fun _ => True) trivial (v_neqF rfl rfl (by first | omega | rfl)) ?_) | (refine rl_v rfl rfl rfl (S := fun _ => True) trivial (v_neq rfl rfl) ?_)
    refine rl_v rfl rfl rfl (S := fun _ => True) trivial (v_move rfl) ?_
    first | (refine rl_vg (met_on rfl rfl rfl rfl) rfl rfl (S := fun _ => True) trivial (v_move rfl) ?_) | (refine rl_off (by first | exact met_off rfl rfl rfl rfl rfl | exact met_gone rfl rfl rfl rfl) rfl rfl ?_)
    first | (refine rl_vg (met_on rfl rfl rfl rfl) rfl rfl (S := fun _ => True) trivial (v_neqT rfl rfl (by omega)) ?_) | (refine rl_vg (met_on rfl rfl rfl rfl) rfl rfl (S := fun _ => True) trivial (v_neqF rfl rfl (by first | omega | rfl)) ?_) | (refine rl_vg (met_on rfl rfl rfl rfl) rfl rfl (S := fun _ => True) trivial (v_neq rfl rfl) ?_) | (refine rl_off (by first | exact met_off rfl rfl rfl rfl rfl | exact met_gone rfl rfl rfl rfl) rfl rfl ?_)
    first | (refine rl_v rfl rfl rfl (S := fun _ => True) trivial (v_pick_true rfl rfl) ?_) | (refine rl_v rfl rfl rfl (S := fun _ => True) trivial (v_pick_false rfl rfl) ?_) | (refine rl_v rfl rfl rfl (S := fun _ => True) trivial (v_pick rfl rfl rfl) ?_)
    refine rl_nil (g_le (Fr.le_keep (Fr.le_skip rfl (Fr.le_skip rfl (Fr.le_skip rfl (Fr.le_skip rfl (Fr.le_skip rfl (Fr.le_refl _))))))) ?_)
    repeat (first | refine g_seq ?_ | refine g_skip ?_ | refine g_inBlock ?_ | refine g_block ?_ | refine g_label ?_)
    refine g_cond_true rfl ?_
    repeat (first | refine g_seq ?_ | refine g_skip ?_ | refine g_inBlock ?_ | refine g_block ?_ | refine g_label ?_)
    refine g_region ?_
    refine rl_v rfl rfl rfl (S := fun _ => True) trivial (v_assign rfl) ?_
    refine rl_nil (g_le (Fr.le_keep (Fr.le_refl _)) ?_)
    refine g_ret1 Try.func54 rfl rfl ?_
    exact ⟨rfl, hw⟩

theorem rerase_calls {E : Env} {w : World} {L : List As} (c p : Nat) (s : Cs) (pw : Pw) (i : Int) (hok : pw.ok) (hw : Sat E w (RcAt c p s :: RwAt p pw.ref :: L)) :
    Calls Try.prog 55 #[.pointer (some ⟨c, 0, none⟩), .int .i64 i] w
      fun e w' => e = .returned (.int .i64 (s.erase pw i).1) ∧ Sat E w' (RcAt c p (s.erase pw i).2.1 :: RwAt p (s.erase pw i).2.2.ref :: L) := by
  by_cases hi : i = 0 ∨ i = 1
  · obtain ⟨a, b, n⟩ := s
    refine calls_of_g (n := 40) Try.func55 rfl rfl rfl ?_
    change G _ _ _ _ _ [(0, _), (1, _)] _
    rcases hi with rfl | rfl
    · repeat (first | refine g_seq ?_ | refine g_skip ?_ | refine g_inBlock ?_ | refine g_block ?_ | refine g_label ?_)
      refine g_region ?_
      refine rl_v rfl rfl rfl (S := fun _ => True) trivial (v_assign rfl) ?_
      refine rl_nil (g_le (Fr.le_keep (Fr.le_refl _)) ?_)
      repeat (first | refine g_seq ?_ | refine g_skip ?_ | refine g_inBlock ?_ | refine g_block ?_ | refine g_label ?_)
      refine g_region ?_
      refine rl_v rfl rfl rfl (S := fun _ => True) trivial (v_move rfl) ?_
      first | (refine rl_v rfl rfl rfl (S := fun _ => True) trivial (v_neqT rfl rfl (by omega)) ?_) | (refine rl_v rfl rfl rfl (S := fun _ => True) trivial (v_neqF rfl rfl (by first | omega | rfl)) ?_) | (refine rl_v rfl rfl rfl (S := fun _ => True) trivial (v_neq rfl rfl) ?_)
      refine rl_v rfl rfl rfl (S := fun _ => True) trivial (v_move rfl) ?_
      first | (refine rl_vg (met_on rfl rfl rfl rfl) rfl rfl (S := fun _ => True) trivial (v_move rfl) ?_) | (refine rl_off (by first | exact met_off rfl rfl rfl rfl rfl | exact met_gone rfl rfl rfl rfl) rfl rfl ?_)
      first | (refine rl_vg (met_on rfl rfl rfl rfl) rfl rfl (S := fun _ => True) trivial (v_neqT rfl rfl (by omega)) ?_) | (refine rl_vg (met_on rfl rfl rfl rfl) rfl rfl (S := fun _ => True) trivial (v_neqF rfl rfl (by first | omega | rfl)) ?_) | (refine rl_vg (met_on rfl rfl rfl rfl) rfl rfl (S := fun _ => True) trivial (v_neq rfl rfl) ?_) | (refine rl_off (by first | exact met_off rfl rfl rfl rfl rfl | exact met_gone rfl rfl rfl rfl) rfl rfl ?_)
      first | (refine rl_v rfl rfl rfl (S := fun _ => True) trivial (v_pick_true rfl rfl) ?_) | (refine rl_v rfl rfl rfl (S := fun _ => True) trivial (v_pick_false rfl rfl) ?_) | (refine rl_v rfl rfl rfl (S := fun _ => True) trivial (v_pick rfl rfl rfl) ?_)
      refine rl_nil (g_le (Fr.le_keep (Fr.le_skip rfl (Fr.le_skip rfl (Fr.le_skip rfl (Fr.le_skip rfl (Fr.le_skip rfl (Fr.le_refl _))))))) ?_)
      repeat (first | refine g_seq ?_ | refine g_skip ?_ | refine g_inBlock ?_ | refine g_block ?_ | refine g_label ?_)
      refine g_cond_false rfl ?_
      repeat (first | refine g_seq ?_ | refine g_skip ?_ | refine g_inBlock ?_ | refine g_block ?_ | refine g_label ?_)
      refine g_region ?_
      refine rl_v rfl rfl rfl (S := fun _ => True) trivial (v_move rfl) ?_
      refine rl_v rfl rfl rfl (S := fun _ => True) trivial (v_move rfl) ?_
      refine rl_v rfl rfl rfl (S := fun _ => True) trivial (v_nilCheck rfl) ?_
      first | (refine rl_v rfl rfl rfl (S := fun _ => True) trivial (v_fieldAddr0 T.fld_97_1_1 rfl) ?_) | (refine rl_v rfl rfl rfl (S := fun _ => True) trivial (v_fieldAddr T.fld_97_1_1 rfl) ?_)
      refine rl_v rfl rfl rfl (S := fun _ => True) trivial (v_indexAddrArr T.arr_70_2_9_1 rfl rfl (by omega) (by omega)) ?_
      refine rl_v rfl rfl rfl (by first | exact sat_cell hw (by (repeat (first | with_reducible exact Pick.here _ | apply Pick.there)); first | done | fail) rfl | exact own_cell hw (by (repeat (first | with_reducible exact Pick.here _ | apply Pick.there)); first | done | fail) (by first | rfl | assumption) | exact old_cell hw (by (repeat (first | with_reducible exact Pick.here _ | apply Pick.there)); first | done | fail) (by assumption) | assumption) (v_load T.scal_9 rfl) ?_
      first | (refine rl_v rfl rfl rfl (S := fun _ => True) trivial (v_eqlStrT rfl rfl (by first | rfl | assumption)) ?_) | (refine rl_v rfl rfl rfl (S := fun _ => True) trivial (v_eqlStrF rfl rfl (by first | assumption | decide)) ?_) | (refine rl_v rfl rfl rfl (S := fun _ => True) trivial (v_eqlStr rfl rfl) ?_)
      refine rl_nil (g_le (Fr.le_keep (Fr.le_skip rfl (Fr.le_skip rfl (Fr.le_skip rfl (Fr.le_skip rfl (Fr.le_skip rfl (Fr.le_skip rfl (Fr.le_refl _)))))))) ?_)
      repeat (first | refine g_seq ?_ | refine g_skip ?_ | refine g_inBlock ?_ | refine g_block ?_ | refine g_label ?_)
      refine g_cond_dec rfl (fun h => ?_) (fun h => ?_)
      · repeat (first | refine g_seq ?_ | refine g_skip ?_ | refine g_inBlock ?_ | refine g_block ?_ | refine g_label ?_)
        refine g_region ?_
        refine rl_v rfl rfl rfl (S := fun _ => True) trivial (v_assign rfl) ?_
        refine rl_nil (g_le (Fr.le_keep (Fr.le_refl _)) ?_)
        refine g_ret1 Try.func55 rfl rfl ?_
        rw [Cs.erase_132 (s := ⟨a, b, n⟩) (i := 0) (by omega) h]
        exact ⟨rfl, hw⟩
      · rw [Cs.erase_lay (s := ⟨a, b, n⟩) (i := 0) (by omega) h]
        repeat (first | refine g_seq ?_ | refine g_skip ?_ | refine g_inBlock ?_ | refine g_block ?_ | refine g_label ?_)
        refine g_region ?_
        refine rl_v rfl rfl rfl (S := fun _ => True) trivial (v_move rfl) ?_
        refine rl_v rfl rfl rfl (S := fun _ => True) trivial (v_nilCheck rfl) ?_
        first | (refine rl_v rfl rfl rfl (S := fun _ => True) trivial (v_fieldAddr0 T.fld_97_0_0 rfl) ?_) | (refine rl_v rfl rfl rfl (S := fun _ => True) trivial (v_fieldAddr T.fld_97_0_0 rfl) ?_)
        refine rl_v rfl rfl rfl (by first | exact sat_cell hw (by (repeat (first | with_reducible exact Pick.here _ | apply Pick.there)); first | done | fail) rfl | exact own_cell hw (by (repeat (first | with_reducible exact Pick.here _ | apply Pick.there)); first | done | fail) (by first | rfl | assumption) | exact old_cell hw (by (repeat (first | with_reducible exact Pick.here _ | apply Pick.there)); first | done | fail) (by assumption) | assumption) (v_load T.scal_26 rfl) ?_
        refine rl_k rfl (k_callf Try.func46 rfl rfl rfl rfl ?_)
        refine Calls.mono (rspend_calls p pw hok (hw.pick (by (repeat (first | with_reducible exact Pick.here _ | apply Pick.there)); first | done | fail))) ?_
        rintro _ w ⟨rfl, hw⟩
        refine ⟨_, rfl, ?_⟩
        refine rl_v rfl rfl rfl (S := fun _ => True) trivial (v_assign rfl) ?_
        refine rl_nil (g_le (Fr.le_keep (Fr.le_skip rfl (Fr.le_skip rfl (Fr.le_skip rfl (Fr.le_skip rfl (Fr.le_skip rfl (Fr.le_refl _))))))) ?_)
        repeat (first | refine g_seq ?_ | refine g_skip ?_ | refine g_inBlock ?_ | refine g_block ?_ | refine g_label ?_)
        refine g_region ?_
        refine rl_v rfl rfl rfl (S := fun _ => True) trivial (v_move rfl) ?_
        first | (refine rl_v rfl rfl rfl (S := fun _ => True) trivial (v_neqT rfl rfl (by omega)) ?_) | (refine rl_v rfl rfl rfl (S := fun _ => True) trivial (v_neqF rfl rfl (by first | omega | rfl)) ?_) | (refine rl_v rfl rfl rfl (S := fun _ => True) trivial (v_neq rfl rfl) ?_)
        refine rl_nil (g_le (Fr.le_keep (Fr.le_skip rfl (Fr.le_refl _))) ?_)
        repeat (first | refine g_seq ?_ | refine g_skip ?_ | refine g_inBlock ?_ | refine g_block ?_ | refine g_label ?_)
        refine g_cond_dec rfl (fun hsp => ?_) (fun hsp => ?_)
        · repeat (first | refine g_seq ?_ | refine g_skip ?_ | refine g_inBlock ?_ | refine g_block ?_ | refine g_label ?_)
          refine g_region ?_
          refine rl_v rfl rfl rfl (S := fun _ => True) trivial (v_move rfl) ?_
          refine rl_v rfl rfl rfl (S := fun _ => True) trivial (v_assign rfl) ?_
          refine rl_nil (g_le (Fr.le_keep (Fr.le_skip rfl (Fr.le_refl _))) ?_)
          refine g_ret1 Try.func55 rfl rfl ?_
          rw [Cs.lay, if_neg hsp]
          exact ⟨rfl, hw.sub (by (repeat (first | with_reducible exact Sub.refl _ | exact Sub.nil _ | (apply Sub.cons; focus ((repeat (first | with_reducible exact Pick.here _ | apply Pick.there)); (first | done | fail))) | with_reducible apply Sub.drop)); first | done | fail)⟩
        · have hsp : pw.spend.1 = 0 := by omega
          repeat (first | refine g_seq ?_ | refine g_skip ?_ | refine g_inBlock ?_ | refine g_block ?_ | refine g_label ?_)
          refine g_region ?_
          refine rl_v rfl rfl rfl (S := fun _ => True) trivial (v_move rfl) ?_
          refine rl_v rfl rfl rfl (S := fun _ => True) trivial (v_move rfl) ?_
          refine rl_v rfl rfl rfl (S := fun _ => True) trivial (v_nilCheck rfl) ?_
          first | (refine rl_v rfl rfl rfl (S := fun _ => True) trivial (v_fieldAddr0 T.fld_97_1_1 rfl) ?_) | (refine rl_v rfl rfl rfl (S := fun _ => True) trivial (v_fieldAddr T.fld_97_1_1 rfl) ?_)
          refine rl_v rfl rfl rfl (S := fun _ => True) trivial (v_indexAddrArr T.arr_70_2_9_1 rfl rfl (by omega) (by omega)) ?_
          first | (refine rl_k rfl (k_storeOwn hw T.scal_9 rfl rfl rfl (by (repeat (first | with_reducible exact Pick.here _ | apply Pick.there)); first | done | fail) (by assumption) (fun w hw => ?_))) | (refine rl_k rfl (k_store hw T.scal_9 rfl rfl rfl (by (repeat (first | with_reducible exact Pick.here _ | apply Pick.there)); first | done | fail) rfl (by first | (simp only [List.set, Int.reduceToNat, Nat.reduceMul, Nat.reduceAdd]; rfl) | rfl) (fun w hw => ?_)))
          refine rl_nil (g_le (Fr.le_skip rfl (Fr.le_skip rfl (Fr.le_skip rfl (Fr.le_skip rfl (Fr.le_skip rfl (Fr.le_refl _)))))) ?_)
          repeat (first | refine g_seq ?_ | refine g_skip ?_ | refine g_inBlock ?_ | refine g_block ?_ | refine g_label ?_)
          refine g_region ?_
          refine rl_v rfl rfl rfl (S := fun _ => True) trivial (v_move rfl) ?_
          refine rl_v rfl rfl rfl (S := fun _ => True) trivial (v_move rfl) ?_
          refine rl_v rfl rfl rfl (S := fun _ => True) trivial (v_nilCheck rfl) ?_
          first | (refine rl_v rfl rfl rfl (S := fun _ => True) trivial (v_fieldAddr0 T.fld_97_2_3 rfl) ?_) | (refine rl_v rfl rfl rfl (S := fun _ => True) trivial (v_fieldAddr T.fld_97_2_3 rfl) ?_)
          refine rl_v rfl rfl rfl (by first | exact sat_cell hw (by (repeat (first | with_reducible exact Pick.here _ | apply Pick.there)); first | done | fail) rfl | exact own_cell hw (by (repeat (first | with_reducible exact Pick.here _ | apply Pick.there)); first | done | fail) (by first | rfl | assumption) | exact old_cell hw (by (repeat (first | with_reducible exact Pick.here _ | apply Pick.there)); first | done | fail) (by assumption) | assumption) (v_load T.scal_3 rfl) ?_
          first | (refine rl_v rfl rfl rfl (S := fun _ => True) trivial (v_add rfl rfl (by omega)) ?_) | (refine rl_v rfl rfl rfl (S := fun _ => True) trivial (v_addW rfl rfl) ?_)
          refine rl_v rfl rfl rfl (S := fun _ => True) trivial (v_nilCheck rfl) ?_
          first | (refine rl_v rfl rfl rfl (S := fun _ => True) trivial (v_fieldAddr0 T.fld_97_2_3 rfl) ?_) | (refine rl_v rfl rfl rfl (S := fun _ => True) trivial (v_fieldAddr T.fld_97_2_3 rfl) ?_)
          first | (refine rl_k rfl (k_storeOwn hw T.scal_3 rfl rfl rfl (by (repeat (first | with_reducible exact Pick.here _ | apply Pick.there)); first | done | fail) (by assumption) (fun w hw => ?_))) | (refine rl_k rfl (k_store hw T.scal_3 rfl rfl rfl (by (repeat (first | with_reducible exact Pick.here _ | apply Pick.there)); first | done | fail) rfl (by first | (simp only [List.set, Int.reduceToNat, Nat.reduceMul, Nat.reduceAdd]; rfl) | rfl) (fun w hw => ?_)))
          refine rl_nil (g_le (Fr.le_skip rfl (Fr.le_skip rfl (Fr.le_skip rfl (Fr.le_skip rfl (Fr.le_skip rfl (Fr.le_skip rfl (Fr.le_skip rfl (Fr.le_skip rfl (Fr.le_refl _))))))))) ?_)
          repeat (first | refine g_seq ?_ | refine g_skip ?_ | refine g_inBlock ?_ | refine g_block ?_ | refine g_label ?_)
          refine g_region ?_
          refine rl_v rfl rfl rfl (S := fun _ => True) trivial (v_assign rfl) ?_
          refine rl_nil (g_le (Fr.le_keep (Fr.le_refl _)) ?_)
          refine g_ret1 Try.func55 rfl rfl ?_
          rw [Cs.lay, if_pos hsp]
          exact ⟨rfl, hw⟩
    · repeat (first | refine g_seq ?_ | refine g_skip ?_ | refine g_inBlock ?_ | refine g_block ?_ | refine g_label ?_)
      refine g_region ?_
      refine rl_v rfl rfl rfl (S := fun _ => True) trivial (v_assign rfl) ?_
      refine rl_nil (g_le (Fr.le_keep (Fr.le_refl _)) ?_)
      repeat (first | refine g_seq ?_ | refine g_skip ?_ | refine g_inBlock ?_ | refine g_block ?_ | refine g_label ?_)
      refine g_region ?_
      refine rl_v rfl rfl rfl (S := fun _ => True) trivial (v_move rfl) ?_
      first | (refine rl_v rfl rfl rfl (S := fun _ => True) trivial (v_neqT rfl rfl (by omega)) ?_) | (refine rl_v rfl rfl rfl (S := fun _ => True) trivial (v_neqF rfl rfl (by first | omega | rfl)) ?_) | (refine rl_v rfl rfl rfl (S := fun _ => True) trivial (v_neq rfl rfl) ?_)
      refine rl_v rfl rfl rfl (S := fun _ => True) trivial (v_move rfl) ?_
      first | (refine rl_vg (met_on rfl rfl rfl rfl) rfl rfl (S := fun _ => True) trivial (v_move rfl) ?_) | (refine rl_off (by first | exact met_off rfl rfl rfl rfl rfl | exact met_gone rfl rfl rfl rfl) rfl rfl ?_)
      first | (refine rl_vg (met_on rfl rfl rfl rfl) rfl rfl (S := fun _ => True) trivial (v_neqT rfl rfl (by omega)) ?_) | (refine rl_vg (met_on rfl rfl rfl rfl) rfl rfl (S := fun _ => True) trivial (v_neqF rfl rfl (by first | omega | rfl)) ?_) | (refine rl_vg (met_on rfl rfl rfl rfl) rfl rfl (S := fun _ => True) trivial (v_neq rfl rfl) ?_) | (refine rl_off (by first | exact met_off rfl rfl rfl rfl rfl | exact met_gone rfl rfl rfl rfl) rfl rfl ?_)
      first | (refine rl_v rfl rfl rfl (S := fun _ => True) trivial (v_pick_true rfl rfl) ?_) | (refine rl_v rfl rfl rfl (S := fun _ => True) trivial (v_pick_false rfl rfl) ?_) | (refine rl_v rfl rfl rfl (S := fun _ => True) trivial (v_pick rfl rfl rfl) ?_)
      refine rl_nil (g_le (Fr.le_keep (Fr.le_skip rfl (Fr.le_skip rfl (Fr.le_skip rfl (Fr.le_skip rfl (Fr.le_skip rfl (Fr.le_refl _))))))) ?_)
      repeat (first | refine g_seq ?_ | refine g_skip ?_ | refine g_inBlock ?_ | refine g_block ?_ | refine g_label ?_)
      refine g_cond_false rfl ?_
      repeat (first | refine g_seq ?_ | refine g_skip ?_ | refine g_inBlock ?_ | refine g_block ?_ | refine g_label ?_)
      refine g_region ?_
      refine rl_v rfl rfl rfl (S := fun _ => True) trivial (v_move rfl) ?_
      refine rl_v rfl rfl rfl (S := fun _ => True) trivial (v_move rfl) ?_
      refine rl_v rfl rfl rfl (S := fun _ => True) trivial (v_nilCheck rfl) ?_
      first | (refine rl_v rfl rfl rfl (S := fun _ => True) trivial (v_fieldAddr0 T.fld_97_1_1 rfl) ?_) | (refine rl_v rfl rfl rfl (S := fun _ => True) trivial (v_fieldAddr T.fld_97_1_1 rfl) ?_)
      refine rl_v rfl rfl rfl (S := fun _ => True) trivial (v_indexAddrArr T.arr_70_2_9_1 rfl rfl (by omega) (by omega)) ?_
      refine rl_v rfl rfl rfl (by first | exact sat_cell hw (by (repeat (first | with_reducible exact Pick.here _ | apply Pick.there)); first | done | fail) rfl | exact own_cell hw (by (repeat (first | with_reducible exact Pick.here _ | apply Pick.there)); first | done | fail) (by first | rfl | assumption) | exact old_cell hw (by (repeat (first | with_reducible exact Pick.here _ | apply Pick.there)); first | done | fail) (by assumption) | assumption) (v_load T.scal_9 rfl) ?_
      first | (refine rl_v rfl rfl rfl (S := fun _ => True) trivial (v_eqlStrT rfl rfl (by first | rfl | assumption)) ?_) | (refine rl_v rfl rfl rfl (S := fun _ => True) trivial (v_eqlStrF rfl rfl (by first | assumption | decide)) ?_) | (refine rl_v rfl rfl rfl (S := fun _ => True) trivial (v_eqlStr rfl rfl) ?_)
      refine rl_nil (g_le (Fr.le_keep (Fr.le_skip rfl (Fr.le_skip rfl (Fr.le_skip rfl (Fr.le_skip rfl (Fr.le_skip rfl (Fr.le_skip rfl (Fr.le_refl _)))))))) ?_)
      repeat (first | refine g_seq ?_ | refine g_skip ?_ | refine g_inBlock ?_ | refine g_block ?_ | refine g_label ?_)
      refine g_cond_dec rfl (fun h => ?_) (fun h => ?_)
      · repeat (first | refine g_seq ?_ | refine g_skip ?_ | refine g_inBlock ?_ | refine g_block ?_ | refine g_label ?_)
        refine g_region ?_
        refine rl_v rfl rfl rfl (S := fun _ => True) trivial (v_assign rfl) ?_
        refine rl_nil (g_le (Fr.le_keep (Fr.le_refl _)) ?_)
        refine g_ret1 Try.func55 rfl rfl ?_
        rw [Cs.erase_132 (s := ⟨a, b, n⟩) (i := 1) (by omega) h]
        exact ⟨rfl, hw⟩
      · rw [Cs.erase_lay (s := ⟨a, b, n⟩) (i := 1) (by omega) h]
        repeat (first | refine g_seq ?_ | refine g_skip ?_ | refine g_inBlock ?_ | refine g_block ?_ | refine g_label ?_)
        refine g_region ?_
        refine rl_v rfl rfl rfl (S := fun _ => True) trivial (v_move rfl) ?_
        refine rl_v rfl rfl rfl (S := fun _ => True) trivial (v_nilCheck rfl) ?_
        first | (refine rl_v rfl rfl rfl (S := fun _ => True) trivial (v_fieldAddr0 T.fld_97_0_0 rfl) ?_) | (refine rl_v rfl rfl rfl (S := fun _ => True) trivial (v_fieldAddr T.fld_97_0_0 rfl) ?_)
        refine rl_v rfl rfl rfl (by first | exact sat_cell hw (by (repeat (first | with_reducible exact Pick.here _ | apply Pick.there)); first | done | fail) rfl | exact own_cell hw (by (repeat (first | with_reducible exact Pick.here _ | apply Pick.there)); first | done | fail) (by first | rfl | assumption) | exact old_cell hw (by (repeat (first | with_reducible exact Pick.here _ | apply Pick.there)); first | done | fail) (by assumption) | assumption) (v_load T.scal_26 rfl) ?_
        refine rl_k rfl (k_callf Try.func46 rfl rfl rfl rfl ?_)
        refine Calls.mono (rspend_calls p pw hok (hw.pick (by (repeat (first | with_reducible exact Pick.here _ | apply Pick.there)); first | done | fail))) ?_
        rintro _ w ⟨rfl, hw⟩
        refine ⟨_, rfl, ?_⟩
        refine rl_v rfl rfl rfl (S := fun _ => True) trivial (v_assign rfl) ?_
        refine rl_nil (g_le (Fr.le_keep (Fr.le_skip rfl (Fr.le_skip rfl (Fr.le_skip rfl (Fr.le_skip rfl (Fr.le_skip rfl (Fr.le_refl _))))))) ?_)
        repeat (first | refine g_seq ?_ | refine g_skip ?_ | refine g_inBlock ?_ | refine g_block ?_ | refine g_label ?_)
        refine g_region ?_
        refine rl_v rfl rfl rfl (S := fun _ => True) trivial (v_move rfl) ?_
        first | (refine rl_v rfl rfl rfl (S := fun _ => True) trivial (v_neqT rfl rfl (by omega)) ?_) | (refine rl_v rfl rfl rfl (S := fun _ => True) trivial (v_neqF rfl rfl (by first | omega | rfl)) ?_) | (refine rl_v rfl rfl rfl (S := fun _ => True) trivial (v_neq rfl rfl) ?_)
        refine rl_nil (g_le (Fr.le_keep (Fr.le_skip rfl (Fr.le_refl _))) ?_)
        repeat (first | refine g_seq ?_ | refine g_skip ?_ | refine g_inBlock ?_ | refine g_block ?_ | refine g_label ?_)
        refine g_cond_dec rfl (fun hsp => ?_) (fun hsp => ?_)
        · repeat (first | refine g_seq ?_ | refine g_skip ?_ | refine g_inBlock ?_ | refine g_block ?_ | refine g_label ?_)
          refine g_region ?_
          refine rl_v rfl rfl rfl (S := fun _ => True) trivial (v_move rfl) ?_
          refine rl_v rfl rfl rfl (S := fun _ => True) trivial (v_assign rfl) ?_
          refine rl_nil (g_le (Fr.le_keep (Fr.le_skip rfl (Fr.le_refl _))) ?_)
          refine g_ret1 Try.func55 rfl rfl ?_
          rw [Cs.lay, if_neg hsp]
          exact ⟨rfl, hw.sub (by (repeat (first | with_reducible exact Sub.refl _ | exact Sub.nil _ | (apply Sub.cons; focus ((repeat (first | with_reducible exact Pick.here _ | apply Pick.there)); (first | done | fail))) | with_reducible apply Sub.drop)); first | done | fail)⟩
        · have hsp : pw.spend.1 = 0 := by omega
          repeat (first | refine g_seq ?_ | refine g_skip ?_ | refine g_inBlock ?_ | refine g_block ?_ | refine g_label ?_)
          refine g_region ?_
          refine rl_v rfl rfl rfl (S := fun _ => True) trivial (v_move rfl) ?_
          refine rl_v rfl rfl rfl (S := fun _ => True) trivial (v_move rfl) ?_
          refine rl_v rfl rfl rfl (S := fun _ => True) trivial (v_nilCheck rfl) ?_
          first | (refine rl_v rfl rfl rfl (S := fun _ => True) trivial (v_fieldAddr0 T.fld_97_1_1 rfl) ?_) | (refine rl_v rfl rfl rfl (S := fun _ => True) trivial (v_fieldAddr T.fld_97_1_1 rfl) ?_)
          refine rl_v rfl rfl rfl (S := fun _ => True) trivial (v_indexAddrArr T.arr_70_2_9_1 rfl rfl (by omega) (by omega)) ?_
          first | (refine rl_k rfl (k_storeOwn hw T.scal_9 rfl rfl rfl (by (repeat (first | with_reducible exact Pick.here _ | apply Pick.there)); first | done | fail) (by assumption) (fun w hw => ?_))) | (refine rl_k rfl (k_store hw T.scal_9 rfl rfl rfl (by (repeat (first | with_reducible exact Pick.here _ | apply Pick.there)); first | done | fail) rfl (by first | (simp only [List.set, Int.reduceToNat, Nat.reduceMul, Nat.reduceAdd]; rfl) | rfl) (fun w hw => ?_)))
          refine rl_nil (g_le (Fr.le_skip rfl (Fr.le_skip rfl (Fr.le_skip rfl (Fr.le_skip rfl (Fr.le_skip rfl (Fr.le_refl _)))))) ?_)
          repeat (first | refine g_seq ?_ | refine g_skip ?_ | refine g_inBlock ?_ | refine g_block ?_ | refine g_label ?_)
          refine g_region ?_
          refine rl_v rfl rfl rfl (S := fun _ => True) trivial (v_move rfl) ?_
          refine rl_v rfl rfl rfl (S := fun _ => True) trivial (v_move rfl) ?_
          refine rl_v rfl rfl rfl (S := fun _ => True) trivial (v_nilCheck rfl) ?_
          first | (refine rl_v rfl rfl rfl (S := fun _ => True) trivial (v_fieldAddr0 T.fld_97_2_3 rfl) ?_) | (refine rl_v rfl rfl rfl (S := fun _ => True) trivial (v_fieldAddr T.fld_97_2_3 rfl) ?_)
          refine rl_v rfl rfl rfl (by first | exact sat_cell hw (by (repeat (first | with_reducible exact Pick.here _ | apply Pick.there)); first | done | fail) rfl | exact own_cell hw (by (repeat (first | with_reducible exact Pick.here _ | apply Pick.there)); first | done | fail) (by first | rfl | assumption) | exact old_cell hw (by (repeat (first | with_reducible exact Pick.here _ | apply Pick.there)); first | done | fail) (by assumption) | assumption) (v_load T.scal_3 rfl) ?_
          first | (refine rl_v rfl rfl rfl (S := fun _ => True) trivial (v_add rfl rfl (by omega)) ?_) | (refine rl_v rfl rfl rfl (S := fun _ => True) trivial (v_addW rfl rfl) ?_)
          refine rl_v rfl rfl rfl (S := fun _ => True) trivial (v_nilCheck rfl) ?_
          first | (refine rl_v rfl rfl rfl (S := fun _ => True) trivial (v_fieldAddr0 T.fld_97_2_3 rfl) ?_) | (refine rl_v rfl rfl rfl (S := fun _ => True) trivial (v_fieldAddr T.fld_97_2_3 rfl) ?_)
          first | (refine rl_k rfl (k_storeOwn hw T.scal_3 rfl rfl rfl (by (repeat (first | with_reducible exact Pick.here _ | apply Pick.there)); first | done | fail) (by assumption) (fun w hw => ?_))) | (refine rl_k rfl (k_store hw T.scal_3 rfl rfl rfl (by (repeat (first | with_reducible exact Pick.here _ | apply Pick.there)); first | done | fail) rfl (by first | (simp only [List.set, Int.reduceToNat, Nat.reduceMul, Nat.reduceAdd]; rfl) | rfl) (fun w hw => ?_)))
          refine rl_nil (g_le (Fr.le_skip rfl (Fr.le_skip rfl (Fr.le_skip rfl (Fr.le_skip rfl (Fr.le_skip rfl (Fr.le_skip rfl (Fr.le_skip rfl (Fr.le_skip rfl (Fr.le_refl _))))))))) ?_)
          repeat (first | refine g_seq ?_ | refine g_skip ?_ | refine g_inBlock ?_ | refine g_block ?_ | refine g_label ?_)
          refine g_region ?_
          refine rl_v rfl rfl rfl (S := fun _ => True) trivial (v_assign rfl) ?_
          refine rl_nil (g_le (Fr.le_keep (Fr.le_refl _)) ?_)
          refine g_ret1 Try.func55 rfl rfl ?_
          rw [Cs.lay, if_pos hsp]
          exact ⟨rfl, hw⟩
  · rw [Cs.erase_130 hi]
    refine calls_of_g (n := 40) Try.func55 rfl rfl rfl ?_
    change G _ _ _ _ _ [(0, _), (1, _)] _
    repeat (first | refine g_seq ?_ | refine g_skip ?_ | refine g_inBlock ?_ | refine g_block ?_ | refine g_label ?_)
    refine g_region ?_
    refine rl_v rfl rfl rfl (S := fun _ => True) trivial (v_assign rfl) ?_
    refine rl_nil (g_le (Fr.le_keep (Fr.le_refl _)) ?_)
    repeat (first | refine g_seq ?_ | refine g_skip ?_ | refine g_inBlock ?_ | refine g_block ?_ | refine g_label ?_)
    refine g_region ?_
    refine rl_v rfl rfl rfl (S := fun _ => True) trivial (v_move rfl) ?_
    first | (refine rl_v rfl rfl rfl (S := fun _ => True) trivial (v_neqT rfl rfl (by omega)) ?_) | (refine rl_v rfl rfl rfl (S := fun _ => True) trivial (v_neqF rfl rfl (by first | omega | rfl)) ?_) | (refine rl_v rfl rfl rfl (S := fun _ => True) trivial (v_neq rfl rfl) ?_)
    refine rl_v rfl rfl rfl (S := fun _ => True) trivial (v_move rfl) ?_
    first | (refine rl_vg (met_on rfl rfl rfl rfl) rfl rfl (S := fun _ => True) trivial (v_move rfl) ?_) | (refine rl_off (by first | exact met_off rfl rfl rfl rfl rfl | exact met_gone rfl rfl rfl rfl) rfl rfl ?_)
    first | (refine rl_vg (met_on rfl rfl rfl rfl) rfl rfl (S := fun _ => True) trivial (v_neqT rfl rfl (by omega)) ?_) | (refine rl_vg (met_on rfl rfl rfl rfl) rfl rfl (S := fun _ => True) trivial (v_neqF rfl rfl (by first | omega | rfl)) ?_) | (refine rl_vg (met_on rfl rfl rfl rfl) rfl rfl (S := fun _ => True) trivial (v_neq rfl rfl) ?_) | (refine rl_off (by first | exact met_off rfl rfl rfl rfl rfl | exact met_gone rfl rfl rfl rfl) rfl rfl ?_)
    first | (refine rl_v rfl rfl rfl (S := fun _ => True) trivial (v_pick_true rfl rfl) ?_) | (refine rl_v rfl rfl rfl (S := fun _ => True) trivial (v_pick_false rfl rfl) ?_) | (refine rl_v rfl rfl rfl (S := fun _ => True) trivial (v_pick rfl rfl rfl) ?_)
    refine rl_nil (g_le (Fr.le_keep (Fr.le_skip rfl (Fr.le_skip rfl (Fr.le_skip rfl (Fr.le_skip rfl (Fr.le_skip rfl (Fr.le_refl _))))))) ?_)
    repeat (first | refine g_seq ?_ | refine g_skip ?_ | refine g_inBlock ?_ | refine g_block ?_ | refine g_label ?_)
    refine g_cond_true rfl ?_
    repeat (first | refine g_seq ?_ | refine g_skip ?_ | refine g_inBlock ?_ | refine g_block ?_ | refine g_label ?_)
    refine g_region ?_
    refine rl_v rfl rfl rfl (S := fun _ => True) trivial (v_assign rfl) ?_
    refine rl_nil (g_le (Fr.le_keep (Fr.le_refl _)) ?_)
    refine g_ret1 Try.func55 rfl rfl ?_
    exact ⟨rfl, hw⟩

theorem rget_calls {E : Env} {w : World} {L : List As} (c p : Nat) (s : Cs) (i : Int) (hw : Sat E w (RcAt c p s :: L)) :
    Calls Try.prog 56 #[.pointer (some ⟨c, 0, none⟩), .int .i64 i] w
      fun e w' => e = .returned (.tuple #[.string (s.told i).1, .bool (s.told i).2]) ∧ Sat E w' (RcAt c p s :: L) := by
  by_cases hi : i = 0 ∨ i = 1
  · obtain ⟨a, b, n⟩ := s
    refine calls_of_g (n := 25) Try.func56 rfl rfl rfl ?_
    change G _ _ _ _ _ [(0, _), (1, _)] _
    rcases hi with rfl | rfl
    · repeat (first | refine g_seq ?_ | refine g_skip ?_ | refine g_inBlock ?_ | refine g_block ?_ | refine g_label ?_)
      refine g_region ?_
      refine rl_v rfl rfl rfl (S := fun _ => True) trivial (v_assign rfl) ?_
      refine rl_v rfl rfl rfl (S := fun _ => True) trivial (v_assign rfl) ?_
      refine rl_nil (g_le (Fr.le_keep (Fr.le_keep (Fr.le_refl _))) ?_)
      repeat (first | refine g_seq ?_ | refine g_skip ?_ | refine g_inBlock ?_ | refine g_block ?_ | refine g_label ?_)
      refine g_region ?_
      refine rl_v rfl rfl rfl (S := fun _ => True) trivial (v_move rfl) ?_
      first | (refine rl_v rfl rfl rfl (S := fun _ => True) trivial (v_neqT rfl rfl (by omega)) ?_) | (refine rl_v rfl rfl rfl (S := fun _ => True) trivial (v_neqF rfl rfl (by first | omega | rfl)) ?_) | (refine rl_v rfl rfl rfl (S := fun _ => True) trivial (v_neq rfl rfl) ?_)
      refine rl_v rfl rfl rfl (S := fun _ => True) trivial (v_move rfl) ?_
      first | (refine rl_vg (met_on rfl rfl rfl rfl) rfl rfl (S := fun _ => True) trivial (v_move rfl) ?_) | (refine rl_off (by first | exact met_off rfl rfl rfl rfl rfl | exact met_gone rfl rfl rfl rfl) rfl rfl ?_)
      first | (refine rl_vg (met_on rfl rfl rfl rfl) rfl rfl (S := fun _ => True) trivial (v_neqT rfl rfl (by omega)) ?_) | (refine rl_vg (met_on rfl rfl rfl rfl) rfl rfl (S := fun _ => True) trivial (v_neqF rfl rfl (by first | omega | rfl)) ?_) | (refine rl_vg (met_on rfl rfl rfl rfl) rfl rfl (S := fun _ => True) trivial (v_neq rfl rfl) ?_) | (refine rl_off (by first | exact met_off rfl rfl rfl rfl rfl | exact met_gone rfl rfl rfl rfl) rfl rfl ?_)
      first | (refine rl_v rfl rfl rfl (S := fun _ => True) trivial (v_pick_true rfl rfl) ?_) | (refine rl_v rfl rfl rfl (S := fun _ => True) trivial (v_pick_false rfl rfl) ?_) | (refine rl_v rfl rfl rfl (S := fun _ => True) trivial (v_pick rfl rfl rfl) ?_)
      refine rl_nil (g_le (Fr.le_keep (Fr.le_skip rfl (Fr.le_skip rfl (Fr.le_skip rfl (Fr.le_skip rfl (Fr.le_skip rfl (Fr.le_refl _))))))) ?_)
      repeat (first | refine g_seq ?_ | refine g_skip ?_ | refine g_inBlock ?_ | refine g_block ?_ | refine g_label ?_)
      refine g_cond_false rfl ?_
      repeat (first | refine g_seq ?_ | refine g_skip ?_ | refine g_inBlock ?_ | refine g_block ?_ | refine g_label ?_)
      refine g_draw [] T.mixed rfl hw (fun w hw => ?_)
      refine ra_a 0 rfl rfl rfl rfl (by kernel_rfl) (v_move rfl) ?_
      refine ra_a 1 rfl rfl rfl rfl (by kernel_rfl) (v_move rfl) ?_
      refine ra_a 2 rfl rfl rfl rfl (by kernel_rfl) (v_nilCheck rfl) ?_
      first | (refine ra_a 3 rfl rfl rfl rfl (by kernel_rfl) (v_fieldAddr0 T.fld_97_1_1 rfl) ?_) | (refine ra_a 3 rfl rfl rfl rfl (by kernel_rfl) (v_fieldAddr T.fld_97_1_1 rfl) ?_)
      refine ra_a 4 rfl rfl rfl rfl (by kernel_rfl) (v_indexAddrArr T.arr_70_2_9_1 rfl rfl (by omega) (by omega)) ?_
      refine ra_v 5 rfl rfl rfl rfl (by kernel_rfl) (OpV.mono (v_load T.scal_9 rfl) (fun w hw => by first | exact sat_cell hw (by (repeat (first | with_reducible exact Pick.here _ | apply Pick.there)); first | done | fail) rfl | exact own_cell hw (by (repeat (first | with_reducible exact Pick.here _ | apply Pick.there)); first | done | fail) (by first | rfl | assumption) | exact old_cell hw (by (repeat (first | with_reducible exact Pick.here _ | apply Pick.there)); first | done | fail) (by assumption) | assumption)) (by first | exact hw | exact Sat.sub hw (by (repeat (first | with_reducible exact Sub.refl _ | exact Sub.nil _ | (apply Sub.cons; focus ((repeat (first | with_reducible exact Pick.here _ | apply Pick.there)); (first | done | fail))) | with_reducible apply Sub.drop)); first | done | fail)) ?_
      refine ra_a 6 rfl rfl rfl rfl (by kernel_rfl) (v_move rfl) ?_
      refine ra_a 7 rfl rfl rfl rfl (by kernel_rfl) (v_move rfl) ?_
      refine ra_a 8 rfl rfl rfl rfl (by kernel_rfl) (v_nilCheck rfl) ?_
      first | (refine ra_a 9 rfl rfl rfl rfl (by kernel_rfl) (v_fieldAddr0 T.fld_97_1_1 rfl) ?_) | (refine ra_a 9 rfl rfl rfl rfl (by kernel_rfl) (v_fieldAddr T.fld_97_1_1 rfl) ?_)
      refine ra_a 10 rfl rfl rfl rfl (by kernel_rfl) (v_indexAddrArr T.arr_70_2_9_1 rfl rfl (by omega) (by omega)) ?_
      refine ra_v 11 rfl rfl rfl rfl (by kernel_rfl) (OpV.mono (v_load T.scal_9 rfl) (fun w hw => by first | exact sat_cell hw (by (repeat (first | with_reducible exact Pick.here _ | apply Pick.there)); first | done | fail) rfl | exact own_cell hw (by (repeat (first | with_reducible exact Pick.here _ | apply Pick.there)); first | done | fail) (by first | rfl | assumption) | exact old_cell hw (by (repeat (first | with_reducible exact Pick.here _ | apply Pick.there)); first | done | fail) (by assumption) | assumption)) (by first | exact hw | exact Sat.sub hw (by (repeat (first | with_reducible exact Sub.refl _ | exact Sub.nil _ | (apply Sub.cons; focus ((repeat (first | with_reducible exact Pick.here _ | apply Pick.there)); (first | done | fail))) | with_reducible apply Sub.drop)); first | done | fail)) ?_
      first | (refine ra_a 12 rfl rfl rfl rfl (by kernel_rfl) (v_neqStrF rfl rfl (by first | rfl | assumption)) ?_) | (refine ra_a 12 rfl rfl rfl rfl (by kernel_rfl) (v_neqStrT rfl rfl (by first | assumption | decide)) ?_) | (refine ra_a 12 rfl rfl rfl rfl (by kernel_rfl) (v_neqStr rfl rfl) ?_)
      refine ra_a 13 rfl rfl rfl rfl (by kernel_rfl) (v_assign rfl) ?_
      refine ra_a 14 rfl rfl rfl rfl (by kernel_rfl) (v_assign rfl) ?_
      refine ra_done (by kernel_rfl) (g_le (Fr.le_keep (Fr.le_keep (Fr.le_skip rfl (Fr.le_skip rfl (Fr.le_skip rfl (Fr.le_skip rfl (Fr.le_skip rfl (Fr.le_skip rfl (Fr.le_skip rfl (Fr.le_skip rfl (Fr.le_skip rfl (Fr.le_skip rfl (Fr.le_skip rfl (Fr.le_skip rfl (Fr.le_skip rfl (Fr.le_refl _)))))))))))))))) ?_)
      refine g_ret2 Try.func56 rfl rfl rfl ?_
      exact ⟨rfl, hw⟩
    · repeat (first | refine g_seq ?_ | refine g_skip ?_ | refine g_inBlock ?_ | refine g_block ?_ | refine g_label ?_)
      refine g_region ?_
      refine rl_v rfl rfl rfl (S := fun _ => True) trivial (v_assign rfl) ?_
      refine rl_v rfl rfl rfl (S := fun _ => True) trivial (v_assign rfl) ?_
      refine rl_nil (g_le (Fr.le_keep (Fr.le_keep (Fr.le_refl _))) ?_)
      repeat (first | refine g_seq ?_ | refine g_skip ?_ | refine g_inBlock ?_ | refine g_block ?_ | refine g_label ?_)
      refine g_region ?_
      refine rl_v rfl rfl rfl (S := fun _ => True) trivial (v_move rfl) ?_
      first | (refine rl_v rfl rfl rfl (S := fun _ => True) trivial (v_neqT rfl rfl (by omega)) ?_) | (refine rl_v rfl rfl rfl (S := fun _ => True) trivial (v_neqF rfl rfl (by first | omega | rfl)) ?_) | (refine rl_v rfl rfl rfl (S := fun _ => True) trivial (v_neq rfl rfl) ?_)
      refine rl_v rfl rfl rfl (S := fun _ => True) trivial (v_move rfl) ?_
      first | (refine rl_vg (met_on rfl rfl rfl rfl) rfl rfl (S := fun _ => True) trivial (v_move rfl) ?_) | (refine rl_off (by first | exact met_off rfl rfl rfl rfl rfl | exact met_gone rfl rfl rfl rfl) rfl rfl ?_)
      first | (refine rl_vg (met_on rfl rfl rfl rfl) rfl rfl (S := fun _ => True) trivial (v_neqT rfl rfl (by omega)) ?_) | (refine rl_vg (met_on rfl rfl rfl rfl) rfl rfl (S := fun _ => True) trivial (v_neqF rfl rfl (by first | omega | rfl)) ?_) | (refine rl_vg (met_on rfl rfl rfl rfl) rfl rfl (S := fun _ => True) trivial (v_neq rfl rfl) ?_) | (refine rl_off (by first | exact met_off rfl rfl rfl rfl rfl | exact met_gone rfl rfl rfl rfl) rfl rfl ?_)
      first | (refine rl_v rfl rfl rfl (S := fun _ => True) trivial (v_pick_true rfl rfl) ?_) | (refine rl_v rfl rfl rfl (S := fun _ => True) trivial (v_pick_false rfl rfl) ?_) | (refine rl_v rfl rfl rfl (S := fun _ => True) trivial (v_pick rfl rfl rfl) ?_)
      refine rl_nil (g_le (Fr.le_keep (Fr.le_skip rfl (Fr.le_skip rfl (Fr.le_skip rfl (Fr.le_skip rfl (Fr.le_skip rfl (Fr.le_refl _))))))) ?_)
      repeat (first | refine g_seq ?_ | refine g_skip ?_ | refine g_inBlock ?_ | refine g_block ?_ | refine g_label ?_)
      refine g_cond_false rfl ?_
      repeat (first | refine g_seq ?_ | refine g_skip ?_ | refine g_inBlock ?_ | refine g_block ?_ | refine g_label ?_)
      refine g_draw [] T.mixed rfl hw (fun w hw => ?_)
      refine ra_a 0 rfl rfl rfl rfl (by kernel_rfl) (v_move rfl) ?_
      refine ra_a 1 rfl rfl rfl rfl (by kernel_rfl) (v_move rfl) ?_
      refine ra_a 2 rfl rfl rfl rfl (by kernel_rfl) (v_nilCheck rfl) ?_
      first | (refine ra_a 3 rfl rfl rfl rfl (by kernel_rfl) (v_fieldAddr0 T.fld_97_1_1 rfl) ?_) | (refine ra_a 3 rfl rfl rfl rfl (by kernel_rfl) (v_fieldAddr T.fld_97_1_1 rfl) ?_)
      refine ra_a 4 rfl rfl rfl rfl (by kernel_rfl) (v_indexAddrArr T.arr_70_2_9_1 rfl rfl (by omega) (by omega)) ?_
      refine ra_v 5 rfl rfl rfl rfl (by kernel_rfl) (OpV.mono (v_load T.scal_9 rfl) (fun w hw => by first | exact sat_cell hw (by (repeat (first | with_reducible exact Pick.here _ | apply Pick.there)); first | done | fail) rfl | exact own_cell hw (by (repeat (first | with_reducible exact Pick.here _ | apply Pick.there)); first | done | fail) (by first | rfl | assumption) | exact old_cell hw (by (repeat (first | with_reducible exact Pick.here _ | apply Pick.there)); first | done | fail) (by assumption) | assumption)) (by first | exact hw | exact Sat.sub hw (by (repeat (first | with_reducible exact Sub.refl _ | exact Sub.nil _ | (apply Sub.cons; focus ((repeat (first | with_reducible exact Pick.here _ | apply Pick.there)); (first | done | fail))) | with_reducible apply Sub.drop)); first | done | fail)) ?_
      refine ra_a 6 rfl rfl rfl rfl (by kernel_rfl) (v_move rfl) ?_
      refine ra_a 7 rfl rfl rfl rfl (by kernel_rfl) (v_move rfl) ?_
      refine ra_a 8 rfl rfl rfl rfl (by kernel_rfl) (v_nilCheck rfl) ?_
      first | (refine ra_a 9 rfl rfl rfl rfl (by kernel_rfl) (v_fieldAddr0 T.fld_97_1_1 rfl) ?_) | (refine ra_a 9 rfl rfl rfl rfl (by kernel_rfl) (v_fieldAddr T.fld_97_1_1 rfl) ?_)
      refine ra_a 10 rfl rfl rfl rfl (by kernel_rfl) (v_indexAddrArr T.arr_70_2_9_1 rfl rfl (by omega) (by omega)) ?_
      refine ra_v 11 rfl rfl rfl rfl (by kernel_rfl) (OpV.mono (v_load T.scal_9 rfl) (fun w hw => by first | exact sat_cell hw (by (repeat (first | with_reducible exact Pick.here _ | apply Pick.there)); first | done | fail) rfl | exact own_cell hw (by (repeat (first | with_reducible exact Pick.here _ | apply Pick.there)); first | done | fail) (by first | rfl | assumption) | exact old_cell hw (by (repeat (first | with_reducible exact Pick.here _ | apply Pick.there)); first | done | fail) (by assumption) | assumption)) (by first | exact hw | exact Sat.sub hw (by (repeat (first | with_reducible exact Sub.refl _ | exact Sub.nil _ | (apply Sub.cons; focus ((repeat (first | with_reducible exact Pick.here _ | apply Pick.there)); (first | done | fail))) | with_reducible apply Sub.drop)); first | done | fail)) ?_
      first | (refine ra_a 12 rfl rfl rfl rfl (by kernel_rfl) (v_neqStrF rfl rfl (by first | rfl | assumption)) ?_) | (refine ra_a 12 rfl rfl rfl rfl (by kernel_rfl) (v_neqStrT rfl rfl (by first | assumption | decide)) ?_) | (refine ra_a 12 rfl rfl rfl rfl (by kernel_rfl) (v_neqStr rfl rfl) ?_)
      refine ra_a 13 rfl rfl rfl rfl (by kernel_rfl) (v_assign rfl) ?_
      refine ra_a 14 rfl rfl rfl rfl (by kernel_rfl) (v_assign rfl) ?_
      refine ra_done (by kernel_rfl) (g_le (Fr.le_keep (Fr.le_keep (Fr.le_skip rfl (Fr.le_skip rfl (Fr.le_skip rfl (Fr.le_skip rfl (Fr.le_skip rfl (Fr.le_skip rfl (Fr.le_skip rfl (Fr.le_skip rfl (Fr.le_skip rfl (Fr.le_skip rfl (Fr.le_skip rfl (Fr.le_skip rfl (Fr.le_skip rfl (Fr.le_refl _)))))))))))))))) ?_)
      refine g_ret2 Try.func56 rfl rfl rfl ?_
      exact ⟨rfl, hw⟩
  · have e : s.told i = (nil, false) := by simp [Cs.told, hi]
    rw [e]
    refine calls_of_g (n := 25) Try.func56 rfl rfl rfl ?_
    change G _ _ _ _ _ [(0, _), (1, _)] _
    repeat (first | refine g_seq ?_ | refine g_skip ?_ | refine g_inBlock ?_ | refine g_block ?_ | refine g_label ?_)
    refine g_region ?_
    refine rl_v rfl rfl rfl (S := fun _ => True) trivial (v_assign rfl) ?_
    refine rl_v rfl rfl rfl (S := fun _ => True) trivial (v_assign rfl) ?_
    refine rl_nil (g_le (Fr.le_keep (Fr.le_keep (Fr.le_refl _))) ?_)
    repeat (first | refine g_seq ?_ | refine g_skip ?_ | refine g_inBlock ?_ | refine g_block ?_ | refine g_label ?_)
    refine g_region ?_
    refine rl_v rfl rfl rfl (S := fun _ => True) trivial (v_move rfl) ?_
    first | (refine rl_v rfl rfl rfl (S := fun _ => True) trivial (v_neqT rfl rfl (by omega)) ?_) | (refine rl_v rfl rfl rfl (S := fun _ => True) trivial (v_neqF rfl rfl (by first | omega | rfl)) ?_) | (refine rl_v rfl rfl rfl (S := fun _ => True) trivial (v_neq rfl rfl) ?_)
    refine rl_v rfl rfl rfl (S := fun _ => True) trivial (v_move rfl) ?_
    first | (refine rl_vg (met_on rfl rfl rfl rfl) rfl rfl (S := fun _ => True) trivial (v_move rfl) ?_) | (refine rl_off (by first | exact met_off rfl rfl rfl rfl rfl | exact met_gone rfl rfl rfl rfl) rfl rfl ?_)
    first | (refine rl_vg (met_on rfl rfl rfl rfl) rfl rfl (S := fun _ => True) trivial (v_neqT rfl rfl (by omega)) ?_) | (refine rl_vg (met_on rfl rfl rfl rfl) rfl rfl (S := fun _ => True) trivial (v_neqF rfl rfl (by first | omega | rfl)) ?_) | (refine rl_vg (met_on rfl rfl rfl rfl) rfl rfl (S := fun _ => True) trivial (v_neq rfl rfl) ?_) | (refine rl_off (by first | exact met_off rfl rfl rfl rfl rfl | exact met_gone rfl rfl rfl rfl) rfl rfl ?_)
    first | (refine rl_v rfl rfl rfl (S := fun _ => True) trivial (v_pick_true rfl rfl) ?_) | (refine rl_v rfl rfl rfl (S := fun _ => True) trivial (v_pick_false rfl rfl) ?_) | (refine rl_v rfl rfl rfl (S := fun _ => True) trivial (v_pick rfl rfl rfl) ?_)
    refine rl_nil (g_le (Fr.le_keep (Fr.le_skip rfl (Fr.le_skip rfl (Fr.le_skip rfl (Fr.le_skip rfl (Fr.le_skip rfl (Fr.le_refl _))))))) ?_)
    repeat (first | refine g_seq ?_ | refine g_skip ?_ | refine g_inBlock ?_ | refine g_block ?_ | refine g_label ?_)
    refine g_cond_true rfl ?_
    repeat (first | refine g_seq ?_ | refine g_skip ?_ | refine g_inBlock ?_ | refine g_block ?_ | refine g_label ?_)
    refine g_region ?_
    refine rl_v rfl rfl rfl (S := fun _ => True) trivial (v_assign rfl) ?_
    refine rl_v rfl rfl rfl (S := fun _ => True) trivial (v_assign rfl) ?_
    refine rl_nil (g_le (Fr.le_keep (Fr.le_keep (Fr.le_refl _))) ?_)
    refine g_ret2 Try.func56 rfl rfl rfl ?_
    exact ⟨rfl, hw⟩

theorem rslots_calls {E : Env} {w : World} {L : List As} (c p : Nat) (s : Cs) (hw : Sat E w (RcAt c p s :: L)) :
    Calls Try.prog 59 #[.pointer (some ⟨c, 0, none⟩)] w fun e w' => ∃ v, e = .returned v ∧ Sat E w' (IntsAt v (s.upto 2) :: RcAt c p s :: L) := by
  obtain ⟨a, b, n⟩ := s
  refine calls_of_g (n := 21) Try.func59 rfl rfl rfl ?_
  change G _ _ _ _ _ [(0, _)] _
  repeat (first | refine g_seq ?_ | refine g_skip ?_ | refine g_inBlock ?_ | refine g_block ?_ | refine g_label ?_)
  refine g_region ?_
  refine rl_v rfl rfl rfl (S := fun _ => True) trivial (v_assign rfl) ?_
  refine rl_nil (g_le (Fr.le_keep (Fr.le_refl _)) ?_)
  repeat (first | refine g_seq ?_ | refine g_skip ?_ | refine g_inBlock ?_ | refine g_block ?_ | refine g_label ?_)
  refine g_region ?_
  refine rl_v rfl rfl rfl (S := fun _ => True) trivial (v_assign rfl) ?_
  refine rl_nil (g_le (Fr.le_keep (Fr.le_refl _)) ?_)
  repeat (first | refine g_seq ?_ | refine g_skip ?_ | refine g_inBlock ?_ | refine g_block ?_ | refine g_label ?_)
  refine g_region ?_
  refine rl_v rfl rfl rfl (S := fun _ => True) trivial (v_assign rfl) ?_
  refine rl_nil (g_le (Fr.le_keep (Fr.le_refl _)) ?_)
  repeat (first | refine g_seq ?_ | refine g_skip ?_ | refine g_inBlock ?_ | refine g_block ?_ | refine g_label ?_)
  refine g_loop (σ := Int × Value) (fun x => [(4, .int .i64 x.1), (3, x.2), (0, _)])
    (fun x w => 0 ≤ x.1 ∧ x.1 ≤ 2 ∧ Sat E w (IntsAt x.2 (Cs.upto ⟨a, b, n⟩ x.1) :: RcAt c p ⟨a, b, n⟩ :: L)) (fun x => (2 - x.1).toNat) ?round
    (0, .slice none 0 0) (by repeat (first | exact Fr.le_nil _ | refine Fr.le_cons rfl ?_)) ⟨by simp, by simp, by simpa [Cs.upto, IntsAt] using hw.own_nil 3 1⟩
  rintro ⟨k, v⟩ w ⟨hk0, hk1, hw⟩ ih
  dsimp only at hk0 hk1 hw ⊢
  have hlen := Cs.upto_len ⟨a, b, n⟩ k hk1
  obtain rfl | rfl | rfl : k = 0 ∨ k = 1 ∨ k = 2 := by omega
  · repeat (first | refine g_seq ?_ | refine g_skip ?_ | refine g_inBlock ?_ | refine g_block ?_ | refine g_label ?_)
    refine g_region ?_
    refine rl_v rfl rfl rfl (S := fun _ => True) trivial (v_move rfl) ?_
    first | (refine rl_v rfl rfl rfl (S := fun _ => True) trivial (v_lssT rfl rfl (by omega)) ?_) | (refine rl_v rfl rfl rfl (S := fun _ => True) trivial (v_lssF rfl rfl (by omega)) ?_) | (refine rl_v rfl rfl rfl (S := fun _ => True) trivial (v_lss rfl rfl) ?_)
    refine rl_nil (g_le (Fr.le_keep (Fr.le_skip rfl (Fr.le_refl _))) ?_)
    repeat (first | refine g_seq ?_ | refine g_skip ?_ | refine g_inBlock ?_ | refine g_block ?_ | refine g_label ?_)
    refine g_cond_true rfl ?_
    repeat (first | refine g_seq ?_ | refine g_skip ?_ | refine g_inBlock ?_ | refine g_block ?_ | refine g_label ?_)
    refine g_region ?_
    refine rl_v rfl rfl rfl (S := fun _ => True) trivial (v_move rfl) ?_
    refine rl_v rfl rfl rfl (S := fun _ => True) trivial (v_move rfl) ?_
    refine rl_v rfl rfl rfl (S := fun _ => True) trivial (v_nilCheck rfl) ?_
    first | (refine rl_v rfl rfl rfl (S := fun _ => True) trivial (v_fieldAddr0 T.fld_97_1_1 rfl) ?_) | (refine rl_v rfl rfl rfl (S := fun _ => True) trivial (v_fieldAddr T.fld_97_1_1 rfl) ?_)
    refine rl_v rfl rfl rfl (S := fun _ => True) trivial (v_indexAddrArr T.arr_70_2_9_1 rfl rfl (by omega) (by omega)) ?_
    refine rl_v rfl rfl rfl (by first | exact sat_cell hw (by (repeat (first | with_reducible exact Pick.here _ | apply Pick.there)); first | done | fail) rfl | exact own_cell hw (by (repeat (first | with_reducible exact Pick.here _ | apply Pick.there)); first | done | fail) (by first | rfl | assumption) | exact old_cell hw (by (repeat (first | with_reducible exact Pick.here _ | apply Pick.there)); first | done | fail) (by assumption) | assumption) (v_load T.scal_9 rfl) ?_
    first | (refine rl_v rfl rfl rfl (S := fun _ => True) trivial (v_neqStrF rfl rfl (by first | rfl | assumption)) ?_) | (refine rl_v rfl rfl rfl (S := fun _ => True) trivial (v_neqStrT rfl rfl (by first | assumption | decide)) ?_) | (refine rl_v rfl rfl rfl (S := fun _ => True) trivial (v_neqStr rfl rfl) ?_)
    refine rl_nil (g_le (Fr.le_keep (Fr.le_skip rfl (Fr.le_skip rfl (Fr.le_skip rfl (Fr.le_skip rfl (Fr.le_skip rfl (Fr.le_skip rfl (Fr.le_refl _)))))))) ?_)
    repeat (first | refine g_seq ?_ | refine g_skip ?_ | refine g_inBlock ?_ | refine g_block ?_ | refine g_label ?_)
    refine g_cond_dec rfl (fun h2 => ?_) (fun h2 => ?_)
    · repeat (first | refine g_seq ?_ | refine g_skip ?_ | refine g_inBlock ?_ | refine g_block ?_ | refine g_label ?_)
      refine g_region ?_
      refine rl_v rfl rfl rfl (S := fun _ => True) trivial (v_move rfl) ?_
      refine rl_v rfl rfl rfl (S := fun _ => True) trivial (v_move rfl) ?_
      refine rl_k rfl (k_buildSlice (cells := [_]) hw T.sl_74_3_1 T.zero_3 rfl rfl rfl rfl rfl rfl (fun blk w hw => ?_))
      refine rl_k rfl (k_append (news := [_]) hw T.sl_74_3_1 T.zero_3 T.bytes_3_8 rfl (by decide) rfl rfl (by (repeat (first | with_reducible exact Pick.here _ | apply Pick.there)); first | done | fail) rfl (by first | exact sat_cells hw (by (repeat (first | with_reducible exact Pick.here _ | apply Pick.there)); first | done | fail) ⟨rfl, trivial⟩ | exact old_cells hw (by (repeat (first | with_reducible exact Pick.here _ | apply Pick.there)); first | done | fail) (by assumption)) (by simp [Value.oneCell']) (by omega) (by simp only [maxLen]; omega) rfl (fun vv w hw hnil => ?_))
      refine rl_v rfl rfl rfl (S := fun _ => True) trivial (v_assign rfl) ?_
      refine rl_nil (g_le (Fr.le_keep (Fr.le_skip rfl (Fr.le_skip rfl (Fr.le_skip rfl (Fr.le_skip rfl (Fr.le_refl _)))))) ?_)
      repeat (first | refine g_seq ?_ | refine g_skip ?_ | refine g_inBlock ?_ | refine g_block ?_ | refine g_label ?_)
      refine g_region ?_
      refine rl_v rfl rfl rfl (S := fun _ => True) trivial (v_move rfl) ?_
      first | (refine rl_v rfl rfl rfl (S := fun _ => True) trivial (v_add rfl rfl (by omega)) ?_) | (refine rl_v rfl rfl rfl (S := fun _ => True) trivial (v_addW rfl rfl) ?_)
      refine rl_v rfl rfl rfl (S := fun _ => True) trivial (v_assign rfl) ?_
      refine rl_nil (g_le (Fr.le_keep (Fr.le_skip rfl (Fr.le_skip rfl (Fr.le_refl _)))) ?_)
      exact g_le (by repeat (first | exact Fr.le_nil _ | refine Fr.le_cons rfl ?_)) (ih (0 + 1, vv) w ⟨by simp only; omega, by simp only; omega, by
        have e : Cs.upto ⟨a, b, n⟩ (0 + 1) = Cs.upto ⟨a, b, n⟩ 0 ++ [0] := by
          simp only [Cs.upto]
          simp [h2]
        simp only
        rw [e]
        simp only [IntsAt, List.length_append, List.map_append, List.length_cons, List.length_nil, List.map_cons, List.map_nil]
        exact hw.sub (by (repeat (first | with_reducible exact Sub.refl _ | exact Sub.nil _ | (apply Sub.cons; focus ((repeat (first | with_reducible exact Pick.here _ | apply Pick.there)); (first | done | fail))) | with_reducible apply Sub.drop)); first | done | fail)⟩ (by simp only; omega))
    · repeat (first | refine g_seq ?_ | refine g_skip ?_ | refine g_inBlock ?_ | refine g_block ?_ | refine g_label ?_)
      refine g_region ?_
      refine rl_v rfl rfl rfl (S := fun _ => True) trivial (v_move rfl) ?_
      first | (refine rl_v rfl rfl rfl (S := fun _ => True) trivial (v_add rfl rfl (by omega)) ?_) | (refine rl_v rfl rfl rfl (S := fun _ => True) trivial (v_addW rfl rfl) ?_)
      refine rl_v rfl rfl rfl (S := fun _ => True) trivial (v_assign rfl) ?_
      refine rl_nil (g_le (Fr.le_keep (Fr.le_skip rfl (Fr.le_skip rfl (Fr.le_refl _)))) ?_)
      exact g_le (by repeat (first | exact Fr.le_nil _ | refine Fr.le_cons rfl ?_)) (ih (0 + 1, v) w ⟨by simp only; omega, by simp only; omega, by
        have e : Cs.upto ⟨a, b, n⟩ (0 + 1) = Cs.upto ⟨a, b, n⟩ 0 := by
          simp only [Cs.upto]
          have h3 := ne_nil h2
          simp only at h3
          simp [h3]
        simp only
        rw [e]
        exact hw.sub (by (repeat (first | with_reducible exact Sub.refl _ | exact Sub.nil _ | (apply Sub.cons; focus ((repeat (first | with_reducible exact Pick.here _ | apply Pick.there)); (first | done | fail))) | with_reducible apply Sub.drop)); first | done | fail)⟩ (by simp only; omega))
  · repeat (first | refine g_seq ?_ | refine g_skip ?_ | refine g_inBlock ?_ | refine g_block ?_ | refine g_label ?_)
    refine g_region ?_
    refine rl_v rfl rfl rfl (S := fun _ => True) trivial (v_move rfl) ?_
    first | (refine rl_v rfl rfl rfl (S := fun _ => True) trivial (v_lssT rfl rfl (by omega)) ?_) | (refine rl_v rfl rfl rfl (S := fun _ => True) trivial (v_lssF rfl rfl (by omega)) ?_) | (refine rl_v rfl rfl rfl (S := fun _ => True) trivial (v_lss rfl rfl) ?_)
    refine rl_nil (g_le (Fr.le_keep (Fr.le_skip rfl (Fr.le_refl _))) ?_)
    repeat (first | refine g_seq ?_ | refine g_skip ?_ | refine g_inBlock ?_ | refine g_block ?_ | refine g_label ?_)
    refine g_cond_true rfl ?_
    repeat (first | refine g_seq ?_ | refine g_skip ?_ | refine g_inBlock ?_ | refine g_block ?_ | refine g_label ?_)
    refine g_region ?_
    refine rl_v rfl rfl rfl (S := fun _ => True) trivial (v_move rfl) ?_
    refine rl_v rfl rfl rfl (S := fun _ => True) trivial (v_move rfl) ?_
    refine rl_v rfl rfl rfl (S := fun _ => True) trivial (v_nilCheck rfl) ?_
    first | (refine rl_v rfl rfl rfl (S := fun _ => True) trivial (v_fieldAddr0 T.fld_97_1_1 rfl) ?_) | (refine rl_v rfl rfl rfl (S := fun _ => True) trivial (v_fieldAddr T.fld_97_1_1 rfl) ?_)
    refine rl_v rfl rfl rfl (S := fun _ => True) trivial (v_indexAddrArr T.arr_70_2_9_1 rfl rfl (by omega) (by omega)) ?_
    refine rl_v rfl rfl rfl (by first | exact sat_cell hw (by (repeat (first | with_reducible exact Pick.here _ | apply Pick.there)); first | done | fail) rfl | exact own_cell hw (by (repeat (first | with_reducible exact Pick.here _ | apply Pick.there)); first | done | fail) (by first | rfl | assumption) | exact old_cell hw (by (repeat (first | with_reducible exact Pick.here _ | apply Pick.there)); first | done | fail) (by assumption) | assumption) (v_load T.scal_9 rfl) ?_
    first | (refine rl_v rfl rfl rfl (S := fun _ => True) trivial (v_neqStrF rfl rfl (by first | rfl | assumption)) ?_) | (refine rl_v rfl rfl rfl (S := fun _ => True) trivial (v_neqStrT rfl rfl (by first | assumption | decide)) ?_) | (refine rl_v rfl rfl rfl (S := fun _ => True) trivial (v_neqStr rfl rfl) ?_)
    refine rl_nil (g_le (Fr.le_keep (Fr.le_skip rfl (Fr.le_skip rfl (Fr.le_skip rfl (Fr.le_skip rfl (Fr.le_skip rfl (Fr.le_skip rfl (Fr.le_refl _)))))))) ?_)
    repeat (first | refine g_seq ?_ | refine g_skip ?_ | refine g_inBlock ?_ | refine g_block ?_ | refine g_label ?_)
    refine g_cond_dec rfl (fun h2 => ?_) (fun h2 => ?_)
    · repeat (first | refine g_seq ?_ | refine g_skip ?_ | refine g_inBlock ?_ | refine g_block ?_ | refine g_label ?_)
      refine g_region ?_
      refine rl_v rfl rfl rfl (S := fun _ => True) trivial (v_move rfl) ?_
      refine rl_v rfl rfl rfl (S := fun _ => True) trivial (v_move rfl) ?_
      refine rl_k rfl (k_buildSlice (cells := [_]) hw T.sl_74_3_1 T.zero_3 rfl rfl rfl rfl rfl rfl (fun blk w hw => ?_))
      refine rl_k rfl (k_append (news := [_]) hw T.sl_74_3_1 T.zero_3 T.bytes_3_8 rfl (by decide) rfl rfl (by (repeat (first | with_reducible exact Pick.here _ | apply Pick.there)); first | done | fail) rfl (by first | exact sat_cells hw (by (repeat (first | with_reducible exact Pick.here _ | apply Pick.there)); first | done | fail) ⟨rfl, trivial⟩ | exact old_cells hw (by (repeat (first | with_reducible exact Pick.here _ | apply Pick.there)); first | done | fail) (by assumption)) (by simp [Value.oneCell']) (by omega) (by simp only [maxLen]; omega) rfl (fun vv w hw hnil => ?_))
      refine rl_v rfl rfl rfl (S := fun _ => True) trivial (v_assign rfl) ?_
      refine rl_nil (g_le (Fr.le_keep (Fr.le_skip rfl (Fr.le_skip rfl (Fr.le_skip rfl (Fr.le_skip rfl (Fr.le_refl _)))))) ?_)
      repeat (first | refine g_seq ?_ | refine g_skip ?_ | refine g_inBlock ?_ | refine g_block ?_ | refine g_label ?_)
      refine g_region ?_
      refine rl_v rfl rfl rfl (S := fun _ => True) trivial (v_move rfl) ?_
      first | (refine rl_v rfl rfl rfl (S := fun _ => True) trivial (v_add rfl rfl (by omega)) ?_) | (refine rl_v rfl rfl rfl (S := fun _ => True) trivial (v_addW rfl rfl) ?_)
      refine rl_v rfl rfl rfl (S := fun _ => True) trivial (v_assign rfl) ?_
      refine rl_nil (g_le (Fr.le_keep (Fr.le_skip rfl (Fr.le_skip rfl (Fr.le_refl _)))) ?_)
      exact g_le (by repeat (first | exact Fr.le_nil _ | refine Fr.le_cons rfl ?_)) (ih (1 + 1, vv) w ⟨by simp only; omega, by simp only; omega, by
        have e : Cs.upto ⟨a, b, n⟩ (1 + 1) = Cs.upto ⟨a, b, n⟩ 1 ++ [1] := by
          simp only [Cs.upto]
          simp [h2]
        simp only
        rw [e]
        simp only [IntsAt, List.length_append, List.map_append, List.length_cons, List.length_nil, List.map_cons, List.map_nil]
        exact hw.sub (by (repeat (first | with_reducible exact Sub.refl _ | exact Sub.nil _ | (apply Sub.cons; focus ((repeat (first | with_reducible exact Pick.here _ | apply Pick.there)); (first | done | fail))) | with_reducible apply Sub.drop)); first | done | fail)⟩ (by simp only; omega))
    · repeat (first | refine g_seq ?_ | refine g_skip ?_ | refine g_inBlock ?_ | refine g_block ?_ | refine g_label ?_)
      refine g_region ?_
      refine rl_v rfl rfl rfl (S := fun _ => True) trivial (v_move rfl) ?_
      first | (refine rl_v rfl rfl rfl (S := fun _ => True) trivial (v_add rfl rfl (by omega)) ?_) | (refine rl_v rfl rfl rfl (S := fun _ => True) trivial (v_addW rfl rfl) ?_)
      refine rl_v rfl rfl rfl (S := fun _ => True) trivial (v_assign rfl) ?_
      refine rl_nil (g_le (Fr.le_keep (Fr.le_skip rfl (Fr.le_skip rfl (Fr.le_refl _)))) ?_)
      exact g_le (by repeat (first | exact Fr.le_nil _ | refine Fr.le_cons rfl ?_)) (ih (1 + 1, v) w ⟨by simp only; omega, by simp only; omega, by
        have e : Cs.upto ⟨a, b, n⟩ (1 + 1) = Cs.upto ⟨a, b, n⟩ 1 := by
          simp only [Cs.upto]
          have h3 := ne_nil h2
          simp only at h3
          simp [h3]
        simp only
        rw [e]
        exact hw.sub (by (repeat (first | with_reducible exact Sub.refl _ | exact Sub.nil _ | (apply Sub.cons; focus ((repeat (first | with_reducible exact Pick.here _ | apply Pick.there)); (first | done | fail))) | with_reducible apply Sub.drop)); first | done | fail)⟩ (by simp only; omega))
  · repeat (first | refine g_seq ?_ | refine g_skip ?_ | refine g_inBlock ?_ | refine g_block ?_ | refine g_label ?_)
    refine g_region ?_
    refine rl_v rfl rfl rfl (S := fun _ => True) trivial (v_move rfl) ?_
    first | (refine rl_v rfl rfl rfl (S := fun _ => True) trivial (v_lssT rfl rfl (by omega)) ?_) | (refine rl_v rfl rfl rfl (S := fun _ => True) trivial (v_lssF rfl rfl (by omega)) ?_) | (refine rl_v rfl rfl rfl (S := fun _ => True) trivial (v_lss rfl rfl) ?_)
    refine rl_nil (g_le (Fr.le_keep (Fr.le_skip rfl (Fr.le_refl _))) ?_)
    repeat (first | refine g_seq ?_ | refine g_skip ?_ | refine g_inBlock ?_ | refine g_block ?_ | refine g_label ?_)
    refine g_cond_false rfl ?_
    repeat (first | refine g_seq ?_ | refine g_skip ?_ | refine g_inBlock ?_ | refine g_block ?_ | refine g_label ?_)
    refine g_exit rfl ?_
    repeat (first | refine g_seq ?_ | refine g_skip ?_ | refine g_inBlock ?_ | refine g_block ?_ | refine g_label ?_)
    refine g_region ?_
    refine rl_v rfl rfl rfl (S := fun _ => True) trivial (v_move rfl) ?_
    refine rl_v rfl rfl rfl (S := fun _ => True) trivial (v_assign rfl) ?_
    refine rl_nil (g_le (Fr.le_keep (Fr.le_skip rfl (Fr.le_refl _))) ?_)
    refine g_ret1 Try.func59 rfl rfl ?_
    exact ⟨_, rfl, hw⟩

end Go.Proofs.Ytdebodbkggbjeaa
