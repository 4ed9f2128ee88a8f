/-
  The cell's slots as a list; and the reference's cell.
-/
import Derived.Test.YtdebodbkggbjeaaC13
namespace Go.Proofs.Ytdebodbkggbjeaa
set_option linter.unusedSimpArgs false
set_option linter.unusedVariables false
open Go Xe

theorem Cs.upto_len (s : Cs) (k : Int) (h : k ≤ 2) : ((s.upto k).length : Int) ≤ k ∨ k < 0 := by
  unfold Cs.upto
  split <;> split <;> simp <;> omega

/-- Slots of a cell: k of them were looked at. -/
theorem slots_calls {E : Env} {w : World} {L : List As} (c p : Nat) (s : Cs) (hw : Sat E w (CellAt c p s :: L)) :
    Calls Try.prog 37 #[.pointer (some ⟨c, 0, none⟩)] w fun e w' => ∃ v, e = .returned v ∧ Sat E w' (IntsAt v (s.upto 2) :: CellAt c p s :: L) := by
  obtain ⟨a, b, n⟩ := s
  refine calls_of_g (n := 22) Try.func37 rfl rfl rfl ?_
  change G _ _ _ _ _ [(0, _)] _
  repeat (first | refine g_seq ?_ | refine g_skip ?_ | refine g_inBlock ?_ | refine g_block ?_ | refine g_label ?_)
  refine g_region ?_
  refine rl_v rfl rfl rfl (S := fun _ => True) trivial (v_assign rfl) ?_
  refine rl_nil (g_le (Fr.le_keep (Fr.le_refl _)) ?_)
  repeat (first | refine g_seq ?_ | refine g_skip ?_ | refine g_inBlock ?_ | refine g_block ?_ | refine g_label ?_)
  refine g_region ?_
  refine rl_v rfl rfl rfl (S := fun _ => True) trivial (v_assign rfl) ?_
  refine rl_nil (g_le (Fr.le_keep (Fr.le_refl _)) ?_)
  repeat (first | refine g_seq ?_ | refine g_skip ?_ | refine g_inBlock ?_ | refine g_block ?_ | refine g_label ?_)
  refine g_region ?_
  refine rl_v rfl rfl rfl (S := fun _ => True) trivial (v_move rfl) ?_
  refine rl_v rfl rfl rfl (S := fun _ => True) trivial (v_nilCheck rfl) ?_
  first | (refine rl_v rfl rfl rfl (S := fun _ => True) trivial (v_fieldAddr0 T.fld_72_1_1 rfl) ?_) | (refine rl_v rfl rfl rfl (S := fun _ => True) trivial (v_fieldAddr T.fld_72_1_1 rfl) ?_)
  refine rl_v rfl rfl rfl (by first | exact sat_cells hw (by (repeat (first | with_reducible exact Pick.here _ | apply Pick.there)); first | done | fail) ⟨rfl, rfl, trivial⟩ | exact old_cells hw (by (repeat (first | with_reducible exact Pick.here _ | apply Pick.there)); first | done | fail) (by assumption)) (v_loadAgg (vs := [_, _]) T.agg_70_2 rfl rfl) ?_
  refine rl_v rfl rfl rfl (S := fun _ => True) trivial (v_move rfl) ?_
  refine rl_nil (g_le (Fr.le_keep (Fr.le_keep (Fr.le_skip rfl (Fr.le_skip rfl (Fr.le_skip rfl (Fr.le_refl _)))))) ?_)
  repeat (first | refine g_seq ?_ | refine g_skip ?_ | refine g_inBlock ?_ | refine g_block ?_ | refine g_label ?_)
  refine g_loop (σ := Int × Value) (fun x => [(10, .int .i64 x.1), (3, x.2), (0, _), (9, _)])
    (fun x w => 0 ≤ x.1 ∧ x.1 ≤ 2 ∧ Sat E w (IntsAt x.2 (Cs.upto ⟨a, b, n⟩ x.1) :: CellAt c p ⟨a, b, n⟩ :: L)) (fun x => (2 - x.1).toNat) ?round
    (0, .slice none 0 0) (by repeat (first | exact Fr.le_nil _ | refine Fr.le_cons rfl ?_)) ⟨by simp, by simp, by simpa [Cs.upto, IntsAt] using hw.own_nil 3 1⟩
  rintro ⟨k, v⟩ w ⟨hk0, hk1, hw⟩ ih
  dsimp only at hk0 hk1 hw ⊢
  have hlen := Cs.upto_len ⟨a, b, n⟩ k hk1
  obtain rfl | rfl | rfl : k = 0 ∨ k = 1 ∨ k = 2 := by omega
  · repeat (first | refine g_seq ?_ | refine g_skip ?_ | refine g_inBlock ?_ | refine g_block ?_ | refine g_label ?_)
    refine g_region ?_
    first | (refine rl_v rfl rfl rfl (S := fun _ => True) trivial (v_lssT rfl rfl (by omega)) ?_) | (refine rl_v rfl rfl rfl (S := fun _ => True) trivial (v_lssF rfl rfl (by omega)) ?_) | (refine rl_v rfl rfl rfl (S := fun _ => True) trivial (v_lss rfl rfl) ?_)
    refine rl_nil (g_le (Fr.le_keep (Fr.le_refl _)) ?_)
    repeat (first | refine g_seq ?_ | refine g_skip ?_ | refine g_inBlock ?_ | refine g_block ?_ | refine g_label ?_)
    refine g_cond_true rfl ?_
    repeat (first | refine g_seq ?_ | refine g_skip ?_ | refine g_inBlock ?_ | refine g_block ?_ | refine g_label ?_)
    refine g_region ?_
    refine rl_v rfl rfl rfl (S := fun _ => True) trivial (v_move rfl) ?_
    refine rl_v rfl rfl rfl (S := fun _ => True) trivial (v_indexArr T.arr_70_2_9_1 T.scal_9 rfl rfl (by omega) (by omega) rfl) ?_
    refine rl_v rfl rfl rfl (S := fun _ => True) trivial (v_assign rfl) ?_
    refine rl_v rfl rfl rfl (S := fun _ => True) trivial (v_assign rfl) ?_
    refine rl_nil (g_le (Fr.le_keep (Fr.le_keep (Fr.le_skip rfl (Fr.le_skip rfl (Fr.le_refl _))))) ?_)
    repeat (first | refine g_seq ?_ | refine g_skip ?_ | refine g_inBlock ?_ | refine g_block ?_ | refine g_label ?_)
    refine g_region ?_
    refine rl_v rfl rfl rfl (S := fun _ => True) trivial (v_move rfl) ?_
    first | (refine rl_v rfl rfl rfl (S := fun _ => True) trivial (v_neqStrF rfl rfl (by first | rfl | assumption)) ?_) | (refine rl_v rfl rfl rfl (S := fun _ => True) trivial (v_neqStrT rfl rfl (by first | assumption | decide)) ?_) | (refine rl_v rfl rfl rfl (S := fun _ => True) trivial (v_neqStr rfl rfl) ?_)
    refine rl_nil (g_le (Fr.le_keep (Fr.le_skip rfl (Fr.le_refl _))) ?_)
    repeat (first | refine g_seq ?_ | refine g_skip ?_ | refine g_inBlock ?_ | refine g_block ?_ | refine g_label ?_)
    refine g_cond_dec rfl (fun h2 => ?_) (fun h2 => ?_)
    · repeat (first | refine g_seq ?_ | refine g_skip ?_ | refine g_inBlock ?_ | refine g_block ?_ | refine g_label ?_)
      refine g_region ?_
      refine rl_v rfl rfl rfl (S := fun _ => True) trivial (v_move rfl) ?_
      refine rl_v rfl rfl rfl (S := fun _ => True) trivial (v_move rfl) ?_
      refine rl_k rfl (k_buildSlice (cells := [_]) hw T.sl_74_3_1 T.zero_3 rfl rfl rfl rfl rfl rfl (fun blk w hw => ?_))
      refine rl_k rfl (k_append (news := [_]) hw T.sl_74_3_1 T.zero_3 T.bytes_3_8 rfl (by decide) rfl rfl (by (repeat (first | with_reducible exact Pick.here _ | apply Pick.there)); first | done | fail) rfl (by first | exact sat_cells hw (by (repeat (first | with_reducible exact Pick.here _ | apply Pick.there)); first | done | fail) ⟨rfl, trivial⟩ | exact old_cells hw (by (repeat (first | with_reducible exact Pick.here _ | apply Pick.there)); first | done | fail) (by assumption)) (by simp [Value.oneCell']) (by omega) (by simp only [maxLen]; omega) rfl (fun vv w hw hnil => ?_))
      refine rl_v rfl rfl rfl (S := fun _ => True) trivial (v_assign rfl) ?_
      refine rl_nil (g_le (Fr.le_keep (Fr.le_skip rfl (Fr.le_skip rfl (Fr.le_skip rfl (Fr.le_skip rfl (Fr.le_refl _)))))) ?_)
      repeat (first | refine g_seq ?_ | refine g_skip ?_ | refine g_inBlock ?_ | refine g_block ?_ | refine g_label ?_)
      refine g_region ?_
      first | (refine rl_v rfl rfl rfl (S := fun _ => True) trivial (v_add rfl rfl (by omega)) ?_) | (refine rl_v rfl rfl rfl (S := fun _ => True) trivial (v_addW rfl rfl) ?_)
      refine rl_v rfl rfl rfl (S := fun _ => True) trivial (v_move rfl) ?_
      refine rl_nil (g_le (Fr.le_keep (Fr.le_skip rfl (Fr.le_refl _))) ?_)
      exact g_le (by repeat (first | exact Fr.le_nil _ | refine Fr.le_cons rfl ?_)) (ih (0 + 1, vv) w ⟨by simp only; omega, by simp only; omega, by
        have e : Cs.upto ⟨a, b, n⟩ (0 + 1) = Cs.upto ⟨a, b, n⟩ 0 ++ [0] := by
          simp only [Cs.upto]
          simp [h2]
        simp only
        rw [e]
        simp only [IntsAt, List.length_append, List.map_append, List.length_cons, List.length_nil, List.map_cons, List.map_nil]
        exact hw.sub (by (repeat (first | with_reducible exact Sub.refl _ | exact Sub.nil _ | (apply Sub.cons; focus ((repeat (first | with_reducible exact Pick.here _ | apply Pick.there)); (first | done | fail))) | with_reducible apply Sub.drop)); first | done | fail)⟩ (by simp only; omega))
    · repeat (first | refine g_seq ?_ | refine g_skip ?_ | refine g_inBlock ?_ | refine g_block ?_ | refine g_label ?_)
      refine g_region ?_
      first | (refine rl_v rfl rfl rfl (S := fun _ => True) trivial (v_add rfl rfl (by omega)) ?_) | (refine rl_v rfl rfl rfl (S := fun _ => True) trivial (v_addW rfl rfl) ?_)
      refine rl_v rfl rfl rfl (S := fun _ => True) trivial (v_move rfl) ?_
      refine rl_nil (g_le (Fr.le_keep (Fr.le_skip rfl (Fr.le_refl _))) ?_)
      exact g_le (by repeat (first | exact Fr.le_nil _ | refine Fr.le_cons rfl ?_)) (ih (0 + 1, v) w ⟨by simp only; omega, by simp only; omega, by
        have e : Cs.upto ⟨a, b, n⟩ (0 + 1) = Cs.upto ⟨a, b, n⟩ 0 := by
          simp only [Cs.upto]
          simp [ne_nil h2]
        simp only
        rw [e]
        exact hw.sub (by (repeat (first | with_reducible exact Sub.refl _ | exact Sub.nil _ | (apply Sub.cons; focus ((repeat (first | with_reducible exact Pick.here _ | apply Pick.there)); (first | done | fail))) | with_reducible apply Sub.drop)); first | done | fail)⟩ (by simp only; omega))
  · repeat (first | refine g_seq ?_ | refine g_skip ?_ | refine g_inBlock ?_ | refine g_block ?_ | refine g_label ?_)
    refine g_region ?_
    first | (refine rl_v rfl rfl rfl (S := fun _ => True) trivial (v_lssT rfl rfl (by omega)) ?_) | (refine rl_v rfl rfl rfl (S := fun _ => True) trivial (v_lssF rfl rfl (by omega)) ?_) | (refine rl_v rfl rfl rfl (S := fun _ => True) trivial (v_lss rfl rfl) ?_)
    refine rl_nil (g_le (Fr.le_keep (Fr.le_refl _)) ?_)
    repeat (first | refine g_seq ?_ | refine g_skip ?_ | refine g_inBlock ?_ | refine g_block ?_ | refine g_label ?_)
    refine g_cond_true rfl ?_
    repeat (first | refine g_seq ?_ | refine g_skip ?_ | refine g_inBlock ?_ | refine g_block ?_ | refine g_label ?_)
    refine g_region ?_
    refine rl_v rfl rfl rfl (S := fun _ => True) trivial (v_move rfl) ?_
    refine rl_v rfl rfl rfl (S := fun _ => True) trivial (v_indexArr T.arr_70_2_9_1 T.scal_9 rfl rfl (by omega) (by omega) rfl) ?_
    refine rl_v rfl rfl rfl (S := fun _ => True) trivial (v_assign rfl) ?_
    refine rl_v rfl rfl rfl (S := fun _ => True) trivial (v_assign rfl) ?_
    refine rl_nil (g_le (Fr.le_keep (Fr.le_keep (Fr.le_skip rfl (Fr.le_skip rfl (Fr.le_refl _))))) ?_)
    repeat (first | refine g_seq ?_ | refine g_skip ?_ | refine g_inBlock ?_ | refine g_block ?_ | refine g_label ?_)
    refine g_region ?_
    refine rl_v rfl rfl rfl (S := fun _ => True) trivial (v_move rfl) ?_
    first | (refine rl_v rfl rfl rfl (S := fun _ => True) trivial (v_neqStrF rfl rfl (by first | rfl | assumption)) ?_) | (refine rl_v rfl rfl rfl (S := fun _ => True) trivial (v_neqStrT rfl rfl (by first | assumption | decide)) ?_) | (refine rl_v rfl rfl rfl (S := fun _ => True) trivial (v_neqStr rfl rfl) ?_)
    refine rl_nil (g_le (Fr.le_keep (Fr.le_skip rfl (Fr.le_refl _))) ?_)
    repeat (first | refine g_seq ?_ | refine g_skip ?_ | refine g_inBlock ?_ | refine g_block ?_ | refine g_label ?_)
    refine g_cond_dec rfl (fun h2 => ?_) (fun h2 => ?_)
    · repeat (first | refine g_seq ?_ | refine g_skip ?_ | refine g_inBlock ?_ | refine g_block ?_ | refine g_label ?_)
      refine g_region ?_
      refine rl_v rfl rfl rfl (S := fun _ => True) trivial (v_move rfl) ?_
      refine rl_v rfl rfl rfl (S := fun _ => True) trivial (v_move rfl) ?_
      refine rl_k rfl (k_buildSlice (cells := [_]) hw T.sl_74_3_1 T.zero_3 rfl rfl rfl rfl rfl rfl (fun blk w hw => ?_))
      refine rl_k rfl (k_append (news := [_]) hw T.sl_74_3_1 T.zero_3 T.bytes_3_8 rfl (by decide) rfl rfl (by (repeat (first | with_reducible exact Pick.here _ | apply Pick.there)); first | done | fail) rfl (by first | exact sat_cells hw (by (repeat (first | with_reducible exact Pick.here _ | apply Pick.there)); first | done | fail) ⟨rfl, trivial⟩ | exact old_cells hw (by (repeat (first | with_reducible exact Pick.here _ | apply Pick.there)); first | done | fail) (by assumption)) (by simp [Value.oneCell']) (by omega) (by simp only [maxLen]; omega) rfl (fun vv w hw hnil => ?_))
      refine rl_v rfl rfl rfl (S := fun _ => True) trivial (v_assign rfl) ?_
      refine rl_nil (g_le (Fr.le_keep (Fr.le_skip rfl (Fr.le_skip rfl (Fr.le_skip rfl (Fr.le_skip rfl (Fr.le_refl _)))))) ?_)
      repeat (first | refine g_seq ?_ | refine g_skip ?_ | refine g_inBlock ?_ | refine g_block ?_ | refine g_label ?_)
      refine g_region ?_
      first | (refine rl_v rfl rfl rfl (S := fun _ => True) trivial (v_add rfl rfl (by omega)) ?_) | (refine rl_v rfl rfl rfl (S := fun _ => True) trivial (v_addW rfl rfl) ?_)
      refine rl_v rfl rfl rfl (S := fun _ => True) trivial (v_move rfl) ?_
      refine rl_nil (g_le (Fr.le_keep (Fr.le_skip rfl (Fr.le_refl _))) ?_)
      exact g_le (by repeat (first | exact Fr.le_nil _ | refine Fr.le_cons rfl ?_)) (ih (1 + 1, vv) w ⟨by simp only; omega, by simp only; omega, by
        have e : Cs.upto ⟨a, b, n⟩ (1 + 1) = Cs.upto ⟨a, b, n⟩ 1 ++ [1] := by
          simp only [Cs.upto]
          simp [h2]
        simp only
        rw [e]
        simp only [IntsAt, List.length_append, List.map_append, List.length_cons, List.length_nil, List.map_cons, List.map_nil]
        exact hw.sub (by (repeat (first | with_reducible exact Sub.refl _ | exact Sub.nil _ | (apply Sub.cons; focus ((repeat (first | with_reducible exact Pick.here _ | apply Pick.there)); (first | done | fail))) | with_reducible apply Sub.drop)); first | done | fail)⟩ (by simp only; omega))
    · repeat (first | refine g_seq ?_ | refine g_skip ?_ | refine g_inBlock ?_ | refine g_block ?_ | refine g_label ?_)
      refine g_region ?_
      first | (refine rl_v rfl rfl rfl (S := fun _ => True) trivial (v_add rfl rfl (by omega)) ?_) | (refine rl_v rfl rfl rfl (S := fun _ => True) trivial (v_addW rfl rfl) ?_)
      refine rl_v rfl rfl rfl (S := fun _ => True) trivial (v_move rfl) ?_
      refine rl_nil (g_le (Fr.le_keep (Fr.le_skip rfl (Fr.le_refl _))) ?_)
      exact g_le (by repeat (first | exact Fr.le_nil _ | refine Fr.le_cons rfl ?_)) (ih (1 + 1, v) w ⟨by simp only; omega, by simp only; omega, by
        have e : Cs.upto ⟨a, b, n⟩ (1 + 1) = Cs.upto ⟨a, b, n⟩ 1 := by
          simp only [Cs.upto]
          simp [ne_nil h2]
        simp only
        rw [e]
        exact hw.sub (by (repeat (first | with_reducible exact Sub.refl _ | exact Sub.nil _ | (apply Sub.cons; focus ((repeat (first | with_reducible exact Pick.here _ | apply Pick.there)); (first | done | fail))) | with_reducible apply Sub.drop)); first | done | fail)⟩ (by simp only; omega))
  · repeat (first | refine g_seq ?_ | refine g_skip ?_ | refine g_inBlock ?_ | refine g_block ?_ | refine g_label ?_)
    refine g_region ?_
    first | (refine rl_v rfl rfl rfl (S := fun _ => True) trivial (v_lssT rfl rfl (by omega)) ?_) | (refine rl_v rfl rfl rfl (S := fun _ => True) trivial (v_lssF rfl rfl (by omega)) ?_) | (refine rl_v rfl rfl rfl (S := fun _ => True) trivial (v_lss rfl rfl) ?_)
    refine rl_nil (g_le (Fr.le_keep (Fr.le_refl _)) ?_)
    repeat (first | refine g_seq ?_ | refine g_skip ?_ | refine g_inBlock ?_ | refine g_block ?_ | refine g_label ?_)
    refine g_cond_false rfl ?_
    repeat (first | refine g_seq ?_ | refine g_skip ?_ | refine g_inBlock ?_ | refine g_block ?_ | refine g_label ?_)
    refine g_exit rfl ?_
    repeat (first | refine g_seq ?_ | refine g_skip ?_ | refine g_inBlock ?_ | refine g_block ?_ | refine g_label ?_)
    refine g_region ?_
    refine rl_v rfl rfl rfl (S := fun _ => True) trivial (v_move rfl) ?_
    refine rl_v rfl rfl rfl (S := fun _ => True) trivial (v_assign rfl) ?_
    refine rl_nil (g_le (Fr.le_keep (Fr.le_skip rfl (Fr.le_refl _))) ?_)
    refine g_ret1 Try.func37 rfl rfl ?_
    exact ⟨_, rfl, hw⟩


/-- Two lists of the call's own, held against each other. -/
theorem sameInts_calls {E : Env} {w : World} {L : List As} (v u : Value) (xs : List Int) (hx : (xs.length : Int) ≤ 1000000) (hw : Sat E w (IntsAt v xs :: IntsAt u xs :: L)) :
    Calls Try.prog 40 #[v, u] w fun e w' => e = .returned (.bool true) ∧ Sat E w' (IntsAt v xs :: IntsAt u xs :: L) := by
  obtain ⟨a, c, rfl, _, _, ha⟩ := hw.own_shape
  obtain ⟨a', c', rfl, _, _, ha'⟩ := (hw.pick (.there (.here _))).own_shape
  refine calls_of_g (n := 26) Try.func40 rfl rfl rfl ?_
  change G _ _ _ _ _ [(0, _), (1, _)] _
  repeat (first | refine g_seq ?_ | refine g_skip ?_ | refine g_inBlock ?_ | refine g_block ?_ | refine g_label ?_)
  refine g_region ?_
  refine rl_v rfl rfl rfl (S := fun _ => True) trivial (v_assign rfl) ?_
  refine rl_nil (g_le (Fr.le_keep (Fr.le_refl _)) ?_)
  repeat (first | refine g_seq ?_ | refine g_skip ?_ | refine g_inBlock ?_ | refine g_block ?_ | refine g_label ?_)
  refine g_region ?_
  refine rl_v rfl rfl rfl (S := fun _ => True) trivial (v_move rfl) ?_
  refine rl_v rfl rfl rfl (S := fun _ => True) trivial (v_lenSlice T.sl_74_3_1 rfl) ?_
  refine rl_v rfl rfl rfl (S := fun _ => True) trivial (v_move rfl) ?_
  refine rl_v rfl rfl rfl (S := fun _ => True) trivial (v_lenSlice T.sl_74_3_1 rfl) ?_
  first | (refine rl_v rfl rfl rfl (S := fun _ => True) trivial (v_neqT rfl rfl (by omega)) ?_) | (refine rl_v rfl rfl rfl (S := fun _ => True) trivial (v_neqF rfl rfl (by first | omega | rfl)) ?_) | (refine rl_v rfl rfl rfl (S := fun _ => True) trivial (v_neq rfl rfl) ?_)
  refine rl_nil (g_le (Fr.le_keep (Fr.le_skip rfl (Fr.le_skip rfl (Fr.le_skip rfl (Fr.le_skip rfl (Fr.le_refl _)))))) ?_)
  repeat (first | refine g_seq ?_ | refine g_skip ?_ | refine g_inBlock ?_ | refine g_block ?_ | refine g_label ?_)
  refine g_cond_false rfl ?_
  repeat (first | refine g_seq ?_ | refine g_skip ?_ | refine g_inBlock ?_ | refine g_block ?_ | refine g_label ?_)
  refine g_region ?_
  refine rl_v rfl rfl rfl (S := fun _ => True) trivial (v_assign rfl) ?_
  refine rl_nil (g_le (Fr.le_keep (Fr.le_refl _)) ?_)
  repeat (first | refine g_seq ?_ | refine g_skip ?_ | refine g_inBlock ?_ | refine g_block ?_ | refine g_label ?_)
  refine g_loop (σ := Int) (fun x => [(5, .int .i64 x), (0, _), (1, _)])
    (fun x w => 0 ≤ x ∧ x ≤ xs.length ∧ Sat E w (IntsAt (.slice a xs.length c) xs :: IntsAt (.slice a' xs.length c') xs :: L)) (fun x => (xs.length - x).toNat) ?round
    0 (by repeat (first | exact Fr.le_nil _ | refine Fr.le_cons rfl ?_)) ⟨by simp, by simp, hw⟩
  intro i w ⟨hi0, hi1, hw⟩ ih
  repeat (first | refine g_seq ?_ | refine g_skip ?_ | refine g_inBlock ?_ | refine g_block ?_ | refine g_label ?_)
  refine g_region ?_
  refine rl_v rfl rfl rfl (S := fun _ => True) trivial (v_move rfl) ?_
  refine rl_v rfl rfl rfl (S := fun _ => True) trivial (v_move rfl) ?_
  refine rl_v rfl rfl rfl (S := fun _ => True) trivial (v_lenSlice T.sl_74_3_1 rfl) ?_
  first | (refine rl_v rfl rfl rfl (S := fun _ => True) trivial (v_lssT rfl rfl (by omega)) ?_) | (refine rl_v rfl rfl rfl (S := fun _ => True) trivial (v_lssF rfl rfl (by omega)) ?_) | (refine rl_v rfl rfl rfl (S := fun _ => True) trivial (v_lss rfl rfl) ?_)
  refine rl_nil (g_le (Fr.le_keep (Fr.le_skip rfl (Fr.le_skip rfl (Fr.le_skip rfl (Fr.le_refl _))))) ?_)
  repeat (first | refine g_seq ?_ | refine g_skip ?_ | refine g_inBlock ?_ | refine g_block ?_ | refine g_label ?_)
  refine g_cond_dec rfl (fun h => ?_) (fun h => ?_)
  · obtain ⟨g, rfl⟩ := ha (by omega)
    obtain ⟨g', rfl⟩ := ha' (by omega)
    have hi : i.toNat < xs.length := by omega
    have hu : (xs.map (Value.int .i64))[0 + i.toNat * 1]? = some (.int .i64 xs[i.toNat]) := by simp [hi]
    repeat (first | refine g_seq ?_ | refine g_skip ?_ | refine g_inBlock ?_ | refine g_block ?_ | refine g_label ?_)
    refine g_draw [] T.mixed rfl hw (fun w hw => ?_)
    refine ra_a 0 rfl rfl rfl rfl (by kernel_rfl) (v_move rfl) ?_
    refine ra_a 1 rfl rfl rfl rfl (by kernel_rfl) (v_move rfl) ?_
    refine ra_a 2 rfl rfl rfl rfl (by kernel_rfl) (v_indexAddr T.sl_74_3_1 rfl rfl (by omega) (by omega)) ?_
    refine ra_v 3 rfl rfl rfl rfl (by kernel_rfl) (OpV.mono (v_load T.scal_3 rfl) (fun w hw => by first | exact sat_cell hw (by (repeat (first | with_reducible exact Pick.here _ | apply Pick.there)); first | done | fail) rfl | exact own_cell hw (by (repeat (first | with_reducible exact Pick.here _ | apply Pick.there)); first | done | fail) (by first | rfl | assumption) | exact old_cell hw (by (repeat (first | with_reducible exact Pick.here _ | apply Pick.there)); first | done | fail) (by assumption) | assumption)) (by first | exact hw | exact Sat.sub hw (by (repeat (first | with_reducible exact Sub.refl _ | exact Sub.nil _ | (apply Sub.cons; focus ((repeat (first | with_reducible exact Pick.here _ | apply Pick.there)); (first | done | fail))) | with_reducible apply Sub.drop)); first | done | fail)) ?_
    refine ra_a 4 rfl rfl rfl rfl (by kernel_rfl) (v_move rfl) ?_
    refine ra_a 5 rfl rfl rfl rfl (by kernel_rfl) (v_move rfl) ?_
    refine ra_a 6 rfl rfl rfl rfl (by kernel_rfl) (v_indexAddr T.sl_74_3_1 rfl rfl (by omega) (by omega)) ?_
    refine ra_v 7 rfl rfl rfl rfl (by kernel_rfl) (OpV.mono (v_load T.scal_3 rfl) (fun w hw => by first | exact sat_cell hw (by (repeat (first | with_reducible exact Pick.here _ | apply Pick.there)); first | done | fail) rfl | exact own_cell hw (by (repeat (first | with_reducible exact Pick.here _ | apply Pick.there)); first | done | fail) (by first | rfl | assumption) | exact old_cell hw (by (repeat (first | with_reducible exact Pick.here _ | apply Pick.there)); first | done | fail) (by assumption) | assumption)) (by first | exact hw | exact Sat.sub hw (by (repeat (first | with_reducible exact Sub.refl _ | exact Sub.nil _ | (apply Sub.cons; focus ((repeat (first | with_reducible exact Pick.here _ | apply Pick.there)); (first | done | fail))) | with_reducible apply Sub.drop)); first | done | fail)) ?_
    first | (refine ra_a 8 rfl rfl rfl rfl (by kernel_rfl) (v_neqT rfl rfl (by omega)) ?_) | (refine ra_a 8 rfl rfl rfl rfl (by kernel_rfl) (v_neqF rfl rfl (by first | omega | rfl)) ?_) | (refine ra_a 8 rfl rfl rfl rfl (by kernel_rfl) (v_neq rfl rfl) ?_)
    refine ra_done (by kernel_rfl) (g_le (Fr.le_keep (Fr.le_skip rfl (Fr.le_skip rfl (Fr.le_skip rfl (Fr.le_skip rfl (Fr.le_skip rfl (Fr.le_skip rfl (Fr.le_skip rfl (Fr.le_skip rfl (Fr.le_refl _)))))))))) ?_)
    repeat (first | refine g_seq ?_ | refine g_skip ?_ | refine g_inBlock ?_ | refine g_block ?_ | refine g_label ?_)
    refine g_cond_false rfl ?_
    repeat (first | refine g_seq ?_ | refine g_skip ?_ | refine g_inBlock ?_ | refine g_block ?_ | refine g_label ?_)
    refine g_region ?_
    refine rl_v rfl rfl rfl (S := fun _ => True) trivial (v_move rfl) ?_
    first | (refine rl_v rfl rfl rfl (S := fun _ => True) trivial (v_add rfl rfl (by omega)) ?_) | (refine rl_v rfl rfl rfl (S := fun _ => True) trivial (v_addW rfl rfl) ?_)
    refine rl_v rfl rfl rfl (S := fun _ => True) trivial (v_assign rfl) ?_
    refine rl_nil (g_le (Fr.le_keep (Fr.le_skip rfl (Fr.le_skip rfl (Fr.le_refl _)))) ?_)
    exact g_le (by repeat (first | exact Fr.le_nil _ | refine Fr.le_cons rfl ?_)) (ih (i + 1) w ⟨by omega, by omega, hw⟩ (by omega))
  · repeat (first | refine g_seq ?_ | refine g_skip ?_ | refine g_inBlock ?_ | refine g_block ?_ | refine g_label ?_)
    refine g_exit rfl ?_
    repeat (first | refine g_seq ?_ | refine g_skip ?_ | refine g_inBlock ?_ | refine g_block ?_ | refine g_label ?_)
    refine g_region ?_
    refine rl_v rfl rfl rfl (S := fun _ => True) trivial (v_assign rfl) ?_
    refine rl_nil (g_le (Fr.le_keep (Fr.le_refl _)) ?_)
    refine g_ret1 Try.func40 rfl rfl ?_
    exact ⟨rfl, hw⟩

end Go.Proofs.Ytdebodbkggbjeaa
