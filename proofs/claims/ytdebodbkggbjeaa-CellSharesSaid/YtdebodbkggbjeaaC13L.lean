/-
  The functions of the statements of layer 13.
-/
import Derived.Test.YtdebodbkggbjeaaC13r
import Derived.Test.YtdebodbkggbjeaaP11L
namespace Go.Proofs.Ytdebodbkggbjeaa
set_option linter.unusedSimpArgs false
set_option linter.unusedVariables false
open Go Xe


theorem tells_calls {E : Env} {w : World} {L : List As} (c d p q : Nat) (s : Cs) (pw : Pw) (hw : Sat E w (CellAt c p s :: RcAt d q s :: PwAt p pw :: RwAt q pw.ref :: L)) :
    Calls Try.prog 41 #[.pointer (some ⟨c, 0, none⟩), .pointer (some ⟨d, 0, none⟩)] w
      fun e w' => e = .returned (.bool true) ∧ Sat E w' (CellAt c p s :: RcAt d q s :: PwAt p pw :: RwAt q pw.ref :: L) := by
  obtain ⟨sa, sb, sn⟩ := s
  obtain ⟨off, ahead, writes⟩ := pw
  have hul : (((Cs.upto ⟨sa, sb, sn⟩ 2).length : Nat) : Int) ≤ 1000000 := by have := Cs.upto_len ⟨sa, sb, sn⟩ 2 (by omega); omega
  generalize hxs : Cs.upto ⟨sa, sb, sn⟩ 2 = xs at hul
  refine calls_of_g (n := 83) Try.func41 rfl rfl rfl ?_
  change G _ _ _ _ _ [(0, _), (1, _)] _
  repeat (first | refine g_seq ?_ | refine g_skip ?_ | refine g_inBlock ?_ | refine g_block ?_ | refine g_label ?_)
  refine g_region ?_
  refine rl_v rfl rfl rfl (S := fun _ => True) trivial (v_assign rfl) ?_
  refine rl_nil (g_le (Fr.le_keep (Fr.le_refl _)) ?_)
  repeat (first | refine g_seq ?_ | refine g_skip ?_ | refine g_inBlock ?_ | refine g_block ?_ | refine g_label ?_)
  refine g_region ?_
  refine rl_v rfl rfl rfl (S := fun _ => True) trivial (v_move rfl) ?_
  refine rl_k rfl (k_callf Try.func37 rfl rfl rfl rfl ?_)
  refine Calls.mono (slots_calls c p _ (hw.pick (by (repeat (first | with_reducible exact Pick.here _ | apply Pick.there)); first | done | fail))) ?_
  rintro _ w ⟨v, rfl, hw⟩
  refine ⟨_, rfl, ?_⟩
  refine rl_v rfl rfl rfl (S := fun _ => True) trivial (v_assign rfl) ?_
  refine rl_nil (g_le (Fr.le_keep (Fr.le_skip rfl (Fr.le_skip rfl (Fr.le_refl _)))) ?_)
  rw [hxs] at hw
  repeat (first | refine g_seq ?_ | refine g_skip ?_ | refine g_inBlock ?_ | refine g_block ?_ | refine g_label ?_)
  refine g_region ?_
  refine rl_v rfl rfl rfl (S := fun _ => True) trivial (v_move rfl) ?_
  refine rl_v rfl rfl rfl (S := fun _ => True) trivial (v_move rfl) ?_
  refine rl_k rfl (k_callf Try.func59 rfl rfl rfl rfl ?_)
  refine Calls.mono (rslots_calls d q _ (hw.pick (by (repeat (first | with_reducible exact Pick.here _ | apply Pick.there)); first | done | fail))) ?_
  rintro _ w ⟨u, rfl, hw⟩
  rw [hxs] at hw
  refine ⟨_, rfl, ?_⟩
  refine rl_k rfl (k_callf Try.func40 rfl rfl rfl rfl ?_)
  refine Calls.mono (sameInts_calls v u _ hul (hw.sub (by (repeat (first | with_reducible exact Sub.refl _ | exact Sub.nil _ | (apply Sub.cons; focus ((repeat (first | with_reducible exact Pick.here _ | apply Pick.there)); (first | done | fail))) | with_reducible apply Sub.drop)); first | done | fail))) ?_
  rintro _ w ⟨rfl, hw⟩
  refine ⟨_, rfl, ?_⟩
  refine rl_v rfl rfl rfl (S := fun _ => True) trivial (v_assign rfl) ?_
  refine rl_nil (g_le (Fr.le_keep (Fr.le_skip rfl (Fr.le_skip rfl (Fr.le_skip rfl (Fr.le_skip rfl (Fr.le_refl _)))))) ?_)
  repeat (first | refine g_seq ?_ | refine g_skip ?_ | refine g_inBlock ?_ | refine g_block ?_ | refine g_label ?_)
  refine g_region ?_
  refine rl_v rfl rfl rfl (S := fun _ => True) trivial (v_assign rfl) ?_
  refine rl_nil (g_le (Fr.le_keep (Fr.le_refl _)) ?_)
  repeat (first | refine g_seq ?_ | refine g_skip ?_ | refine g_inBlock ?_ | refine g_block ?_ | refine g_label ?_)
  obtain ⟨a, k, rfl, _, _, ha⟩ := hw.own_shape
  refine g_loop (σ := Int × List Value) (fun x => [(7, .int .i64 x.1), (0, _), (1, _), (5, _), (6, _)])
    (fun x w => 0 ≤ x.1 ∧ x.1 ≤ xs.length ∧ x.2.length = xs.length ∧ Sat E w (OwnSl 3 1 (.slice a xs.length k) xs.length x.2 :: CellAt c p ⟨sa, sb, sn⟩ :: RcAt d q ⟨sa, sb, sn⟩ :: PwAt p ⟨off, ahead, writes⟩ :: RwAt q (Pw.ref ⟨off, ahead, writes⟩) :: L))
    (fun x => (xs.length - x.1).toNat) ?round (0, xs.map (Value.int .i64)) (by repeat (first | exact Fr.le_nil _ | refine Fr.le_cons rfl ?_)) ⟨by simp, by simp, by simp, hw.sub (by (repeat (first | with_reducible exact Sub.refl _ | exact Sub.nil _ | (apply Sub.cons; focus ((repeat (first | with_reducible exact Pick.here _ | apply Pick.there)); (first | done | fail))) | with_reducible apply Sub.drop)); first | done | fail)⟩
  rintro ⟨i, cs⟩ w ⟨hi0, hi1, hcs, hw⟩ ih
  dsimp only at hi0 hi1 hcs hw ⊢
  repeat (first | refine g_seq ?_ | refine g_skip ?_ | refine g_inBlock ?_ | refine g_block ?_ | refine g_label ?_)
  refine g_region ?_
  refine rl_v rfl rfl rfl (S := fun _ => True) trivial (v_move rfl) ?_
  refine rl_v rfl rfl rfl (S := fun _ => True) trivial (v_move rfl) ?_
  refine rl_v rfl rfl rfl (S := fun _ => True) trivial (v_lenSlice T.sl_74_3_1 rfl) ?_
  first | (refine rl_v rfl rfl rfl (S := fun _ => True) trivial (v_lssT rfl rfl (by omega)) ?_) | (refine rl_v rfl rfl rfl (S := fun _ => True) trivial (v_lssF rfl rfl (by omega)) ?_) | (refine rl_v rfl rfl rfl (S := fun _ => True) trivial (v_lss rfl rfl) ?_)
  refine rl_nil (g_le (Fr.le_keep (Fr.le_skip rfl (Fr.le_skip rfl (Fr.le_skip rfl (Fr.le_refl _))))) ?_)
  repeat (first | refine g_seq ?_ | refine g_skip ?_ | refine g_inBlock ?_ | refine g_block ?_ | refine g_label ?_)
  refine g_cond_dec rfl (fun h => ?_) (fun h => ?_)
  · obtain ⟨g, rfl⟩ := ha (by omega)
    have hj : 0 + i.toNat * 1 < cs.length := by omega
    repeat (first | refine g_seq ?_ | refine g_skip ?_ | refine g_inBlock ?_ | refine g_block ?_ | refine g_label ?_)
    refine g_region ?_
    refine rl_v rfl rfl rfl (S := fun _ => True) trivial (v_move rfl) ?_
    refine rl_v rfl rfl rfl (S := fun _ => True) trivial (v_move rfl) ?_
    refine rl_v rfl rfl rfl (S := fun _ => True) trivial (v_indexAddr T.sl_74_3_1 rfl rfl (by omega) (by omega)) ?_
    first | (refine rl_k rfl (k_storeOwn hw T.scal_3 rfl rfl rfl (by (repeat (first | with_reducible exact Pick.here _ | apply Pick.there)); first | done | fail) (by assumption) (fun w hw => ?_))) | (refine rl_k rfl (k_store hw T.scal_3 rfl rfl rfl (by (repeat (first | with_reducible exact Pick.here _ | apply Pick.there)); first | done | fail) rfl (by first | (simp only [List.set, Int.reduceToNat, Nat.reduceMul, Nat.reduceAdd]; rfl) | rfl) (fun w hw => ?_)))
    refine rl_nil (g_le (Fr.le_skip rfl (Fr.le_skip rfl (Fr.le_skip rfl (Fr.le_refl _)))) ?_)
    repeat (first | refine g_seq ?_ | refine g_skip ?_ | refine g_inBlock ?_ | refine g_block ?_ | refine g_label ?_)
    refine g_region ?_
    refine rl_v rfl rfl rfl (S := fun _ => True) trivial (v_move rfl) ?_
    first | (refine rl_v rfl rfl rfl (S := fun _ => True) trivial (v_add rfl rfl (by omega)) ?_) | (refine rl_v rfl rfl rfl (S := fun _ => True) trivial (v_addW rfl rfl) ?_)
    refine rl_v rfl rfl rfl (S := fun _ => True) trivial (v_assign rfl) ?_
    refine rl_nil (g_le (Fr.le_keep (Fr.le_skip rfl (Fr.le_skip rfl (Fr.le_refl _)))) ?_)
    exact g_le (by repeat (first | exact Fr.le_nil _ | refine Fr.le_cons rfl ?_)) (ih (i + 1, cs.set (0 + i.toNat * 1) (.int .i64 (-1))) w ⟨by simp only; omega, by simp only; omega, by simp [hcs], hw⟩ (by simp only; omega))
  · repeat (first | refine g_seq ?_ | refine g_skip ?_ | refine g_inBlock ?_ | refine g_block ?_ | refine g_label ?_)
    refine g_exit rfl ?_
    repeat (first | refine g_seq ?_ | refine g_skip ?_ | refine g_inBlock ?_ | refine g_block ?_ | refine g_label ?_)
    refine g_draw [] T.mixed rfl hw (fun w hw => ?_)
    refine ra_a 0 rfl rfl rfl rfl (by kernel_rfl) (v_move rfl) ?_
    refine ra_a 1 rfl rfl rfl rfl (by kernel_rfl) (v_move rfl) ?_
    first | (refine ra_ag 2 rfl (met_on rfl rfl rfl rfl) rfl rfl (by kernel_rfl) (v_move rfl) ?_) | (refine ra_aoff 2 rfl (by first | exact met_off rfl rfl rfl rfl rfl | exact met_gone rfl rfl rfl rfl) rfl rfl (by kernel_rfl) ?_)
    first | (refine ra_ag 4 rfl (met_on rfl rfl rfl rfl) rfl rfl (by kernel_rfl) (v_move rfl) ?_) | (refine ra_aoff 4 rfl (by first | exact met_off rfl rfl rfl rfl rfl | exact met_gone rfl rfl rfl rfl) rfl rfl (by kernel_rfl) ?_)
    first | (refine ra_kg 3 rfl (met_on rfl rfl rfl rfl) (by kernel_rfl) (k_callf Try.func37 rfl rfl rfl rfl ?_); refine Calls.mono (slots_calls c p _ (hw.pick (by (repeat (first | with_reducible exact Pick.here _ | apply Pick.there)); first | done | fail))) ?_; rintro _ w ⟨v, rfl, hw⟩; rw [hxs] at hw; refine ⟨_, rfl, ?_⟩; refine ⟨fun _ => (by first | exact hw | exact Sat.sub hw (by (repeat (first | with_reducible exact Sub.refl _ | exact Sub.nil _ | (apply Sub.cons; focus ((repeat (first | with_reducible exact Pick.here _ | apply Pick.there)); (first | done | fail))) | with_reducible apply Sub.drop)); first | done | fail)), ?_⟩) | (refine ra_offk 3 rfl (by first | exact met_off rfl rfl rfl rfl rfl | exact met_gone rfl rfl rfl rfl) rfl rfl (by kernel_rfl) (by first | exact hw | exact Sat.sub hw (by (repeat (first | with_reducible exact Sub.refl _ | exact Sub.nil _ | (apply Sub.cons; focus ((repeat (first | with_reducible exact Pick.here _ | apply Pick.there)); (first | done | fail))) | with_reducible apply Sub.drop)); first | done | fail)) ?_)
    first | (refine ra_kg 5 rfl (met_on rfl rfl rfl rfl) (by kernel_rfl) (k_callf Try.func59 rfl rfl rfl rfl ?_); refine Calls.mono (rslots_calls d q _ (hw.pick (by (repeat (first | with_reducible exact Pick.here _ | apply Pick.there)); first | done | fail))) ?_; rintro _ w ⟨u, rfl, hw⟩; rw [hxs] at hw; refine ⟨_, rfl, ?_⟩; refine ⟨fun _ => (by first | exact hw | exact Sat.sub hw (by (repeat (first | with_reducible exact Sub.refl _ | exact Sub.nil _ | (apply Sub.cons; focus ((repeat (first | with_reducible exact Pick.here _ | apply Pick.there)); (first | done | fail))) | with_reducible apply Sub.drop)); first | done | fail)), ?_⟩) | (refine ra_offk 5 rfl (by first | exact met_off rfl rfl rfl rfl rfl | exact met_gone rfl rfl rfl rfl) rfl rfl (by kernel_rfl) (by first | exact hw | exact Sat.sub hw (by (repeat (first | with_reducible exact Sub.refl _ | exact Sub.nil _ | (apply Sub.cons; focus ((repeat (first | with_reducible exact Pick.here _ | apply Pick.there)); (first | done | fail))) | with_reducible apply Sub.drop)); first | done | fail)) ?_)
    first | (refine ra_kg 6 rfl (met_on rfl rfl rfl rfl) (by kernel_rfl) (k_callf Try.func40 rfl rfl rfl rfl ?_); refine Calls.mono (sameInts_calls v u _ hul (hw.sub (by (repeat (first | with_reducible exact Sub.refl _ | exact Sub.nil _ | (apply Sub.cons; focus ((repeat (first | with_reducible exact Pick.here _ | apply Pick.there)); (first | done | fail))) | with_reducible apply Sub.drop)); first | done | fail))) ?_; rintro _ w ⟨rfl, hw⟩; refine ⟨_, rfl, ?_⟩; refine ⟨fun _ => (by first | exact hw | exact Sat.sub hw (by (repeat (first | with_reducible exact Sub.refl _ | exact Sub.nil _ | (apply Sub.cons; focus ((repeat (first | with_reducible exact Pick.here _ | apply Pick.there)); (first | done | fail))) | with_reducible apply Sub.drop)); first | done | fail)), ?_⟩) | (refine ra_offk 6 rfl (by first | exact met_off rfl rfl rfl rfl rfl | exact met_gone rfl rfl rfl rfl) rfl rfl (by kernel_rfl) (by first | exact hw | exact Sat.sub hw (by (repeat (first | with_reducible exact Sub.refl _ | exact Sub.nil _ | (apply Sub.cons; focus ((repeat (first | with_reducible exact Pick.here _ | apply Pick.there)); (first | done | fail))) | with_reducible apply Sub.drop)); first | done | fail)) ?_)
    first | (refine ra_a 7 rfl rfl rfl rfl (by kernel_rfl) (v_pick_true rfl rfl) ?_) | (refine ra_a 7 rfl rfl rfl rfl (by kernel_rfl) (v_pick_false rfl rfl) ?_) | (refine ra_a 7 rfl rfl rfl rfl (by kernel_rfl) (v_pick rfl rfl rfl) ?_)
    refine ra_a 8 rfl rfl rfl rfl (by kernel_rfl) (v_move rfl) ?_
    first | (refine ra_ag 9 rfl (met_on rfl rfl rfl rfl) rfl rfl (by kernel_rfl) (v_move rfl) ?_) | (refine ra_aoff 9 rfl (by first | exact met_off rfl rfl rfl rfl rfl | exact met_gone rfl rfl rfl rfl) rfl rfl (by kernel_rfl) ?_)
    first | (refine ra_ag 11 rfl (met_on rfl rfl rfl rfl) rfl rfl (by kernel_rfl) (v_move rfl) ?_) | (refine ra_aoff 11 rfl (by first | exact met_off rfl rfl rfl rfl rfl | exact met_gone rfl rfl rfl rfl) rfl rfl (by kernel_rfl) ?_)
    first | (refine ra_ag 12 rfl (met_on rfl rfl rfl rfl) rfl rfl (by kernel_rfl) (v_nilCheck rfl) ?_) | (refine ra_aoff 12 rfl (by first | exact met_off rfl rfl rfl rfl rfl | exact met_gone rfl rfl rfl rfl) rfl rfl (by kernel_rfl) ?_)
    first | (refine ra_ag 13 rfl (met_on rfl rfl rfl rfl) rfl rfl (by kernel_rfl) (v_fieldAddr0 T.fld_97_2_3 rfl) ?_) | (refine ra_ag 13 rfl (met_on rfl rfl rfl rfl) rfl rfl (by kernel_rfl) (v_fieldAddr T.fld_97_2_3 rfl) ?_) | (refine ra_aoff 13 rfl (by first | exact met_off rfl rfl rfl rfl rfl | exact met_gone rfl rfl rfl rfl) rfl rfl (by kernel_rfl) ?_)
    first | (refine ra_vg 14 rfl (met_on rfl rfl rfl rfl) rfl rfl (by kernel_rfl) (OpV.mono (v_load T.scal_3 rfl) (fun w hw => by first | exact sat_cell hw (by (repeat (first | with_reducible exact Pick.here _ | apply Pick.there)); first | done | fail) rfl | exact own_cell hw (by (repeat (first | with_reducible exact Pick.here _ | apply Pick.there)); first | done | fail) (by first | rfl | assumption) | exact old_cell hw (by (repeat (first | with_reducible exact Pick.here _ | apply Pick.there)); first | done | fail) (by assumption) | assumption)) (by first | exact hw | exact Sat.sub hw (by (repeat (first | with_reducible exact Sub.refl _ | exact Sub.nil _ | (apply Sub.cons; focus ((repeat (first | with_reducible exact Pick.here _ | apply Pick.there)); (first | done | fail))) | with_reducible apply Sub.drop)); first | done | fail)) ?_) | (refine ra_aoff 14 rfl (by first | exact met_off rfl rfl rfl rfl rfl | exact met_gone rfl rfl rfl rfl) rfl rfl (by kernel_rfl) ?_)
    first | (refine ra_kg 10 rfl (met_on rfl rfl rfl rfl) (by kernel_rfl) (k_callf Try.func42 rfl rfl rfl rfl ?_); refine Calls.mono (count_calls c p _ (hw.pick (by (repeat (first | with_reducible exact Pick.here _ | apply Pick.there)); first | done | fail))) ?_; rintro _ w ⟨rfl, hw⟩; refine ⟨_, rfl, ?_⟩; refine ⟨fun _ => (by first | exact hw | exact Sat.sub hw (by (repeat (first | with_reducible exact Sub.refl _ | exact Sub.nil _ | (apply Sub.cons; focus ((repeat (first | with_reducible exact Pick.here _ | apply Pick.there)); (first | done | fail))) | with_reducible apply Sub.drop)); first | done | fail)), ?_⟩) | (refine ra_offk 10 rfl (by first | exact met_off rfl rfl rfl rfl rfl | exact met_gone rfl rfl rfl rfl) rfl rfl (by kernel_rfl) (by first | exact hw | exact Sat.sub hw (by (repeat (first | with_reducible exact Sub.refl _ | exact Sub.nil _ | (apply Sub.cons; focus ((repeat (first | with_reducible exact Pick.here _ | apply Pick.there)); (first | done | fail))) | with_reducible apply Sub.drop)); first | done | fail)) ?_)
    first | (refine ra_ag 15 rfl (met_on rfl rfl rfl rfl) rfl rfl (by kernel_rfl) (v_eqlT rfl rfl (by first | omega | rfl)) ?_) | (refine ra_ag 15 rfl (met_on rfl rfl rfl rfl) rfl rfl (by kernel_rfl) (v_eqlF rfl rfl (by omega)) ?_) | (refine ra_ag 15 rfl (met_on rfl rfl rfl rfl) rfl rfl (by kernel_rfl) (v_eql rfl rfl) ?_) | (refine ra_aoff 15 rfl (by first | exact met_off rfl rfl rfl rfl rfl | exact met_gone rfl rfl rfl rfl) rfl rfl (by kernel_rfl) ?_)
    first | (refine ra_a 16 rfl rfl rfl rfl (by kernel_rfl) (v_pick_true rfl rfl) ?_) | (refine ra_a 16 rfl rfl rfl rfl (by kernel_rfl) (v_pick_false rfl rfl) ?_) | (refine ra_a 16 rfl rfl rfl rfl (by kernel_rfl) (v_pick rfl rfl rfl) ?_)
    refine ra_a 17 rfl rfl rfl rfl (by kernel_rfl) (v_move rfl) ?_
    first | (refine ra_ag 18 rfl (met_on rfl rfl rfl rfl) rfl rfl (by kernel_rfl) (v_move rfl) ?_) | (refine ra_aoff 18 rfl (by first | exact met_off rfl rfl rfl rfl rfl | exact met_gone rfl rfl rfl rfl) rfl rfl (by kernel_rfl) ?_)
    first | (refine ra_ag 19 rfl (met_on rfl rfl rfl rfl) rfl rfl (by kernel_rfl) (v_nilCheck rfl) ?_) | (refine ra_aoff 19 rfl (by first | exact met_off rfl rfl rfl rfl rfl | exact met_gone rfl rfl rfl rfl) rfl rfl (by kernel_rfl) ?_)
    first | (refine ra_ag 20 rfl (met_on rfl rfl rfl rfl) rfl rfl (by kernel_rfl) (v_fieldAddr0 T.fld_72_0_0 rfl) ?_) | (refine ra_ag 20 rfl (met_on rfl rfl rfl rfl) rfl rfl (by kernel_rfl) (v_fieldAddr T.fld_72_0_0 rfl) ?_) | (refine ra_aoff 20 rfl (by first | exact met_off rfl rfl rfl rfl rfl | exact met_gone rfl rfl rfl rfl) rfl rfl (by kernel_rfl) ?_)
    first | (refine ra_vg 21 rfl (met_on rfl rfl rfl rfl) rfl rfl (by kernel_rfl) (OpV.mono (v_load T.scal_24 rfl) (fun w hw => by first | exact sat_cell hw (by (repeat (first | with_reducible exact Pick.here _ | apply Pick.there)); first | done | fail) rfl | exact own_cell hw (by (repeat (first | with_reducible exact Pick.here _ | apply Pick.there)); first | done | fail) (by first | rfl | assumption) | exact old_cell hw (by (repeat (first | with_reducible exact Pick.here _ | apply Pick.there)); first | done | fail) (by assumption) | assumption)) (by first | exact hw | exact Sat.sub hw (by (repeat (first | with_reducible exact Sub.refl _ | exact Sub.nil _ | (apply Sub.cons; focus ((repeat (first | with_reducible exact Pick.here _ | apply Pick.there)); (first | done | fail))) | with_reducible apply Sub.drop)); first | done | fail)) ?_) | (refine ra_aoff 21 rfl (by first | exact met_off rfl rfl rfl rfl rfl | exact met_gone rfl rfl rfl rfl) rfl rfl (by kernel_rfl) ?_)
    first | (refine ra_ag 23 rfl (met_on rfl rfl rfl rfl) rfl rfl (by kernel_rfl) (v_move rfl) ?_) | (refine ra_aoff 23 rfl (by first | exact met_off rfl rfl rfl rfl rfl | exact met_gone rfl rfl rfl rfl) rfl rfl (by kernel_rfl) ?_)
    first | (refine ra_ag 24 rfl (met_on rfl rfl rfl rfl) rfl rfl (by kernel_rfl) (v_nilCheck rfl) ?_) | (refine ra_aoff 24 rfl (by first | exact met_off rfl rfl rfl rfl rfl | exact met_gone rfl rfl rfl rfl) rfl rfl (by kernel_rfl) ?_)
    first | (refine ra_ag 25 rfl (met_on rfl rfl rfl rfl) rfl rfl (by kernel_rfl) (v_fieldAddr0 T.fld_97_0_0 rfl) ?_) | (refine ra_ag 25 rfl (met_on rfl rfl rfl rfl) rfl rfl (by kernel_rfl) (v_fieldAddr T.fld_97_0_0 rfl) ?_) | (refine ra_aoff 25 rfl (by first | exact met_off rfl rfl rfl rfl rfl | exact met_gone rfl rfl rfl rfl) rfl rfl (by kernel_rfl) ?_)
    first | (refine ra_vg 26 rfl (met_on rfl rfl rfl rfl) rfl rfl (by kernel_rfl) (OpV.mono (v_load T.scal_26 rfl) (fun w hw => by first | exact sat_cell hw (by (repeat (first | with_reducible exact Pick.here _ | apply Pick.there)); first | done | fail) rfl | exact own_cell hw (by (repeat (first | with_reducible exact Pick.here _ | apply Pick.there)); first | done | fail) (by first | rfl | assumption) | exact old_cell hw (by (repeat (first | with_reducible exact Pick.here _ | apply Pick.there)); first | done | fail) (by assumption) | assumption)) (by first | exact hw | exact Sat.sub hw (by (repeat (first | with_reducible exact Sub.refl _ | exact Sub.nil _ | (apply Sub.cons; focus ((repeat (first | with_reducible exact Pick.here _ | apply Pick.there)); (first | done | fail))) | with_reducible apply Sub.drop)); first | done | fail)) ?_) | (refine ra_aoff 26 rfl (by first | exact met_off rfl rfl rfl rfl rfl | exact met_gone rfl rfl rfl rfl) rfl rfl (by kernel_rfl) ?_)
    first | (refine ra_ag 27 rfl (met_on rfl rfl rfl rfl) rfl rfl (by kernel_rfl) (v_nilCheck rfl) ?_) | (refine ra_aoff 27 rfl (by first | exact met_off rfl rfl rfl rfl rfl | exact met_gone rfl rfl rfl rfl) rfl rfl (by kernel_rfl) ?_)
    first | (refine ra_ag 28 rfl (met_on rfl rfl rfl rfl) rfl rfl (by kernel_rfl) (v_fieldAddr0 T.fld_90_0_0 rfl) ?_) | (refine ra_ag 28 rfl (met_on rfl rfl rfl rfl) rfl rfl (by kernel_rfl) (v_fieldAddr T.fld_90_0_0 rfl) ?_) | (refine ra_aoff 28 rfl (by first | exact met_off rfl rfl rfl rfl rfl | exact met_gone rfl rfl rfl rfl) rfl rfl (by kernel_rfl) ?_)
    first | (refine ra_vg 29 rfl (met_on rfl rfl rfl rfl) rfl rfl (by kernel_rfl) (OpV.mono (v_load T.scal_4 rfl) (fun w hw => by first | exact sat_cell hw (by (repeat (first | with_reducible exact Pick.here _ | apply Pick.there)); first | done | fail) rfl | exact own_cell hw (by (repeat (first | with_reducible exact Pick.here _ | apply Pick.there)); first | done | fail) (by first | rfl | assumption) | exact old_cell hw (by (repeat (first | with_reducible exact Pick.here _ | apply Pick.there)); first | done | fail) (by assumption) | assumption)) (by first | exact hw | exact Sat.sub hw (by (repeat (first | with_reducible exact Sub.refl _ | exact Sub.nil _ | (apply Sub.cons; focus ((repeat (first | with_reducible exact Pick.here _ | apply Pick.there)); (first | done | fail))) | with_reducible apply Sub.drop)); first | done | fail)) ?_) | (refine ra_aoff 29 rfl (by first | exact met_off rfl rfl rfl rfl rfl | exact met_gone rfl rfl rfl rfl) rfl rfl (by kernel_rfl) ?_)
    first | (refine ra_kg 22 rfl (met_on rfl rfl rfl rfl) (by kernel_rfl) (k_callf Try.func20 rfl rfl rfl rfl ?_); refine Calls.mono (on_calls p _ (hw.pick (by (repeat (first | with_reducible exact Pick.here _ | apply Pick.there)); first | done | fail))) ?_; rintro _ w ⟨rfl, hw⟩; refine ⟨_, rfl, ?_⟩; refine ⟨fun _ => (by first | exact hw | exact Sat.sub hw (by (repeat (first | with_reducible exact Sub.refl _ | exact Sub.nil _ | (apply Sub.cons; focus ((repeat (first | with_reducible exact Pick.here _ | apply Pick.there)); (first | done | fail))) | with_reducible apply Sub.drop)); first | done | fail)), ?_⟩) | (refine ra_offk 22 rfl (by first | exact met_off rfl rfl rfl rfl rfl | exact met_gone rfl rfl rfl rfl) rfl rfl (by kernel_rfl) (by first | exact hw | exact Sat.sub hw (by (repeat (first | with_reducible exact Sub.refl _ | exact Sub.nil _ | (apply Sub.cons; focus ((repeat (first | with_reducible exact Pick.here _ | apply Pick.there)); (first | done | fail))) | with_reducible apply Sub.drop)); first | done | fail)) ?_)
    first | (refine ra_ag 30 rfl (met_on rfl rfl rfl rfl) rfl rfl (by kernel_rfl) (v_eqlBoolT T.bool_4 rfl rfl (by first | rfl | assumption)) ?_) | (refine ra_ag 30 rfl (met_on rfl rfl rfl rfl) rfl rfl (by kernel_rfl) (v_eqlBool T.bool_4 rfl rfl) ?_) | (refine ra_aoff 30 rfl (by first | exact met_off rfl rfl rfl rfl rfl | exact met_gone rfl rfl rfl rfl) rfl rfl (by kernel_rfl) ?_)
    first | (refine ra_a 31 rfl rfl rfl rfl (by kernel_rfl) (v_pick_true rfl rfl) ?_) | (refine ra_a 31 rfl rfl rfl rfl (by kernel_rfl) (v_pick_false rfl rfl) ?_) | (refine ra_a 31 rfl rfl rfl rfl (by kernel_rfl) (v_pick rfl rfl rfl) ?_)
    refine ra_a 32 rfl rfl rfl rfl (by kernel_rfl) (v_move rfl) ?_
    first | (refine ra_ag 33 rfl (met_on rfl rfl rfl rfl) rfl rfl (by kernel_rfl) (v_move rfl) ?_) | (refine ra_aoff 33 rfl (by first | exact met_off rfl rfl rfl rfl rfl | exact met_gone rfl rfl rfl rfl) rfl rfl (by kernel_rfl) ?_)
    first | (refine ra_ag 34 rfl (met_on rfl rfl rfl rfl) rfl rfl (by kernel_rfl) (v_nilCheck rfl) ?_) | (refine ra_aoff 34 rfl (by first | exact met_off rfl rfl rfl rfl rfl | exact met_gone rfl rfl rfl rfl) rfl rfl (by kernel_rfl) ?_)
    first | (refine ra_ag 35 rfl (met_on rfl rfl rfl rfl) rfl rfl (by kernel_rfl) (v_fieldAddr0 T.fld_72_0_0 rfl) ?_) | (refine ra_ag 35 rfl (met_on rfl rfl rfl rfl) rfl rfl (by kernel_rfl) (v_fieldAddr T.fld_72_0_0 rfl) ?_) | (refine ra_aoff 35 rfl (by first | exact met_off rfl rfl rfl rfl rfl | exact met_gone rfl rfl rfl rfl) rfl rfl (by kernel_rfl) ?_)
    first | (refine ra_vg 36 rfl (met_on rfl rfl rfl rfl) rfl rfl (by kernel_rfl) (OpV.mono (v_load T.scal_24 rfl) (fun w hw => by first | exact sat_cell hw (by (repeat (first | with_reducible exact Pick.here _ | apply Pick.there)); first | done | fail) rfl | exact own_cell hw (by (repeat (first | with_reducible exact Pick.here _ | apply Pick.there)); first | done | fail) (by first | rfl | assumption) | exact old_cell hw (by (repeat (first | with_reducible exact Pick.here _ | apply Pick.there)); first | done | fail) (by assumption) | assumption)) (by first | exact hw | exact Sat.sub hw (by (repeat (first | with_reducible exact Sub.refl _ | exact Sub.nil _ | (apply Sub.cons; focus ((repeat (first | with_reducible exact Pick.here _ | apply Pick.there)); (first | done | fail))) | with_reducible apply Sub.drop)); first | done | fail)) ?_) | (refine ra_aoff 36 rfl (by first | exact met_off rfl rfl rfl rfl rfl | exact met_gone rfl rfl rfl rfl) rfl rfl (by kernel_rfl) ?_)
    first | (refine ra_ag 38 rfl (met_on rfl rfl rfl rfl) rfl rfl (by kernel_rfl) (v_move rfl) ?_) | (refine ra_aoff 38 rfl (by first | exact met_off rfl rfl rfl rfl rfl | exact met_gone rfl rfl rfl rfl) rfl rfl (by kernel_rfl) ?_)
    first | (refine ra_ag 39 rfl (met_on rfl rfl rfl rfl) rfl rfl (by kernel_rfl) (v_nilCheck rfl) ?_) | (refine ra_aoff 39 rfl (by first | exact met_off rfl rfl rfl rfl rfl | exact met_gone rfl rfl rfl rfl) rfl rfl (by kernel_rfl) ?_)
    first | (refine ra_ag 40 rfl (met_on rfl rfl rfl rfl) rfl rfl (by kernel_rfl) (v_fieldAddr0 T.fld_97_0_0 rfl) ?_) | (refine ra_ag 40 rfl (met_on rfl rfl rfl rfl) rfl rfl (by kernel_rfl) (v_fieldAddr T.fld_97_0_0 rfl) ?_) | (refine ra_aoff 40 rfl (by first | exact met_off rfl rfl rfl rfl rfl | exact met_gone rfl rfl rfl rfl) rfl rfl (by kernel_rfl) ?_)
    first | (refine ra_vg 41 rfl (met_on rfl rfl rfl rfl) rfl rfl (by kernel_rfl) (OpV.mono (v_load T.scal_26 rfl) (fun w hw => by first | exact sat_cell hw (by (repeat (first | with_reducible exact Pick.here _ | apply Pick.there)); first | done | fail) rfl | exact own_cell hw (by (repeat (first | with_reducible exact Pick.here _ | apply Pick.there)); first | done | fail) (by first | rfl | assumption) | exact old_cell hw (by (repeat (first | with_reducible exact Pick.here _ | apply Pick.there)); first | done | fail) (by assumption) | assumption)) (by first | exact hw | exact Sat.sub hw (by (repeat (first | with_reducible exact Sub.refl _ | exact Sub.nil _ | (apply Sub.cons; focus ((repeat (first | with_reducible exact Pick.here _ | apply Pick.there)); (first | done | fail))) | with_reducible apply Sub.drop)); first | done | fail)) ?_) | (refine ra_aoff 41 rfl (by first | exact met_off rfl rfl rfl rfl rfl | exact met_gone rfl rfl rfl rfl) rfl rfl (by kernel_rfl) ?_)
    first | (refine ra_kg 37 rfl (met_on rfl rfl rfl rfl) (by kernel_rfl) (k_callf Try.func21 rfl rfl rfl rfl ?_); refine Calls.mono (left_calls p _ (hw.pick (by (repeat (first | with_reducible exact Pick.here _ | apply Pick.there)); first | done | fail))) ?_; rintro _ w ⟨rfl, hw⟩; refine ⟨_, rfl, ?_⟩; refine ⟨fun _ => (by first | exact hw | exact Sat.sub hw (by (repeat (first | with_reducible exact Sub.refl _ | exact Sub.nil _ | (apply Sub.cons; focus ((repeat (first | with_reducible exact Pick.here _ | apply Pick.there)); (first | done | fail))) | with_reducible apply Sub.drop)); first | done | fail)), ?_⟩) | (refine ra_offk 37 rfl (by first | exact met_off rfl rfl rfl rfl rfl | exact met_gone rfl rfl rfl rfl) rfl rfl (by kernel_rfl) (by first | exact hw | exact Sat.sub hw (by (repeat (first | with_reducible exact Sub.refl _ | exact Sub.nil _ | (apply Sub.cons; focus ((repeat (first | with_reducible exact Pick.here _ | apply Pick.there)); (first | done | fail))) | with_reducible apply Sub.drop)); first | done | fail)) ?_)
    first | (refine ra_kg 42 rfl (met_on rfl rfl rfl rfl) (by kernel_rfl) (k_callf Try.func47 rfl rfl rfl rfl ?_); refine Calls.mono (rleft_calls q ⟨off, ahead, writes⟩ (hw.pick (by (repeat (first | with_reducible exact Pick.here _ | apply Pick.there)); first | done | fail))) ?_; rintro _ w ⟨rfl, hw⟩; refine ⟨_, rfl, ?_⟩; refine ⟨fun _ => (by first | exact hw | exact Sat.sub hw (by (repeat (first | with_reducible exact Sub.refl _ | exact Sub.nil _ | (apply Sub.cons; focus ((repeat (first | with_reducible exact Pick.here _ | apply Pick.there)); (first | done | fail))) | with_reducible apply Sub.drop)); first | done | fail)), ?_⟩) | (refine ra_offk 42 rfl (by first | exact met_off rfl rfl rfl rfl rfl | exact met_gone rfl rfl rfl rfl) rfl rfl (by kernel_rfl) (by first | exact hw | exact Sat.sub hw (by (repeat (first | with_reducible exact Sub.refl _ | exact Sub.nil _ | (apply Sub.cons; focus ((repeat (first | with_reducible exact Pick.here _ | apply Pick.there)); (first | done | fail))) | with_reducible apply Sub.drop)); first | done | fail)) ?_)
    first | (refine ra_ag 43 rfl (met_on rfl rfl rfl rfl) rfl rfl (by kernel_rfl) (v_eqlT rfl rfl (by first | omega | rfl)) ?_) | (refine ra_ag 43 rfl (met_on rfl rfl rfl rfl) rfl rfl (by kernel_rfl) (v_eqlF rfl rfl (by omega)) ?_) | (refine ra_ag 43 rfl (met_on rfl rfl rfl rfl) rfl rfl (by kernel_rfl) (v_eql rfl rfl) ?_) | (refine ra_aoff 43 rfl (by first | exact met_off rfl rfl rfl rfl rfl | exact met_gone rfl rfl rfl rfl) rfl rfl (by kernel_rfl) ?_)
    first | (refine ra_a 44 rfl rfl rfl rfl (by kernel_rfl) (v_pick_true rfl rfl) ?_) | (refine ra_a 44 rfl rfl rfl rfl (by kernel_rfl) (v_pick_false rfl rfl) ?_) | (refine ra_a 44 rfl rfl rfl rfl (by kernel_rfl) (v_pick rfl rfl rfl) ?_)
    refine ra_a 45 rfl rfl rfl rfl (by kernel_rfl) (v_move rfl) ?_
    first | (refine ra_ag 46 rfl (met_on rfl rfl rfl rfl) rfl rfl (by kernel_rfl) (v_move rfl) ?_) | (refine ra_aoff 46 rfl (by first | exact met_off rfl rfl rfl rfl rfl | exact met_gone rfl rfl rfl rfl) rfl rfl (by kernel_rfl) ?_)
    first | (refine ra_ag 47 rfl (met_on rfl rfl rfl rfl) rfl rfl (by kernel_rfl) (v_nilCheck rfl) ?_) | (refine ra_aoff 47 rfl (by first | exact met_off rfl rfl rfl rfl rfl | exact met_gone rfl rfl rfl rfl) rfl rfl (by kernel_rfl) ?_)
    first | (refine ra_ag 48 rfl (met_on rfl rfl rfl rfl) rfl rfl (by kernel_rfl) (v_fieldAddr0 T.fld_72_0_0 rfl) ?_) | (refine ra_ag 48 rfl (met_on rfl rfl rfl rfl) rfl rfl (by kernel_rfl) (v_fieldAddr T.fld_72_0_0 rfl) ?_) | (refine ra_aoff 48 rfl (by first | exact met_off rfl rfl rfl rfl rfl | exact met_gone rfl rfl rfl rfl) rfl rfl (by kernel_rfl) ?_)
    first | (refine ra_vg 49 rfl (met_on rfl rfl rfl rfl) rfl rfl (by kernel_rfl) (OpV.mono (v_load T.scal_24 rfl) (fun w hw => by first | exact sat_cell hw (by (repeat (first | with_reducible exact Pick.here _ | apply Pick.there)); first | done | fail) rfl | exact own_cell hw (by (repeat (first | with_reducible exact Pick.here _ | apply Pick.there)); first | done | fail) (by first | rfl | assumption) | exact old_cell hw (by (repeat (first | with_reducible exact Pick.here _ | apply Pick.there)); first | done | fail) (by assumption) | assumption)) (by first | exact hw | exact Sat.sub hw (by (repeat (first | with_reducible exact Sub.refl _ | exact Sub.nil _ | (apply Sub.cons; focus ((repeat (first | with_reducible exact Pick.here _ | apply Pick.there)); (first | done | fail))) | with_reducible apply Sub.drop)); first | done | fail)) ?_) | (refine ra_aoff 49 rfl (by first | exact met_off rfl rfl rfl rfl rfl | exact met_gone rfl rfl rfl rfl) rfl rfl (by kernel_rfl) ?_)
    first | (refine ra_ag 51 rfl (met_on rfl rfl rfl rfl) rfl rfl (by kernel_rfl) (v_move rfl) ?_) | (refine ra_aoff 51 rfl (by first | exact met_off rfl rfl rfl rfl rfl | exact met_gone rfl rfl rfl rfl) rfl rfl (by kernel_rfl) ?_)
    first | (refine ra_ag 52 rfl (met_on rfl rfl rfl rfl) rfl rfl (by kernel_rfl) (v_nilCheck rfl) ?_) | (refine ra_aoff 52 rfl (by first | exact met_off rfl rfl rfl rfl rfl | exact met_gone rfl rfl rfl rfl) rfl rfl (by kernel_rfl) ?_)
    first | (refine ra_ag 53 rfl (met_on rfl rfl rfl rfl) rfl rfl (by kernel_rfl) (v_fieldAddr0 T.fld_97_0_0 rfl) ?_) | (refine ra_ag 53 rfl (met_on rfl rfl rfl rfl) rfl rfl (by kernel_rfl) (v_fieldAddr T.fld_97_0_0 rfl) ?_) | (refine ra_aoff 53 rfl (by first | exact met_off rfl rfl rfl rfl rfl | exact met_gone rfl rfl rfl rfl) rfl rfl (by kernel_rfl) ?_)
    first | (refine ra_vg 54 rfl (met_on rfl rfl rfl rfl) rfl rfl (by kernel_rfl) (OpV.mono (v_load T.scal_26 rfl) (fun w hw => by first | exact sat_cell hw (by (repeat (first | with_reducible exact Pick.here _ | apply Pick.there)); first | done | fail) rfl | exact own_cell hw (by (repeat (first | with_reducible exact Pick.here _ | apply Pick.there)); first | done | fail) (by first | rfl | assumption) | exact old_cell hw (by (repeat (first | with_reducible exact Pick.here _ | apply Pick.there)); first | done | fail) (by assumption) | assumption)) (by first | exact hw | exact Sat.sub hw (by (repeat (first | with_reducible exact Sub.refl _ | exact Sub.nil _ | (apply Sub.cons; focus ((repeat (first | with_reducible exact Pick.here _ | apply Pick.there)); (first | done | fail))) | with_reducible apply Sub.drop)); first | done | fail)) ?_) | (refine ra_aoff 54 rfl (by first | exact met_off rfl rfl rfl rfl rfl | exact met_gone rfl rfl rfl rfl) rfl rfl (by kernel_rfl) ?_)
    first | (refine ra_ag 55 rfl (met_on rfl rfl rfl rfl) rfl rfl (by kernel_rfl) (v_nilCheck rfl) ?_) | (refine ra_aoff 55 rfl (by first | exact met_off rfl rfl rfl rfl rfl | exact met_gone rfl rfl rfl rfl) rfl rfl (by kernel_rfl) ?_)
    first | (refine ra_ag 56 rfl (met_on rfl rfl rfl rfl) rfl rfl (by kernel_rfl) (v_fieldAddr0 T.fld_90_2_2 rfl) ?_) | (refine ra_ag 56 rfl (met_on rfl rfl rfl rfl) rfl rfl (by kernel_rfl) (v_fieldAddr T.fld_90_2_2 rfl) ?_) | (refine ra_aoff 56 rfl (by first | exact met_off rfl rfl rfl rfl rfl | exact met_gone rfl rfl rfl rfl) rfl rfl (by kernel_rfl) ?_)
    first | (refine ra_vg 57 rfl (met_on rfl rfl rfl rfl) rfl rfl (by kernel_rfl) (OpV.mono (v_load T.scal_3 rfl) (fun w hw => by first | exact sat_cell hw (by (repeat (first | with_reducible exact Pick.here _ | apply Pick.there)); first | done | fail) rfl | exact own_cell hw (by (repeat (first | with_reducible exact Pick.here _ | apply Pick.there)); first | done | fail) (by first | rfl | assumption) | exact old_cell hw (by (repeat (first | with_reducible exact Pick.here _ | apply Pick.there)); first | done | fail) (by assumption) | assumption)) (by first | exact hw | exact Sat.sub hw (by (repeat (first | with_reducible exact Sub.refl _ | exact Sub.nil _ | (apply Sub.cons; focus ((repeat (first | with_reducible exact Pick.here _ | apply Pick.there)); (first | done | fail))) | with_reducible apply Sub.drop)); first | done | fail)) ?_) | (refine ra_aoff 57 rfl (by first | exact met_off rfl rfl rfl rfl rfl | exact met_gone rfl rfl rfl rfl) rfl rfl (by kernel_rfl) ?_)
    first | (refine ra_kg 50 rfl (met_on rfl rfl rfl rfl) (by kernel_rfl) (k_callf Try.func17 rfl rfl rfl rfl ?_); refine Calls.mono (writes_calls p _ (hw.pick (by (repeat (first | with_reducible exact Pick.here _ | apply Pick.there)); first | done | fail))) ?_; rintro _ w ⟨rfl, hw⟩; refine ⟨_, rfl, ?_⟩; refine ⟨fun _ => (by first | exact hw | exact Sat.sub hw (by (repeat (first | with_reducible exact Sub.refl _ | exact Sub.nil _ | (apply Sub.cons; focus ((repeat (first | with_reducible exact Pick.here _ | apply Pick.there)); (first | done | fail))) | with_reducible apply Sub.drop)); first | done | fail)), ?_⟩) | (refine ra_offk 50 rfl (by first | exact met_off rfl rfl rfl rfl rfl | exact met_gone rfl rfl rfl rfl) rfl rfl (by kernel_rfl) (by first | exact hw | exact Sat.sub hw (by (repeat (first | with_reducible exact Sub.refl _ | exact Sub.nil _ | (apply Sub.cons; focus ((repeat (first | with_reducible exact Pick.here _ | apply Pick.there)); (first | done | fail))) | with_reducible apply Sub.drop)); first | done | fail)) ?_)
    first | (refine ra_ag 58 rfl (met_on rfl rfl rfl rfl) rfl rfl (by kernel_rfl) (v_eqlT rfl rfl (by first | omega | rfl)) ?_) | (refine ra_ag 58 rfl (met_on rfl rfl rfl rfl) rfl rfl (by kernel_rfl) (v_eqlF rfl rfl (by omega)) ?_) | (refine ra_ag 58 rfl (met_on rfl rfl rfl rfl) rfl rfl (by kernel_rfl) (v_eql rfl rfl) ?_) | (refine ra_aoff 58 rfl (by first | exact met_off rfl rfl rfl rfl rfl | exact met_gone rfl rfl rfl rfl) rfl rfl (by kernel_rfl) ?_)
    first | (refine ra_a 59 rfl rfl rfl rfl (by kernel_rfl) (v_pick_true rfl rfl) ?_) | (refine ra_a 59 rfl rfl rfl rfl (by kernel_rfl) (v_pick_false rfl rfl) ?_) | (refine ra_a 59 rfl rfl rfl rfl (by kernel_rfl) (v_pick rfl rfl rfl) ?_)
    refine ra_a 60 rfl rfl rfl rfl (by kernel_rfl) (v_assign rfl) ?_
    refine ra_done (by kernel_rfl) (g_le (Fr.le_keep (Fr.le_skip rfl (Fr.le_skip rfl (Fr.le_skip rfl (Fr.le_skip rfl (Fr.le_skip rfl (Fr.le_skip rfl (Fr.le_skip rfl (Fr.le_skip rfl (Fr.le_skip rfl (Fr.le_skip rfl (Fr.le_skip rfl (Fr.le_skip rfl (Fr.le_skip rfl (Fr.le_skip rfl (Fr.le_skip rfl (Fr.le_skip rfl (Fr.le_skip rfl (Fr.le_skip rfl (Fr.le_skip rfl (Fr.le_skip rfl (Fr.le_skip rfl (Fr.le_skip rfl (Fr.le_skip rfl (Fr.le_skip rfl (Fr.le_skip rfl (Fr.le_skip rfl (Fr.le_skip rfl (Fr.le_skip rfl (Fr.le_skip rfl (Fr.le_skip rfl (Fr.le_skip rfl (Fr.le_skip rfl (Fr.le_skip rfl (Fr.le_skip rfl (Fr.le_skip rfl (Fr.le_skip rfl (Fr.le_skip rfl (Fr.le_skip rfl (Fr.le_skip rfl (Fr.le_skip rfl (Fr.le_skip rfl (Fr.le_skip rfl (Fr.le_skip rfl (Fr.le_skip rfl (Fr.le_skip rfl (Fr.le_skip rfl (Fr.le_skip rfl (Fr.le_skip rfl (Fr.le_skip rfl (Fr.le_skip rfl (Fr.le_skip rfl (Fr.le_skip rfl (Fr.le_skip rfl (Fr.le_skip rfl (Fr.le_skip rfl (Fr.le_skip rfl (Fr.le_skip rfl (Fr.le_skip rfl (Fr.le_skip rfl (Fr.le_skip rfl (Fr.le_refl _)))))))))))))))))))))))))))))))))))))))))))))))))))))))))))))) ?_)
    refine g_ret1 Try.func41 rfl rfl ?_
    exact ⟨rfl, hw.sub (by (repeat (first | with_reducible exact Sub.refl _ | exact Sub.nil _ | (apply Sub.cons; focus ((repeat (first | with_reducible exact Pick.here _ | apply Pick.there)); (first | done | fail))) | with_reducible apply Sub.drop)); first | done | fail)⟩


theorem Cs.ok_lay {s : Cs} {pw : Pw} {i : Int} {v : ByteArray} (h : pw.ok) : (s.lay pw i v).2.2.ok := by
  unfold Cs.lay; split <;> exact Pw.ok_spend h
theorem Cs.ok_set {s : Cs} {pw : Pw} {i : Int} {v : ByteArray} (h : pw.ok) : (s.set pw i v).2.2.ok := by
  unfold Cs.set; split
  · split
    · exact h
    · split
      · exact h
      · exact Cs.ok_lay h
  · exact h
theorem Cs.ok_erase {s : Cs} {pw : Pw} {i : Int} (h : pw.ok) : (s.erase pw i).2.2.ok := by
  unfold Cs.erase; split
  · split
    · exact h
    · exact Cs.ok_lay h
  · exact h

/-- One call of a row on a cell and on the reference's, which stand alike. -/
theorem step13_calls {E : Env} {w : World} {L : List As} (c d p q : Nat) (s : Cs) (pw : Pw) (kind slot : Int) (on : Bool) (str : ByteArray) (hok : pw.ok)
    (hw : Sat E w (CellAt c p s :: RcAt d q s :: PwAt p pw :: RwAt q pw.ref :: L)) :
    Calls Try.prog 35 #[.pointer (some ⟨c, 0, none⟩), .pointer (some ⟨d, 0, none⟩), .agg #[.int .i64 kind, .bool on, .int .i64 slot, .string str]] w
      fun e w' => ∃ s' pw', e = .returned (.bool true) ∧ Pw.ok pw' ∧ Sat E w' (CellAt c p s' :: RcAt d q s' :: PwAt p pw' :: RwAt q pw'.ref :: L) := by
  refine calls_of_g (n := 95) Try.func35 rfl rfl rfl ?_
  change G _ _ _ _ _ [(0, _), (1, _), (2, _)] _
  repeat (first | refine g_seq ?_ | refine g_skip ?_ | refine g_inBlock ?_ | refine g_block ?_ | refine g_label ?_)
  refine g_region ?_
  refine rl_k rfl (k_box hw rfl rfl rfl (fun blk w hw => ?_))
  refine rl_v rfl rfl rfl (S := fun _ => True) trivial (v_assign rfl) ?_
  refine rl_nil (g_le (Fr.le_keep (Fr.le_keep (Fr.le_refl _))) ?_)
  repeat (first | refine g_seq ?_ | refine g_skip ?_ | refine g_inBlock ?_ | refine g_block ?_ | refine g_label ?_)
  refine g_region ?_
  first | (refine rl_v rfl rfl rfl (S := fun _ => True) trivial (v_fieldAddr0 T.fld_69_0_0 rfl) ?_) | (refine rl_v rfl rfl rfl (S := fun _ => True) trivial (v_fieldAddr T.fld_69_0_0 rfl) ?_)
  refine rl_v rfl rfl rfl (by first | exact sat_cell hw (by (repeat (first | with_reducible exact Pick.here _ | apply Pick.there)); first | done | fail) rfl | exact own_cell hw (by (repeat (first | with_reducible exact Pick.here _ | apply Pick.there)); first | done | fail) (by first | rfl | assumption) | exact old_cell hw (by (repeat (first | with_reducible exact Pick.here _ | apply Pick.there)); first | done | fail) (by assumption) | assumption) (v_load T.scal_3 rfl) ?_
  refine rl_nil (g_le (Fr.le_keep (Fr.le_skip rfl (Fr.le_refl _))) ?_)
  repeat (first | refine g_seq ?_ | refine g_skip ?_ | refine g_inBlock ?_ | refine g_block ?_ | refine g_label ?_)
  refine g_region ?_
  first | (refine rl_v rfl rfl rfl (S := fun _ => True) trivial (v_eqlT rfl rfl (by first | omega | rfl)) ?_) | (refine rl_v rfl rfl rfl (S := fun _ => True) trivial (v_eqlF rfl rfl (by omega)) ?_) | (refine rl_v rfl rfl rfl (S := fun _ => True) trivial (v_eql rfl rfl) ?_)
  refine rl_v rfl rfl rfl (S := fun _ => True) trivial (v_assign rfl) ?_
  refine rl_nil (g_le (Fr.le_keep (Fr.le_skip rfl (Fr.le_refl _))) ?_)
  repeat (first | refine g_seq ?_ | refine g_skip ?_ | refine g_inBlock ?_ | refine g_block ?_ | refine g_label ?_)
  refine g_cond_dec rfl (fun h1 => ?_) (fun h1 => ?_)
  · repeat (first | refine g_seq ?_ | refine g_skip ?_ | refine g_inBlock ?_ | refine g_block ?_ | refine g_label ?_)
    refine g_region ?_
    refine rl_v rfl rfl rfl (S := fun _ => True) trivial (v_move rfl) ?_
    first | (refine rl_v rfl rfl rfl (S := fun _ => True) trivial (v_fieldAddr0 T.fld_69_2_2 rfl) ?_) | (refine rl_v rfl rfl rfl (S := fun _ => True) trivial (v_fieldAddr T.fld_69_2_2 rfl) ?_)
    refine rl_v rfl rfl rfl (by first | exact sat_cell hw (by (repeat (first | with_reducible exact Pick.here _ | apply Pick.there)); first | done | fail) rfl | exact own_cell hw (by (repeat (first | with_reducible exact Pick.here _ | apply Pick.there)); first | done | fail) (by first | rfl | assumption) | exact old_cell hw (by (repeat (first | with_reducible exact Pick.here _ | apply Pick.there)); first | done | fail) (by assumption) | assumption) (v_load T.scal_3 rfl) ?_
    first | (refine rl_v rfl rfl rfl (S := fun _ => True) trivial (v_fieldAddr0 T.fld_69_3_3 rfl) ?_) | (refine rl_v rfl rfl rfl (S := fun _ => True) trivial (v_fieldAddr T.fld_69_3_3 rfl) ?_)
    refine rl_v rfl rfl rfl (by first | exact sat_cell hw (by (repeat (first | with_reducible exact Pick.here _ | apply Pick.there)); first | done | fail) rfl | exact own_cell hw (by (repeat (first | with_reducible exact Pick.here _ | apply Pick.there)); first | done | fail) (by first | rfl | assumption) | exact old_cell hw (by (repeat (first | with_reducible exact Pick.here _ | apply Pick.there)); first | done | fail) (by assumption) | assumption) (v_load T.scal_9 rfl) ?_
    refine rl_k rfl (k_callf Try.func38 rfl rfl rfl rfl ?_)
    refine Calls.mono (set_calls c p s pw slot str hok (hw.sub (by (repeat (first | with_reducible exact Sub.refl _ | exact Sub.nil _ | (apply Sub.cons; focus ((repeat (first | with_reducible exact Pick.here _ | apply Pick.there)); (first | done | fail))) | with_reducible apply Sub.drop)); first | done | fail))) ?_
    rintro _ w ⟨rfl, hw⟩
    refine ⟨_, rfl, ?_⟩
    refine rl_v rfl rfl rfl (S := fun _ => True) trivial (v_assign rfl) ?_
    refine rl_nil (g_le (Fr.le_keep (Fr.le_skip rfl (Fr.le_skip rfl (Fr.le_skip rfl (Fr.le_skip rfl (Fr.le_skip rfl (Fr.le_skip rfl (Fr.le_refl _)))))))) ?_)
    repeat (first | refine g_seq ?_ | refine g_skip ?_ | refine g_inBlock ?_ | refine g_block ?_ | refine g_label ?_)
    refine g_region ?_
    refine rl_v rfl rfl rfl (S := fun _ => True) trivial (v_move rfl) ?_
    refine rl_v rfl rfl rfl (S := fun _ => True) trivial (v_move rfl) ?_
    first | (refine rl_v rfl rfl rfl (S := fun _ => True) trivial (v_fieldAddr0 T.fld_69_2_2 rfl) ?_) | (refine rl_v rfl rfl rfl (S := fun _ => True) trivial (v_fieldAddr T.fld_69_2_2 rfl) ?_)
    refine rl_v rfl rfl rfl (by first | exact sat_cell hw (by (repeat (first | with_reducible exact Pick.here _ | apply Pick.there)); first | done | fail) rfl | exact own_cell hw (by (repeat (first | with_reducible exact Pick.here _ | apply Pick.there)); first | done | fail) (by first | rfl | assumption) | exact old_cell hw (by (repeat (first | with_reducible exact Pick.here _ | apply Pick.there)); first | done | fail) (by assumption) | assumption) (v_load T.scal_3 rfl) ?_
    first | (refine rl_v rfl rfl rfl (S := fun _ => True) trivial (v_fieldAddr0 T.fld_69_3_3 rfl) ?_) | (refine rl_v rfl rfl rfl (S := fun _ => True) trivial (v_fieldAddr T.fld_69_3_3 rfl) ?_)
    refine rl_v rfl rfl rfl (by first | exact sat_cell hw (by (repeat (first | with_reducible exact Pick.here _ | apply Pick.there)); first | done | fail) rfl | exact own_cell hw (by (repeat (first | with_reducible exact Pick.here _ | apply Pick.there)); first | done | fail) (by first | rfl | assumption) | exact old_cell hw (by (repeat (first | with_reducible exact Pick.here _ | apply Pick.there)); first | done | fail) (by assumption) | assumption) (v_load T.scal_9 rfl) ?_
    refine rl_k rfl (k_callf Try.func54 rfl rfl rfl rfl ?_)
    refine Calls.mono (rset_calls d q s pw slot str hok (hw.sub (by (repeat (first | with_reducible exact Sub.refl _ | exact Sub.nil _ | (apply Sub.cons; focus ((repeat (first | with_reducible exact Pick.here _ | apply Pick.there)); (first | done | fail))) | with_reducible apply Sub.drop)); first | done | fail))) ?_
    rintro _ w ⟨rfl, hw⟩
    refine ⟨_, rfl, ?_⟩
    first | (refine rl_v rfl rfl rfl (S := fun _ => True) trivial (v_eqlT rfl rfl (by first | omega | rfl)) ?_) | (refine rl_v rfl rfl rfl (S := fun _ => True) trivial (v_eqlF rfl rfl (by omega)) ?_) | (refine rl_v rfl rfl rfl (S := fun _ => True) trivial (v_eql rfl rfl) ?_)
    refine rl_v rfl rfl rfl (S := fun _ => True) trivial (v_assign rfl) ?_
    refine rl_nil (g_le (Fr.le_keep (Fr.le_skip rfl (Fr.le_skip rfl (Fr.le_skip rfl (Fr.le_skip rfl (Fr.le_skip rfl (Fr.le_skip rfl (Fr.le_skip rfl (Fr.le_skip rfl (Fr.le_refl _)))))))))) ?_)
    refine g_ret1 Try.func35 rfl rfl ?_
    exact ⟨_, _, rfl, Cs.ok_set hok, hw.sub (by (repeat (first | with_reducible exact Sub.refl _ | exact Sub.nil _ | (apply Sub.cons; focus ((repeat (first | with_reducible exact Pick.here _ | apply Pick.there)); (first | done | fail))) | with_reducible apply Sub.drop)); first | done | fail)⟩
  repeat (first | refine g_seq ?_ | refine g_skip ?_ | refine g_inBlock ?_ | refine g_block ?_ | refine g_label ?_)
  refine g_region ?_
  first | (refine rl_v rfl rfl rfl (S := fun _ => True) trivial (v_eqlT rfl rfl (by first | omega | rfl)) ?_) | (refine rl_v rfl rfl rfl (S := fun _ => True) trivial (v_eqlF rfl rfl (by omega)) ?_) | (refine rl_v rfl rfl rfl (S := fun _ => True) trivial (v_eql rfl rfl) ?_)
  refine rl_v rfl rfl rfl (S := fun _ => True) trivial (v_assign rfl) ?_
  refine rl_nil (g_le (Fr.le_keep (Fr.le_skip rfl (Fr.le_refl _))) ?_)
  repeat (first | refine g_seq ?_ | refine g_skip ?_ | refine g_inBlock ?_ | refine g_block ?_ | refine g_label ?_)
  refine g_cond_dec rfl (fun h2 => ?_) (fun h2 => ?_)
  · repeat (first | refine g_seq ?_ | refine g_skip ?_ | refine g_inBlock ?_ | refine g_block ?_ | refine g_label ?_)
    refine g_region ?_
    refine rl_v rfl rfl rfl (S := fun _ => True) trivial (v_move rfl) ?_
    first | (refine rl_v rfl rfl rfl (S := fun _ => True) trivial (v_fieldAddr0 T.fld_69_2_2 rfl) ?_) | (refine rl_v rfl rfl rfl (S := fun _ => True) trivial (v_fieldAddr T.fld_69_2_2 rfl) ?_)
    refine rl_v rfl rfl rfl (by first | exact sat_cell hw (by (repeat (first | with_reducible exact Pick.here _ | apply Pick.there)); first | done | fail) rfl | exact own_cell hw (by (repeat (first | with_reducible exact Pick.here _ | apply Pick.there)); first | done | fail) (by first | rfl | assumption) | exact old_cell hw (by (repeat (first | with_reducible exact Pick.here _ | apply Pick.there)); first | done | fail) (by assumption) | assumption) (v_load T.scal_3 rfl) ?_
    refine rl_k rfl (k_callf Try.func36 rfl rfl rfl rfl ?_)
    refine Calls.mono (erase_calls c p s pw slot hok (hw.sub (by (repeat (first | with_reducible exact Sub.refl _ | exact Sub.nil _ | (apply Sub.cons; focus ((repeat (first | with_reducible exact Pick.here _ | apply Pick.there)); (first | done | fail))) | with_reducible apply Sub.drop)); first | done | fail))) ?_
    rintro _ w ⟨rfl, hw⟩
    refine ⟨_, rfl, ?_⟩
    refine rl_v rfl rfl rfl (S := fun _ => True) trivial (v_assign rfl) ?_
    refine rl_nil (g_le (Fr.le_keep (Fr.le_skip rfl (Fr.le_skip rfl (Fr.le_skip rfl (Fr.le_skip rfl (Fr.le_refl _)))))) ?_)
    repeat (first | refine g_seq ?_ | refine g_skip ?_ | refine g_inBlock ?_ | refine g_block ?_ | refine g_label ?_)
    refine g_region ?_
    refine rl_v rfl rfl rfl (S := fun _ => True) trivial (v_move rfl) ?_
    refine rl_v rfl rfl rfl (S := fun _ => True) trivial (v_move rfl) ?_
    first | (refine rl_v rfl rfl rfl (S := fun _ => True) trivial (v_fieldAddr0 T.fld_69_2_2 rfl) ?_) | (refine rl_v rfl rfl rfl (S := fun _ => True) trivial (v_fieldAddr T.fld_69_2_2 rfl) ?_)
    refine rl_v rfl rfl rfl (by first | exact sat_cell hw (by (repeat (first | with_reducible exact Pick.here _ | apply Pick.there)); first | done | fail) rfl | exact own_cell hw (by (repeat (first | with_reducible exact Pick.here _ | apply Pick.there)); first | done | fail) (by first | rfl | assumption) | exact old_cell hw (by (repeat (first | with_reducible exact Pick.here _ | apply Pick.there)); first | done | fail) (by assumption) | assumption) (v_load T.scal_3 rfl) ?_
    refine rl_k rfl (k_callf Try.func55 rfl rfl rfl rfl ?_)
    refine Calls.mono (rerase_calls d q s pw slot hok (hw.sub (by (repeat (first | with_reducible exact Sub.refl _ | exact Sub.nil _ | (apply Sub.cons; focus ((repeat (first | with_reducible exact Pick.here _ | apply Pick.there)); (first | done | fail))) | with_reducible apply Sub.drop)); first | done | fail))) ?_
    rintro _ w ⟨rfl, hw⟩
    refine ⟨_, rfl, ?_⟩
    first | (refine rl_v rfl rfl rfl (S := fun _ => True) trivial (v_eqlT rfl rfl (by first | omega | rfl)) ?_) | (refine rl_v rfl rfl rfl (S := fun _ => True) trivial (v_eqlF rfl rfl (by omega)) ?_) | (refine rl_v rfl rfl rfl (S := fun _ => True) trivial (v_eql rfl rfl) ?_)
    refine rl_v rfl rfl rfl (S := fun _ => True) trivial (v_assign rfl) ?_
    refine rl_nil (g_le (Fr.le_keep (Fr.le_skip rfl (Fr.le_skip rfl (Fr.le_skip rfl (Fr.le_skip rfl (Fr.le_skip rfl (Fr.le_skip rfl (Fr.le_refl _)))))))) ?_)
    refine g_ret1 Try.func35 rfl rfl ?_
    exact ⟨_, _, rfl, Cs.ok_erase hok, hw.sub (by (repeat (first | with_reducible exact Sub.refl _ | exact Sub.nil _ | (apply Sub.cons; focus ((repeat (first | with_reducible exact Pick.here _ | apply Pick.there)); (first | done | fail))) | with_reducible apply Sub.drop)); first | done | fail)⟩
  repeat (first | refine g_seq ?_ | refine g_skip ?_ | refine g_inBlock ?_ | refine g_block ?_ | refine g_label ?_)
  refine g_region ?_
  first | (refine rl_v rfl rfl rfl (S := fun _ => True) trivial (v_eqlT rfl rfl (by first | omega | rfl)) ?_) | (refine rl_v rfl rfl rfl (S := fun _ => True) trivial (v_eqlF rfl rfl (by omega)) ?_) | (refine rl_v rfl rfl rfl (S := fun _ => True) trivial (v_eql rfl rfl) ?_)
  refine rl_v rfl rfl rfl (S := fun _ => True) trivial (v_assign rfl) ?_
  refine rl_nil (g_le (Fr.le_keep (Fr.le_skip rfl (Fr.le_refl _))) ?_)
  repeat (first | refine g_seq ?_ | refine g_skip ?_ | refine g_inBlock ?_ | refine g_block ?_ | refine g_label ?_)
  refine g_cond_dec rfl (fun h3 => ?_) (fun h3 => ?_)
  · repeat (first | refine g_seq ?_ | refine g_skip ?_ | refine g_inBlock ?_ | refine g_block ?_ | refine g_label ?_)
    refine g_region ?_
    refine rl_v rfl rfl rfl (S := fun _ => True) trivial (v_move rfl) ?_
    first | (refine rl_v rfl rfl rfl (S := fun _ => True) trivial (v_fieldAddr0 T.fld_69_2_2 rfl) ?_) | (refine rl_v rfl rfl rfl (S := fun _ => True) trivial (v_fieldAddr T.fld_69_2_2 rfl) ?_)
    refine rl_v rfl rfl rfl (by first | exact sat_cell hw (by (repeat (first | with_reducible exact Pick.here _ | apply Pick.there)); first | done | fail) rfl | exact own_cell hw (by (repeat (first | with_reducible exact Pick.here _ | apply Pick.there)); first | done | fail) (by first | rfl | assumption) | exact old_cell hw (by (repeat (first | with_reducible exact Pick.here _ | apply Pick.there)); first | done | fail) (by assumption) | assumption) (v_load T.scal_3 rfl) ?_
    refine rl_k rfl (k_callf Try.func39 rfl rfl rfl rfl ?_)
    refine Calls.mono (get_calls c p s slot (hw.sub (by (repeat (first | with_reducible exact Sub.refl _ | exact Sub.nil _ | (apply Sub.cons; focus ((repeat (first | with_reducible exact Pick.here _ | apply Pick.there)); (first | done | fail))) | with_reducible apply Sub.drop)); first | done | fail))) ?_
    rintro _ w ⟨rfl, hw⟩
    refine ⟨_, rfl, ?_⟩
    refine rl_v rfl rfl rfl (S := fun _ => True) trivial (v_move rfl) ?_
    refine rl_v rfl rfl rfl (S := fun _ => True) trivial (v_extract rfl rfl) ?_
    refine rl_v rfl rfl rfl (S := fun _ => True) trivial (v_extract rfl rfl) ?_
    refine rl_v rfl rfl rfl (S := fun _ => True) trivial (v_assign rfl) ?_
    refine rl_v rfl rfl rfl (S := fun _ => True) trivial (v_assign rfl) ?_
    refine rl_nil (g_le (Fr.le_keep (Fr.le_keep (Fr.le_skip rfl (Fr.le_skip rfl (Fr.le_skip rfl (Fr.le_skip rfl (Fr.le_skip rfl (Fr.le_skip rfl (Fr.le_skip rfl (Fr.le_refl _)))))))))) ?_)
    repeat (first | refine g_seq ?_ | refine g_skip ?_ | refine g_inBlock ?_ | refine g_block ?_ | refine g_label ?_)
    refine g_region ?_
    refine rl_v rfl rfl rfl (S := fun _ => True) trivial (v_move rfl) ?_
    first | (refine rl_v rfl rfl rfl (S := fun _ => True) trivial (v_fieldAddr0 T.fld_69_2_2 rfl) ?_) | (refine rl_v rfl rfl rfl (S := fun _ => True) trivial (v_fieldAddr T.fld_69_2_2 rfl) ?_)
    refine rl_v rfl rfl rfl (by first | exact sat_cell hw (by (repeat (first | with_reducible exact Pick.here _ | apply Pick.there)); first | done | fail) rfl | exact own_cell hw (by (repeat (first | with_reducible exact Pick.here _ | apply Pick.there)); first | done | fail) (by first | rfl | assumption) | exact old_cell hw (by (repeat (first | with_reducible exact Pick.here _ | apply Pick.there)); first | done | fail) (by assumption) | assumption) (v_load T.scal_3 rfl) ?_
    refine rl_k rfl (k_callf Try.func56 rfl rfl rfl rfl ?_)
    refine Calls.mono (rget_calls d q s slot (hw.sub (by (repeat (first | with_reducible exact Sub.refl _ | exact Sub.nil _ | (apply Sub.cons; focus ((repeat (first | with_reducible exact Pick.here _ | apply Pick.there)); (first | done | fail))) | with_reducible apply Sub.drop)); first | done | fail))) ?_
    rintro _ w ⟨rfl, hw⟩
    refine ⟨_, rfl, ?_⟩
    refine rl_v rfl rfl rfl (S := fun _ => True) trivial (v_move rfl) ?_
    refine rl_v rfl rfl rfl (S := fun _ => True) trivial (v_extract rfl rfl) ?_
    refine rl_v rfl rfl rfl (S := fun _ => True) trivial (v_extract rfl rfl) ?_
    refine rl_v rfl rfl rfl (S := fun _ => True) trivial (v_assign rfl) ?_
    refine rl_v rfl rfl rfl (S := fun _ => True) trivial (v_assign rfl) ?_
    refine rl_nil (g_le (Fr.le_keep (Fr.le_keep (Fr.le_skip rfl (Fr.le_skip rfl (Fr.le_skip rfl (Fr.le_skip rfl (Fr.le_skip rfl (Fr.le_skip rfl (Fr.le_skip rfl (Fr.le_refl _)))))))))) ?_)
    repeat (first | refine g_seq ?_ | refine g_skip ?_ | refine g_inBlock ?_ | refine g_block ?_ | refine g_label ?_)
    refine g_region ?_
    refine rl_v rfl rfl rfl (S := fun _ => True) trivial (v_move rfl) ?_
    refine rl_v rfl rfl rfl (S := fun _ => True) trivial (v_move rfl) ?_
    first | (refine rl_v rfl rfl rfl (S := fun _ => True) trivial (v_eqlStrT rfl rfl (by first | rfl | assumption)) ?_) | (refine rl_v rfl rfl rfl (S := fun _ => True) trivial (v_eqlStrF rfl rfl (by first | assumption | decide)) ?_) | (refine rl_v rfl rfl rfl (S := fun _ => True) trivial (v_eqlStr rfl rfl) ?_)
    refine rl_v rfl rfl rfl (S := fun _ => True) trivial (v_move rfl) ?_
    first | (refine rl_vg (met_on rfl rfl rfl rfl) rfl rfl (S := fun _ => True) trivial (v_move rfl) ?_) | (refine rl_off (by first | exact met_off rfl rfl rfl rfl rfl | exact met_gone rfl rfl rfl rfl) rfl rfl ?_)
    first | (refine rl_vg (met_on rfl rfl rfl rfl) rfl rfl (S := fun _ => True) trivial (v_move rfl) ?_) | (refine rl_off (by first | exact met_off rfl rfl rfl rfl rfl | exact met_gone rfl rfl rfl rfl) rfl rfl ?_)
    first | (refine rl_vg (met_on rfl rfl rfl rfl) rfl rfl (S := fun _ => True) trivial (v_eqlBoolT T.bool_4 rfl rfl (by first | rfl | assumption)) ?_) | (refine rl_vg (met_on rfl rfl rfl rfl) rfl rfl (S := fun _ => True) trivial (v_eqlBool T.bool_4 rfl rfl) ?_) | (refine rl_off (by first | exact met_off rfl rfl rfl rfl rfl | exact met_gone rfl rfl rfl rfl) rfl rfl ?_)
    first | (refine rl_v rfl rfl rfl (S := fun _ => True) trivial (v_pick_true rfl rfl) ?_) | (refine rl_v rfl rfl rfl (S := fun _ => True) trivial (v_pick_false rfl rfl) ?_) | (refine rl_v rfl rfl rfl (S := fun _ => True) trivial (v_pick rfl rfl rfl) ?_)
    refine rl_v rfl rfl rfl (S := fun _ => True) trivial (v_assign rfl) ?_
    refine rl_nil (g_le (Fr.le_keep (Fr.le_skip rfl (Fr.le_skip rfl (Fr.le_skip rfl (Fr.le_skip rfl (Fr.le_skip rfl (Fr.le_skip rfl (Fr.le_skip rfl (Fr.le_skip rfl (Fr.le_refl _)))))))))) ?_)
    refine g_ret1 Try.func35 rfl rfl ?_
    exact ⟨s, pw, rfl, hok, hw.sub (by (repeat (first | with_reducible exact Sub.refl _ | exact Sub.nil _ | (apply Sub.cons; focus ((repeat (first | with_reducible exact Pick.here _ | apply Pick.there)); (first | done | fail))) | with_reducible apply Sub.drop)); first | done | fail)⟩
  repeat (first | refine g_seq ?_ | refine g_skip ?_ | refine g_inBlock ?_ | refine g_block ?_ | refine g_label ?_)
  refine g_region ?_
  first | (refine rl_v rfl rfl rfl (S := fun _ => True) trivial (v_eqlT rfl rfl (by first | omega | rfl)) ?_) | (refine rl_v rfl rfl rfl (S := fun _ => True) trivial (v_eqlF rfl rfl (by omega)) ?_) | (refine rl_v rfl rfl rfl (S := fun _ => True) trivial (v_eql rfl rfl) ?_)
  refine rl_v rfl rfl rfl (S := fun _ => True) trivial (v_assign rfl) ?_
  refine rl_nil (g_le (Fr.le_keep (Fr.le_skip rfl (Fr.le_refl _))) ?_)
  repeat (first | refine g_seq ?_ | refine g_skip ?_ | refine g_inBlock ?_ | refine g_block ?_ | refine g_label ?_)
  refine g_cond_dec rfl (fun h4 => ?_) (fun h4 => ?_)
  · repeat (first | refine g_seq ?_ | refine g_skip ?_ | refine g_inBlock ?_ | refine g_block ?_ | refine g_label ?_)
    refine g_draw [6] T.mixed rfl hw (fun w hw => ?_)
    refine ra_a 0 rfl rfl rfl rfl (by kernel_rfl) (v_move rfl) ?_
    refine ra_a 1 rfl rfl rfl rfl (by kernel_rfl) (v_nilCheck rfl) ?_
    first | (refine ra_a 2 rfl rfl rfl rfl (by kernel_rfl) (v_fieldAddr0 T.fld_72_0_0 rfl) ?_) | (refine ra_a 2 rfl rfl rfl rfl (by kernel_rfl) (v_fieldAddr T.fld_72_0_0 rfl) ?_)
    refine ra_v 3 rfl rfl rfl rfl (by kernel_rfl) (OpV.mono (v_load T.scal_24 rfl) (fun w hw => by first | exact sat_cell hw (by (repeat (first | with_reducible exact Pick.here _ | apply Pick.there)); first | done | fail) rfl | exact own_cell hw (by (repeat (first | with_reducible exact Pick.here _ | apply Pick.there)); first | done | fail) (by first | rfl | assumption) | exact old_cell hw (by (repeat (first | with_reducible exact Pick.here _ | apply Pick.there)); first | done | fail) (by assumption) | assumption)) (by first | exact hw | exact Sat.sub hw (by (repeat (first | with_reducible exact Sub.refl _ | exact Sub.nil _ | (apply Sub.cons; focus ((repeat (first | with_reducible exact Pick.here _ | apply Pick.there)); (first | done | fail))) | with_reducible apply Sub.drop)); first | done | fail)) ?_
    first | (refine ra_a 4 rfl rfl rfl rfl (by kernel_rfl) (v_fieldAddr0 T.fld_69_2_2 rfl) ?_) | (refine ra_a 4 rfl rfl rfl rfl (by kernel_rfl) (v_fieldAddr T.fld_69_2_2 rfl) ?_)
    refine ra_v 5 rfl rfl rfl rfl (by kernel_rfl) (OpV.mono (v_load T.scal_3 rfl) (fun w hw => by first | exact sat_cell hw (by (repeat (first | with_reducible exact Pick.here _ | apply Pick.there)); first | done | fail) rfl | exact own_cell hw (by (repeat (first | with_reducible exact Pick.here _ | apply Pick.there)); first | done | fail) (by first | rfl | assumption) | exact old_cell hw (by (repeat (first | with_reducible exact Pick.here _ | apply Pick.there)); first | done | fail) (by assumption) | assumption)) (by first | exact hw | exact Sat.sub hw (by (repeat (first | with_reducible exact Sub.refl _ | exact Sub.nil _ | (apply Sub.cons; focus ((repeat (first | with_reducible exact Pick.here _ | apply Pick.there)); (first | done | fail))) | with_reducible apply Sub.drop)); first | done | fail)) ?_
    refine ra_k 6 rfl rfl (by kernel_rfl) (k_callf Try.func19 rfl rfl rfl rfl ?_)
    refine Calls.mono (cut_calls p pw slot (hw.sub (by (repeat (first | with_reducible exact Sub.refl _ | exact Sub.nil _ | (apply Sub.cons; focus ((repeat (first | with_reducible exact Pick.here _ | apply Pick.there)); (first | done | fail))) | with_reducible apply Sub.drop)); first | done | fail))) ?_
    rintro _ w ⟨rfl, hw⟩
    refine ⟨_, rfl, ?_⟩
    refine ⟨fun hn => absurd (by decide) hn, ?_⟩
    refine ra_done (by kernel_rfl) (g_le (Fr.le_skip rfl (Fr.le_skip rfl (Fr.le_skip rfl (Fr.le_skip rfl (Fr.le_skip rfl (Fr.le_skip rfl (Fr.le_skip rfl (Fr.le_refl _)))))))) ?_)
    repeat (first | refine g_seq ?_ | refine g_skip ?_ | refine g_inBlock ?_ | refine g_block ?_ | refine g_label ?_)
    refine g_draw [6] T.mixed rfl hw (fun w hw => ?_)
    refine ra_a 0 rfl rfl rfl rfl (by kernel_rfl) (v_move rfl) ?_
    refine ra_a 1 rfl rfl rfl rfl (by kernel_rfl) (v_nilCheck rfl) ?_
    first | (refine ra_a 2 rfl rfl rfl rfl (by kernel_rfl) (v_fieldAddr0 T.fld_97_0_0 rfl) ?_) | (refine ra_a 2 rfl rfl rfl rfl (by kernel_rfl) (v_fieldAddr T.fld_97_0_0 rfl) ?_)
    refine ra_v 3 rfl rfl rfl rfl (by kernel_rfl) (OpV.mono (v_load T.scal_26 rfl) (fun w hw => by first | exact sat_cell hw (by (repeat (first | with_reducible exact Pick.here _ | apply Pick.there)); first | done | fail) rfl | exact own_cell hw (by (repeat (first | with_reducible exact Pick.here _ | apply Pick.there)); first | done | fail) (by first | rfl | assumption) | exact old_cell hw (by (repeat (first | with_reducible exact Pick.here _ | apply Pick.there)); first | done | fail) (by assumption) | assumption)) (by first | exact hw | exact Sat.sub hw (by (repeat (first | with_reducible exact Sub.refl _ | exact Sub.nil _ | (apply Sub.cons; focus ((repeat (first | with_reducible exact Pick.here _ | apply Pick.there)); (first | done | fail))) | with_reducible apply Sub.drop)); first | done | fail)) ?_
    first | (refine ra_a 4 rfl rfl rfl rfl (by kernel_rfl) (v_fieldAddr0 T.fld_69_2_2 rfl) ?_) | (refine ra_a 4 rfl rfl rfl rfl (by kernel_rfl) (v_fieldAddr T.fld_69_2_2 rfl) ?_)
    refine ra_v 5 rfl rfl rfl rfl (by kernel_rfl) (OpV.mono (v_load T.scal_3 rfl) (fun w hw => by first | exact sat_cell hw (by (repeat (first | with_reducible exact Pick.here _ | apply Pick.there)); first | done | fail) rfl | exact own_cell hw (by (repeat (first | with_reducible exact Pick.here _ | apply Pick.there)); first | done | fail) (by first | rfl | assumption) | exact old_cell hw (by (repeat (first | with_reducible exact Pick.here _ | apply Pick.there)); first | done | fail) (by assumption) | assumption)) (by first | exact hw | exact Sat.sub hw (by (repeat (first | with_reducible exact Sub.refl _ | exact Sub.nil _ | (apply Sub.cons; focus ((repeat (first | with_reducible exact Pick.here _ | apply Pick.there)); (first | done | fail))) | with_reducible apply Sub.drop)); first | done | fail)) ?_
    refine ra_k 6 rfl rfl (by kernel_rfl) (k_callf Try.func44 rfl rfl rfl rfl ?_)
    refine Calls.mono (rcut_calls q pw slot (fun _ => hok.1) (hw.sub (by (repeat (first | with_reducible exact Sub.refl _ | exact Sub.nil _ | (apply Sub.cons; focus ((repeat (first | with_reducible exact Pick.here _ | apply Pick.there)); (first | done | fail))) | with_reducible apply Sub.drop)); first | done | fail))) ?_
    rintro _ w ⟨rfl, hw⟩
    refine ⟨_, rfl, ?_⟩
    refine ⟨fun hn => absurd (by decide) hn, ?_⟩
    refine ra_done (by kernel_rfl) (g_le (Fr.le_skip rfl (Fr.le_skip rfl (Fr.le_skip rfl (Fr.le_skip rfl (Fr.le_skip rfl (Fr.le_skip rfl (Fr.le_skip rfl (Fr.le_refl _)))))))) ?_)
    repeat (first | refine g_seq ?_ | refine g_skip ?_ | refine g_inBlock ?_ | refine g_block ?_ | refine g_label ?_)
    refine g_region ?_
    refine rl_v rfl rfl rfl (S := fun _ => True) trivial (v_assign rfl) ?_
    refine rl_nil (g_le (Fr.le_keep (Fr.le_refl _)) ?_)
    refine g_ret1 Try.func35 rfl rfl ?_
    exact ⟨s, pw.cut slot, rfl, Pw.ok_cut hok _, hw.sub (by (repeat (first | with_reducible exact Sub.refl _ | exact Sub.nil _ | (apply Sub.cons; focus ((repeat (first | with_reducible exact Pick.here _ | apply Pick.there)); (first | done | fail))) | with_reducible apply Sub.drop)); first | done | fail)⟩
  repeat (first | refine g_seq ?_ | refine g_skip ?_ | refine g_inBlock ?_ | refine g_block ?_ | refine g_label ?_)
  refine g_region ?_
  first | (refine rl_v rfl rfl rfl (S := fun _ => True) trivial (v_eqlT rfl rfl (by first | omega | rfl)) ?_) | (refine rl_v rfl rfl rfl (S := fun _ => True) trivial (v_eqlF rfl rfl (by omega)) ?_) | (refine rl_v rfl rfl rfl (S := fun _ => True) trivial (v_eql rfl rfl) ?_)
  refine rl_v rfl rfl rfl (S := fun _ => True) trivial (v_assign rfl) ?_
  refine rl_nil (g_le (Fr.le_keep (Fr.le_skip rfl (Fr.le_refl _))) ?_)
  repeat (first | refine g_seq ?_ | refine g_skip ?_ | refine g_inBlock ?_ | refine g_block ?_ | refine g_label ?_)
  refine g_cond_dec rfl (fun h5 => ?_) (fun h5 => ?_)
  · repeat (first | refine g_seq ?_ | refine g_skip ?_ | refine g_inBlock ?_ | refine g_block ?_ | refine g_label ?_)
    refine g_region ?_
    refine rl_v rfl rfl rfl (S := fun _ => True) trivial (v_move rfl) ?_
    refine rl_v rfl rfl rfl (S := fun _ => True) trivial (v_nilCheck rfl) ?_
    first | (refine rl_v rfl rfl rfl (S := fun _ => True) trivial (v_fieldAddr0 T.fld_72_0_0 rfl) ?_) | (refine rl_v rfl rfl rfl (S := fun _ => True) trivial (v_fieldAddr T.fld_72_0_0 rfl) ?_)
    refine rl_v rfl rfl rfl (by first | exact sat_cell hw (by (repeat (first | with_reducible exact Pick.here _ | apply Pick.there)); first | done | fail) rfl | exact own_cell hw (by (repeat (first | with_reducible exact Pick.here _ | apply Pick.there)); first | done | fail) (by first | rfl | assumption) | exact old_cell hw (by (repeat (first | with_reducible exact Pick.here _ | apply Pick.there)); first | done | fail) (by assumption) | assumption) (v_load T.scal_24 rfl) ?_
    refine rl_k rfl (k_callf Try.func16 rfl rfl rfl rfl ?_)
    refine Calls.mono (restore_calls p pw (hw.sub (by (repeat (first | with_reducible exact Sub.refl _ | exact Sub.nil _ | (apply Sub.cons; focus ((repeat (first | with_reducible exact Pick.here _ | apply Pick.there)); (first | done | fail))) | with_reducible apply Sub.drop)); first | done | fail))) ?_
    rintro _ w ⟨rfl, hw⟩
    refine ⟨_, rfl, ?_⟩
    refine rl_nil (g_le (Fr.le_skip rfl (Fr.le_skip rfl (Fr.le_skip rfl (Fr.le_skip rfl (Fr.le_skip rfl (Fr.le_refl _)))))) ?_)
    repeat (first | refine g_seq ?_ | refine g_skip ?_ | refine g_inBlock ?_ | refine g_block ?_ | refine g_label ?_)
    refine g_region ?_
    refine rl_v rfl rfl rfl (S := fun _ => True) trivial (v_move rfl) ?_
    refine rl_v rfl rfl rfl (S := fun _ => True) trivial (v_nilCheck rfl) ?_
    first | (refine rl_v rfl rfl rfl (S := fun _ => True) trivial (v_fieldAddr0 T.fld_97_0_0 rfl) ?_) | (refine rl_v rfl rfl rfl (S := fun _ => True) trivial (v_fieldAddr T.fld_97_0_0 rfl) ?_)
    refine rl_v rfl rfl rfl (by first | exact sat_cell hw (by (repeat (first | with_reducible exact Pick.here _ | apply Pick.there)); first | done | fail) rfl | exact own_cell hw (by (repeat (first | with_reducible exact Pick.here _ | apply Pick.there)); first | done | fail) (by first | rfl | assumption) | exact old_cell hw (by (repeat (first | with_reducible exact Pick.here _ | apply Pick.there)); first | done | fail) (by assumption) | assumption) (v_load T.scal_26 rfl) ?_
    refine rl_k rfl (k_callf Try.func45 rfl rfl rfl rfl ?_)
    refine Calls.mono (rrestore_calls q pw (hw.sub (by (repeat (first | with_reducible exact Sub.refl _ | exact Sub.nil _ | (apply Sub.cons; focus ((repeat (first | with_reducible exact Pick.here _ | apply Pick.there)); (first | done | fail))) | with_reducible apply Sub.drop)); first | done | fail))) ?_
    rintro _ w ⟨rfl, hw⟩
    refine ⟨_, rfl, ?_⟩
    refine rl_nil (g_le (Fr.le_skip rfl (Fr.le_skip rfl (Fr.le_skip rfl (Fr.le_skip rfl (Fr.le_skip rfl (Fr.le_refl _)))))) ?_)
    repeat (first | refine g_seq ?_ | refine g_skip ?_ | refine g_inBlock ?_ | refine g_block ?_ | refine g_label ?_)
    refine g_region ?_
    refine rl_v rfl rfl rfl (S := fun _ => True) trivial (v_assign rfl) ?_
    refine rl_nil (g_le (Fr.le_keep (Fr.le_refl _)) ?_)
    refine g_ret1 Try.func35 rfl rfl ?_
    exact ⟨s, pw.restore, rfl, Pw.ok_restore hok, hw.sub (by (repeat (first | with_reducible exact Sub.refl _ | exact Sub.nil _ | (apply Sub.cons; focus ((repeat (first | with_reducible exact Pick.here _ | apply Pick.there)); (first | done | fail))) | with_reducible apply Sub.drop)); first | done | fail)⟩
  · repeat (first | refine g_seq ?_ | refine g_skip ?_ | refine g_inBlock ?_ | refine g_block ?_ | refine g_label ?_)
    refine g_region ?_
    refine rl_v rfl rfl rfl (S := fun _ => True) trivial (v_assign rfl) ?_
    refine rl_nil (g_le (Fr.le_keep (Fr.le_refl _)) ?_)
    refine g_ret1 Try.func35 rfl rfl ?_
    exact ⟨s, pw, rfl, hok, hw.sub (by (repeat (first | with_reducible exact Sub.refl _ | exact Sub.nil _ | (apply Sub.cons; focus ((repeat (first | with_reducible exact Pick.here _ | apply Pick.there)); (first | done | fail))) | with_reducible apply Sub.drop)); first | done | fail)⟩

end Go.Proofs.Ytdebodbkggbjeaa
