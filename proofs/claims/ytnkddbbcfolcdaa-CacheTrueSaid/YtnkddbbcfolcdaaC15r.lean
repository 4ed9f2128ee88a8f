/-
  The cache's reference (layer 15).
-/
import Derived.Test.YtnkddbbcfolcdaaC15f
namespace Go.Proofs.Ytnkddbbcfolcdaa
set_option linter.unusedSimpArgs false
set_option linter.unusedVariables false
open Go Xe
theorem rnew15_calls {E : Env} {w : World} {L : List As} (room : Int) (hw : Sat E w L) :
    Calls Try.prog 26 #[.int .i64 room] w fun e w' => ∃ c, e = .returned (.tuple #[.pointer (some ⟨c, 0, none⟩), .bool (decide (0 ≤ room ∧ room ≤ 32))]) ∧ Sat E w' (pt c (.cells [Value.int .i64 (⟨room, [], 0, 0⟩ : Ch).room, (.slice none 0 0), .int .i64 (⟨room, [], 0, 0⟩ : Ch).hits, .int .i64 (⟨room, [], 0, 0⟩ : Ch).misses].toArray 67 (0, 0)) :: OwnSl 42 8 (.slice none 0 0) (⟨room, [], 0, 0⟩ : Ch).l.length [] :: L) := by
  refine calls_of_g (n := 13) Try.func26 rfl rfl rfl ?_
  change G _ _ _ _ _ [(0, _)] _
  refine g_seq ?_
  refine g_region ?_
  refine rl_v rfl rfl rfl (S := fun _ => True) trivial (v_assign rfl) ?_
  refine rl_v rfl rfl rfl (S := fun _ => True) trivial (v_assign rfl) ?_
  refine rl_nil (g_le (Fr.le_keep (Fr.le_keep (Fr.le_refl _))) ?_)
  refine g_seq ?_
  refine g_region ?_
  refine rl_v rfl rfl rfl (S := fun _ => True) trivial (v_move rfl) ?_
  refine rl_v rfl rfl rfl (S := fun _ => True) trivial (v_build rfl (T.build_67_0 ..)) ?_
  refine rl_k rfl (k_box hw rfl rfl rfl (fun bk1_2 w hw => ?_))
  refine rl_v rfl rfl rfl (S := fun _ => True) trivial (v_move rfl) ?_
  first | (refine rl_v rfl rfl rfl (S := fun _ => True) trivial (v_geqT rfl rfl (by omega)) ?_) | (refine rl_v rfl rfl rfl (S := fun _ => True) trivial (v_geqF rfl rfl (by omega)) ?_) | (refine rl_v rfl rfl rfl (S := fun _ => True) trivial (v_geq rfl rfl) ?_)
  refine rl_v rfl rfl rfl (S := fun _ => True) trivial (v_move rfl) ?_
  refine rl_split (s := 9) rfl (fun g1_5 => ?_) (fun g1_5 => ?_)
  · try with_reducible exact ft_elim g1_5
    all_goals
      try replace g1_5 := of_decide_eq_true g1_5
      refine rl_vg (met_on rfl rfl rfl rfl) rfl rfl (S := fun _ => True) trivial (v_move rfl) ?_
      first | (refine rl_vg (met_on rfl rfl rfl rfl) rfl rfl (S := fun _ => True) trivial (v_leqT rfl rfl (by omega)) ?_) | (refine rl_vg (met_on rfl rfl rfl rfl) rfl rfl (S := fun _ => True) trivial (v_leqF rfl rfl (by omega)) ?_) | (refine rl_vg (met_on rfl rfl rfl rfl) rfl rfl (S := fun _ => True) trivial (v_leq rfl rfl) ?_)
      first | (refine rl_v rfl rfl rfl (S := fun _ => True) trivial (v_pick_true rfl rfl) ?_) | (refine rl_v rfl rfl rfl (S := fun _ => True) trivial (v_pick_false rfl rfl) ?_) | (refine rl_v rfl rfl rfl (S := fun _ => True) trivial (v_pick rfl rfl rfl) ?_)
      refine rl_v rfl rfl rfl (S := fun _ => True) trivial (v_assign rfl) ?_
      refine rl_v rfl rfl rfl (S := fun _ => True) trivial (v_assign rfl) ?_
      refine rl_nil (g_le (Fr.le_keep (Fr.le_keep (Fr.le_skip rfl (Fr.le_skip rfl (Fr.le_skip rfl (Fr.le_skip rfl (Fr.le_skip rfl (Fr.le_skip rfl (Fr.le_skip rfl (Fr.le_skip rfl (Fr.le_skip rfl (Fr.le_skip rfl (Fr.le_refl _))))))))))))) ?_)
      refine g_ret2 Try.func26 rfl rfl rfl ?_
      refine ⟨bk1_2, ?_, ?_⟩
      · have e : decide (0 ≤ room ∧ room ≤ 32) = (decide (0 ≤ room) && decide (room ≤ 32)) := by simp
        rw [e]; simp [g1_5]
      · simp only [List.length_nil]
        exact (hw.own_nil 42 8).sub (by (repeat (first | with_reducible exact Sub.refl _ | exact Sub.nil _ | (apply Sub.cons; focus ((repeat (first | with_reducible exact Pick.here _ | apply Pick.there)); (first | done | fail))) | with_reducible apply Sub.drop)); first | done | fail)
  · try with_reducible exact tf_elim g1_5
    all_goals
      try replace g1_5 := of_decide_eq_false g1_5
      refine rl_off (met_off rfl rfl rfl rfl rfl) rfl rfl ?_
      refine rl_off (met_off rfl rfl rfl rfl rfl) rfl rfl ?_
      first | (refine rl_v rfl rfl rfl (S := fun _ => True) trivial (v_pick_true rfl rfl) ?_) | (refine rl_v rfl rfl rfl (S := fun _ => True) trivial (v_pick_false rfl rfl) ?_) | (refine rl_v rfl rfl rfl (S := fun _ => True) trivial (v_pick rfl rfl rfl) ?_)
      refine rl_v rfl rfl rfl (S := fun _ => True) trivial (v_assign rfl) ?_
      refine rl_v rfl rfl rfl (S := fun _ => True) trivial (v_assign rfl) ?_
      refine rl_nil (g_le (Fr.le_keep (Fr.le_keep (Fr.le_skip rfl (Fr.le_skip rfl (Fr.le_skip rfl (Fr.le_skip rfl (Fr.le_skip rfl (Fr.le_skip rfl (Fr.le_skip rfl (Fr.le_skip rfl (Fr.le_skip rfl (Fr.le_skip rfl (Fr.le_refl _))))))))))))) ?_)
      refine g_ret2 Try.func26 rfl rfl rfl ?_
      refine ⟨bk1_2, ?_, ?_⟩
      · have e : decide (0 ≤ room ∧ room ≤ 32) = (decide (0 ≤ room) && decide (room ≤ 32)) := by simp
        rw [e]; simp [g1_5]
      · simp only [List.length_nil]
        exact (hw.own_nil 42 8).sub (by (repeat (first | with_reducible exact Sub.refl _ | exact Sub.nil _ | (apply Sub.cons; focus ((repeat (first | with_reducible exact Pick.here _ | apply Pick.there)); (first | done | fail))) | with_reducible apply Sub.drop)); first | done | fail)
theorem ord_f41_r4_C15r : orderOfB Try.f41 4 [] (.a 0 (.a 1 (.a 2 (.a 4 (.v 3 (.a 5 (.a 6 (.v 7 (.k 8 (.k 9 .done)))))))))) = true := by kernel_rfl
theorem rat_calls {E : Env} {w : World} {L : List As} {g : Hp} {c : Nat} {s : Ch} {lv : Value} {cells : List Value} (r : Rf) (m : Int) (hm : s.pl r = m) (hels : Els rdHd 8 g cells s.l) (hb : s.l.length ≤ 100000) (hw : Sat E w (pt c (.cells [Value.int .i64 (s : Ch).room, lv, .int .i64 (s : Ch).hits, .int .i64 (s : Ch).misses].toArray 67 (0, 0)) :: OwnSl 42 8 lv (s : Ch).l.length cells :: RO g :: L)) :
    Calls Try.prog 41 #[.pointer (some ⟨c, 0, none⟩), .agg r.cells.toArray] w fun e w' => e = .returned (.int .i64 m) ∧ Sat E w' (pt c (.cells [Value.int .i64 (s : Ch).room, lv, .int .i64 (s : Ch).hits, .int .i64 (s : Ch).misses].toArray 67 (0, 0)) :: OwnSl 42 8 lv (s : Ch).l.length cells :: RO g :: L) := by
  obtain ⟨a, cc, rfl, _, _, ha⟩ := (hw.pick .at1).own_shape
  subst hm
  refine calls_of_g (n := 26) Try.func41 rfl rfl rfl ?_
  change G _ _ _ _ _ [(0, _), (1, _)] _
  refine g_seq ?_
  refine g_region ?_
  refine rl_k rfl (k_box hw rfl rfl rfl (fun bk0_0 w hw => ?_))
  refine rl_v rfl rfl rfl (S := fun _ => True) trivial (v_assign rfl) ?_
  refine rl_nil (g_le (Fr.le_keep (Fr.le_keep (Fr.le_refl _))) ?_)
  refine g_seq (g_seq ?_)
  refine g_region ?_
  refine rl_v rfl rfl rfl (S := fun _ => True) trivial (v_assign rfl) ?_
  refine rl_nil (g_le (Fr.le_keep (Fr.le_refl _)) ?_)
  refine g_block ?_
  refine g_loopC (σ := Int) (fun C x => (5, .int .i64 x) :: C) [(0, _), (3, _), (4, _)] (by repeat (first | exact Fr.le_nil _ | refine Fr.le_cons rfl ?_)) (fun z w => 0 ≤ z ∧ z ≤ s.l.length ∧ s.pl r = idx (fun h : Hd => decide (h.ref = r)) (s.l.drop z.toNat) z ∧ Sat E w (pt bk0_0 (.cells r.cells.toArray 34 (0, 0)) :: pt c (.cells [Value.int .i64 (s : Ch).room, (.slice a s.l.length cc), .int .i64 (s : Ch).hits, .int .i64 (s : Ch).misses].toArray 67 (0, 0)) :: OwnSl 42 8 (.slice a s.l.length cc) (s : Ch).l.length cells :: RO g :: L)) (fun z => (s.l.length - z).toNat) ?_ 0 (by repeat (first | exact Fr.le_nil _ | refine Fr.le_cons rfl ?_)) ⟨by omega, by omega, by simp [Ch.pl], hw⟩
  rintro i w ⟨hi0, hi1, heq, hw⟩ ih
  refine g_seq (g_seq ?_)
  refine g_region ?_
  refine rl_v rfl rfl rfl (S := fun _ => True) trivial (v_move rfl) ?_
  refine rl_v rfl rfl rfl (S := fun _ => True) trivial (v_move rfl) ?_
  refine rl_v rfl rfl rfl (S := fun _ => True) trivial (v_nilCheck rfl) ?_
  first | (refine rl_v rfl rfl rfl (S := fun _ => True) trivial (v_fieldAddr0 T.fld_67_1_1 rfl) ?_) | (refine rl_v rfl rfl rfl (S := fun _ => True) trivial (v_fieldAddr T.fld_67_1_1 rfl) ?_)
  refine rl_v rfl rfl rfl (by first | exact sat_cell hw (by (repeat (first | with_reducible exact Pick.here _ | apply Pick.there)); first | done | fail) rfl | exact own_cell hw (by (repeat (first | with_reducible exact Pick.here _ | apply Pick.there)); first | done | fail) (by first | rfl | assumption) | exact ro_at0 hw (by (repeat (first | with_reducible exact Pick.here _ | apply Pick.there)); first | done | fail) (by assumption) rfl | exact ro_at hw (by (repeat (first | with_reducible exact Pick.here _ | apply Pick.there)); first | done | fail) (by assumption) rfl | exact own_at0 hw (by (repeat (first | with_reducible exact Pick.here _ | apply Pick.there)); first | done | fail) (by assumption) rfl | exact own_at hw (by (repeat (first | with_reducible exact Pick.here _ | apply Pick.there)); first | done | fail) (by assumption) rfl | exact old_cell hw (by (repeat (first | with_reducible exact Pick.here _ | apply Pick.there)); first | done | fail) (by assumption) | assumption) (v_load T.scal_39 rfl) ?_
  refine rl_v rfl rfl rfl (S := fun _ => True) trivial (v_lenSlice T.sl_39_42_8 rfl) ?_
  first | (refine rl_v rfl rfl rfl (S := fun _ => True) trivial (v_lssT rfl rfl (by omega)) ?_) | (refine rl_v rfl rfl rfl (S := fun _ => True) trivial (v_lssF rfl rfl (by omega)) ?_) | (refine rl_v rfl rfl rfl (S := fun _ => True) trivial (v_lss rfl rfl) ?_)
  refine rl_nil (g_le (Fr.le_keep (Fr.le_keep (Fr.le_keep (Fr.le_keep (Fr.le_keep (Fr.le_keep (Fr.le_keep (Fr.le_refl _)))))))) ?_)
  refine g_cond rfl (fun h1 => ?_) (fun h1 => ?_)
  · try with_reducible exact ft_elim h1
    all_goals
      try replace h1 := of_decide_eq_true h1
      refine g_skip (g_seq (g_block (g_seq ?_)))
      have hz := hw
      clear hw
      obtain ⟨gb, rfl⟩ := ha (by omega)
      have hlt : i.toNat < s.l.length := by omega
      have hx : s.l[i.toNat]? = some s.l[i.toNat] := List.getElem?_eq_getElem hlt
      obtain ⟨ea, en, ec, ka, kn, kc, hsub, hrd, hnd, hok, hle⟩ := hd_cells hels hx
      have hsub4 : SubAt cells (0 + i.toNat * 8) s.l[i.toNat].ref.cells := ⟨hsub.1, hsub.2.1, hsub.2.2.1, hsub.2.2.2.1, trivial⟩
      rw [List.drop_eq_getElem_cons hlt] at heq
      simp only [idx] at heq
      have hw := hz
      refine g_drawR ord_f41_r4_C15r (by kernel_rfl) T.mixed hw (fun w hw => ?_)
      refine rs_a 0 rfl rfl rfl rfl (v_move rfl) ?_
      refine rs_a 1 rfl rfl rfl rfl (v_nilCheck rfl) ?_
      first | (refine rs_a 2 rfl rfl rfl rfl (v_fieldAddr0 T.fld_67_1_1 rfl) ?_) | (refine rs_a 2 rfl rfl rfl rfl (v_fieldAddr T.fld_67_1_1 rfl) ?_)
      refine rs_a 4 rfl rfl rfl rfl (v_move rfl) ?_
      refine rs_v 3 rfl rfl rfl rfl (OpV.mono (v_load T.scal_39 rfl) (fun w hw => by first | exact sat_cell hw (by (repeat (first | with_reducible exact Pick.here _ | apply Pick.there)); first | done | fail) rfl | exact own_cell hw (by (repeat (first | with_reducible exact Pick.here _ | apply Pick.there)); first | done | fail) (by first | rfl | assumption) | exact ro_at0 hw (by (repeat (first | with_reducible exact Pick.here _ | apply Pick.there)); first | done | fail) (by assumption) rfl | exact ro_at hw (by (repeat (first | with_reducible exact Pick.here _ | apply Pick.there)); first | done | fail) (by assumption) rfl | exact own_at0 hw (by (repeat (first | with_reducible exact Pick.here _ | apply Pick.there)); first | done | fail) (by assumption) rfl | exact own_at hw (by (repeat (first | with_reducible exact Pick.here _ | apply Pick.there)); first | done | fail) (by assumption) rfl | exact old_cell hw (by (repeat (first | with_reducible exact Pick.here _ | apply Pick.there)); first | done | fail) (by assumption) | assumption)) (by first | exact hw | exact Sat.sub hw (by (repeat (first | with_reducible exact Sub.refl _ | exact Sub.nil _ | (apply Sub.cons; focus ((repeat (first | with_reducible exact Pick.here _ | apply Pick.there)); (first | done | fail))) | with_reducible apply Sub.drop)); first | done | fail)) ?_
      refine rs_a 5 rfl rfl rfl rfl (v_indexAddr T.sl_39_42_8 rfl rfl (by omega) (by omega)) ?_
      first | (refine rs_a 6 rfl rfl rfl rfl (v_fieldAddr0 T.fld_42_0_0 rfl) ?_) | (refine rs_a 6 rfl rfl rfl rfl (v_fieldAddr T.fld_42_0_0 rfl) ?_)
      refine rs_v 7 rfl rfl rfl rfl (OpV.mono (v_loadAgg (vs := [_, _, _, _]) T.agg_34_4 rfl rfl) (fun w hw => by first | exact sat_cells hw (by (repeat (first | with_reducible exact Pick.here _ | apply Pick.there)); first | done | fail) ⟨rfl, rfl, rfl, rfl, trivial⟩ | exact ro_ats hw (by (repeat (first | with_reducible exact Pick.here _ | apply Pick.there)); first | done | fail) (by assumption) | exact own_cells hw (by (repeat (first | with_reducible exact Pick.here _ | apply Pick.there)); first | done | fail) (by assumption) | exact old_cells hw (by (repeat (first | with_reducible exact Pick.here _ | apply Pick.there)); first | done | fail) (by assumption))) (by first | exact hw | exact Sat.sub hw (by (repeat (first | with_reducible exact Sub.refl _ | exact Sub.nil _ | (apply Sub.cons; focus ((repeat (first | with_reducible exact Pick.here _ | apply Pick.there)); (first | done | fail))) | with_reducible apply Sub.drop)); first | done | fail)) ?_
      refine rs_kv 8 rfl rfl rfl rfl (by first | exact sat_cells hw (by (repeat (first | with_reducible exact Pick.here _ | apply Pick.there)); first | done | fail) ⟨rfl, rfl, rfl, rfl, trivial⟩ | exact ro_ats hw (by (repeat (first | with_reducible exact Pick.here _ | apply Pick.there)); first | done | fail) (by assumption) | exact own_cells hw (by (repeat (first | with_reducible exact Pick.here _ | apply Pick.there)); first | done | fail) (by assumption) | exact old_cells hw (by (repeat (first | with_reducible exact Pick.here _ | apply Pick.there)); first | done | fail) (by assumption)) (v_loadAgg (vs := [_, _, _, _]) T.agg_34_4 rfl rfl) ?_
      refine rs_kv 9 rfl rfl rfl rfl (S' := fun _ => True) trivial (v_eqlAgg T.cmp_34_iiii rfl rfl rfl rfl (by first | exact eq_Rf _ _ | rfl)) ?_
      refine rs_done (g_le (Fr.le_keep (Fr.le_keep (Fr.le_keep (Fr.le_keep (Fr.le_keep (Fr.le_keep (Fr.le_keep (Fr.le_keep (Fr.le_keep (Fr.le_keep (Fr.le_refl _))))))))))) ?_)
      refine g_cond rfl (fun h2 => ?_) (fun h2 => ?_)
      · try with_reducible exact ft_elim h2
        all_goals
          try replace h2 := of_decide_eq_true h2
          rw [if_pos (by simpa using h2)] at heq
          refine g_seq ?_
          refine g_region ?_
          refine rl_v rfl rfl rfl (S := fun _ => True) trivial (v_move rfl) ?_
          refine rl_v rfl rfl rfl (S := fun _ => True) trivial (v_assign rfl) ?_
          refine rl_nil (g_le (Fr.le_keep (Fr.le_keep (Fr.le_refl _))) ?_)
          refine g_ret1 Try.func41 rfl rfl ?_
          exact ⟨by rw [heq], hw.sub (by (repeat (first | with_reducible exact Sub.refl _ | exact Sub.nil _ | (apply Sub.cons; focus ((repeat (first | with_reducible exact Pick.here _ | apply Pick.there)); (first | done | fail))) | with_reducible apply Sub.drop)); first | done | fail)⟩
      · try with_reducible exact tf_elim h2
        all_goals
          try replace h2 := of_decide_eq_false h2
          rw [if_neg (by simpa using h2)] at heq
          refine g_skip (g_inBlock ?_)
          refine g_region ?_
          refine rl_v rfl rfl rfl (S := fun _ => True) trivial (v_move rfl) ?_
          first | (refine rl_v rfl rfl rfl (S := fun _ => True) trivial (v_add rfl rfl (by omega)) ?_) | (refine rl_v rfl rfl rfl (S := fun _ => True) trivial (v_addW rfl rfl) ?_)
          refine rl_v rfl rfl rfl (S := fun _ => True) trivial (v_assign rfl) ?_
          refine rl_nil (g_le (Fr.le_keep (Fr.le_keep (Fr.le_keep (Fr.le_refl _)))) ?_)
          exact g_le (by repeat (first | exact Fr.le_nil _ | refine Fr.le_cons rfl ?_)) (ih (i + 1) w ⟨by omega, by omega, by rw [heq, show (i + 1).toNat = i.toNat + 1 by omega], hw.sub (by (repeat (first | with_reducible exact Sub.refl _ | exact Sub.nil _ | (apply Sub.cons; focus ((repeat (first | with_reducible exact Pick.here _ | apply Pick.there)); (first | done | fail))) | with_reducible apply Sub.drop)); first | done | fail)⟩ (by omega))
  · try with_reducible exact tf_elim h1
    all_goals
      try replace h1 := of_decide_eq_false h1
      refine g_exit rfl (g_seq ?_)
      refine g_region ?_
      refine rl_v rfl rfl rfl (S := fun _ => True) trivial (v_assign rfl) ?_
      refine rl_nil (g_le (Fr.le_keep (Fr.le_refl _)) ?_)
      refine g_ret1 Try.func41 rfl rfl ?_
      refine ⟨?_, hw.sub (by (repeat (first | with_reducible exact Sub.refl _ | exact Sub.nil _ | (apply Sub.cons; focus ((repeat (first | with_reducible exact Pick.here _ | apply Pick.there)); (first | done | fail))) | with_reducible apply Sub.drop)); first | done | fail)⟩
      rw [heq, List.drop_eq_nil_of_le (by omega)]
      rfl
theorem take_erase {l : List Hd} {i q : Nat} {x : Hd} (hx : l[i]? = some x) : (l.take (i + 1)).eraseIdx q = if i = q then (l.take i).eraseIdx q else (l.take i).eraseIdx q ++ [x] := by
  have hi : i < l.length := (List.getElem?_eq_some_iff.1 hx).1
  have hl : (l.take i).length = i := by rw [List.length_take]; omega
  rw [List.take_add_one, hx]
  split
  · rename_i h
    subst h
    rw [List.eraseIdx_append_of_length_le (by omega), hl]
    simp
    rw [List.eraseIdx_of_length_le (by omega)]
  · rename_i h
    rcases Nat.lt_or_ge q i with h2 | h2
    · rw [List.eraseIdx_append_of_lt_length (by omega)]; rfl
    · rw [List.eraseIdx_append_of_length_le (by omega), hl, List.eraseIdx_of_length_le (l := l.take i) (by omega)]
      rw [List.eraseIdx_of_length_le (by simp; omega)]; rfl
theorem rout_calls {E : Env} {w : World} {L : List As} {g : Hp} {c : Nat} {s : Ch} {lv : Value} {cells : List Value} (q : Nat) (hq : q < s.l.length) (hels : Els rdHd 8 g cells s.l) (hb : s.l.length ≤ 100000) (hw : Sat E w (pt c (.cells [Value.int .i64 (s : Ch).room, lv, .int .i64 (s : Ch).hits, .int .i64 (s : Ch).misses].toArray 67 (0, 0)) :: OwnSl 42 8 lv (s : Ch).l.length cells :: RO g :: L)) :
    Calls Try.prog 42 #[.pointer (some ⟨c, 0, none⟩), .int .i64 q] w fun e w' => e = .returned (.tuple #[]) ∧ ∃ lv' cells', Els rdHd 8 g cells' (s.l.eraseIdx q) ∧ Sat E w' (pt c (.cells [Value.int .i64 (⟨s.room, s.l.eraseIdx q, s.hits, s.misses⟩ : Ch).room, lv', .int .i64 (⟨s.room, s.l.eraseIdx q, s.hits, s.misses⟩ : Ch).hits, .int .i64 (⟨s.room, s.l.eraseIdx q, s.hits, s.misses⟩ : Ch).misses].toArray 67 (0, 0)) :: OwnSl 42 8 lv' (⟨s.room, s.l.eraseIdx q, s.hits, s.misses⟩ : Ch).l.length cells' :: RO g :: L) := by
  obtain ⟨a, cc, rfl, _, _, ha⟩ := (hw.pick .at1).own_shape
  refine calls_of_g (n := 33) Try.func42 rfl rfl rfl ?_
  change G _ _ _ _ _ [(0, _), (1, _)] _
  refine g_seq ?_
  refine g_region ?_
  refine rl_k rfl (k_buildSlice0 hw T.sl_39_42_8 T.zero_42 rfl (fun bk0_0 w hw => ?_))
  refine rl_v rfl rfl rfl (S := fun _ => True) trivial (v_assign rfl) ?_
  refine rl_nil (g_le (Fr.le_keep (Fr.le_skip rfl (Fr.le_refl _))) ?_)
  refine g_seq (g_seq ?_)
  refine g_region ?_
  refine rl_v rfl rfl rfl (S := fun _ => True) trivial (v_assign rfl) ?_
  refine rl_nil (g_le (Fr.le_keep (Fr.le_refl _)) ?_)
  refine g_block ?_
  refine g_loopC (σ := Int × Value × List Value) (fun C x => (5, .int .i64 x.1) :: (4, x.2.1) :: C) [(0, _), (1, _)] (by repeat (first | exact Fr.le_nil _ | refine Fr.le_cons rfl ?_)) (fun z w => 0 ≤ z.1 ∧ z.1 ≤ s.l.length ∧ Els rdHd 8 g z.2.2 ((s.l.take z.1.toNat).eraseIdx q) ∧ Sat E w (OwnSl 42 8 z.2.1 ((s.l.take z.1.toNat).eraseIdx q).length z.2.2 :: pt c (.cells [Value.int .i64 (s : Ch).room, (.slice a s.l.length cc), .int .i64 (s : Ch).hits, .int .i64 (s : Ch).misses].toArray 67 (0, 0)) :: OwnSl 42 8 (.slice a s.l.length cc) (s : Ch).l.length cells :: RO g :: L)) (fun z => (s.l.length - z.1).toNat) ?_ (0, .slice (some ⟨bk0_0, 0, none⟩) 0 0, []) (by repeat (first | exact Fr.le_nil _ | refine Fr.le_cons rfl ?_)) ⟨by simp, by simp, by simpa using Els.nil, hw⟩
  rintro ⟨i, v, cs2⟩ w ⟨hi0, hi1, hels2, hw⟩ ih
  dsimp only at hi0 hi1 hels2 hw ⊢
  refine g_seq (g_seq ?_)
  refine g_region ?_
  refine rl_v rfl rfl rfl (S := fun _ => True) trivial (v_move rfl) ?_
  refine rl_v rfl rfl rfl (S := fun _ => True) trivial (v_move rfl) ?_
  refine rl_v rfl rfl rfl (S := fun _ => True) trivial (v_nilCheck rfl) ?_
  first | (refine rl_v rfl rfl rfl (S := fun _ => True) trivial (v_fieldAddr0 T.fld_67_1_1 rfl) ?_) | (refine rl_v rfl rfl rfl (S := fun _ => True) trivial (v_fieldAddr T.fld_67_1_1 rfl) ?_)
  refine rl_v rfl rfl rfl (by first | exact sat_cell hw (by (repeat (first | with_reducible exact Pick.here _ | apply Pick.there)); first | done | fail) rfl | exact own_cell hw (by (repeat (first | with_reducible exact Pick.here _ | apply Pick.there)); first | done | fail) (by first | rfl | assumption) | exact ro_at0 hw (by (repeat (first | with_reducible exact Pick.here _ | apply Pick.there)); first | done | fail) (by assumption) rfl | exact ro_at hw (by (repeat (first | with_reducible exact Pick.here _ | apply Pick.there)); first | done | fail) (by assumption) rfl | exact own_at0 hw (by (repeat (first | with_reducible exact Pick.here _ | apply Pick.there)); first | done | fail) (by assumption) rfl | exact own_at hw (by (repeat (first | with_reducible exact Pick.here _ | apply Pick.there)); first | done | fail) (by assumption) rfl | exact old_cell hw (by (repeat (first | with_reducible exact Pick.here _ | apply Pick.there)); first | done | fail) (by assumption) | assumption) (v_load T.scal_39 rfl) ?_
  refine rl_v rfl rfl rfl (S := fun _ => True) trivial (v_lenSlice T.sl_39_42_8 rfl) ?_
  first | (refine rl_v rfl rfl rfl (S := fun _ => True) trivial (v_lssT rfl rfl (by omega)) ?_) | (refine rl_v rfl rfl rfl (S := fun _ => True) trivial (v_lssF rfl rfl (by omega)) ?_) | (refine rl_v rfl rfl rfl (S := fun _ => True) trivial (v_lss rfl rfl) ?_)
  refine rl_nil (g_le (Fr.le_keep (Fr.le_keep (Fr.le_keep (Fr.le_keep (Fr.le_keep (Fr.le_keep (Fr.le_keep (Fr.le_refl _)))))))) ?_)
  refine g_cond rfl (fun h1 => ?_) (fun h1 => ?_)
  · try with_reducible exact ft_elim h1
    all_goals
      try replace h1 := of_decide_eq_true h1
      refine g_skip (g_seq (g_block (g_seq ?_)))
      have hz := hw
      clear hw
      obtain ⟨gb, rfl⟩ := ha (by omega)
      have hlt : i.toNat < s.l.length := by omega
      have hx : s.l[i.toNat]? = some s.l[i.toNat] := List.getElem?_eq_getElem hlt
      obtain ⟨ea, en, ec, ka, kn, kc, hsub, hrd, hnd, hok, hle⟩ := hd_cells hels hx
      have hw := hz
      obtain ⟨va, vc, rfl, _, _, _⟩ := hw.own_shape
      have hlb : ((s.l.take i.toNat).eraseIdx q).length ≤ 100000 := Nat.le_trans (List.length_eraseIdx_le _ _) (by rw [List.length_take]; omega)
      refine g_region ?_
      refine rl_v rfl rfl rfl (S := fun _ => True) trivial (v_move rfl) ?_
      refine rl_v rfl rfl rfl (S := fun _ => True) trivial (v_move rfl) ?_
      first | (refine rl_v rfl rfl rfl (S := fun _ => True) trivial (v_neqT rfl rfl (by omega)) ?_) | (refine rl_v rfl rfl rfl (S := fun _ => True) trivial (v_neqF rfl rfl (by first | omega | rfl)) ?_) | (refine rl_v rfl rfl rfl (S := fun _ => True) trivial (v_neq rfl rfl) ?_)
      refine rl_nil (g_le (Fr.le_keep (Fr.le_keep (Fr.le_keep (Fr.le_refl _)))) ?_)
      refine g_cond rfl (fun h2 => ?_) (fun h2 => ?_)
      · try with_reducible exact ft_elim h2
        all_goals
          try replace h2 := of_decide_eq_true h2
          have he : (s.l.take (i + 1).toNat).eraseIdx q = (s.l.take i.toNat).eraseIdx q ++ [s.l[i.toNat]] := by rw [show (i + 1).toNat = i.toNat + 1 by omega, take_erase hx, if_neg (by omega)]
          refine g_region ?_
          refine rl_v rfl rfl rfl (S := fun _ => True) trivial (v_move rfl) ?_
          refine rl_v rfl rfl rfl (S := fun _ => True) trivial (v_move rfl) ?_
          refine rl_v rfl rfl rfl (S := fun _ => True) trivial (v_nilCheck rfl) ?_
          first | (refine rl_v rfl rfl rfl (S := fun _ => True) trivial (v_fieldAddr0 T.fld_67_1_1 rfl) ?_) | (refine rl_v rfl rfl rfl (S := fun _ => True) trivial (v_fieldAddr T.fld_67_1_1 rfl) ?_)
          refine rl_v rfl rfl rfl (by first | exact sat_cell hw (by (repeat (first | with_reducible exact Pick.here _ | apply Pick.there)); first | done | fail) rfl | exact own_cell hw (by (repeat (first | with_reducible exact Pick.here _ | apply Pick.there)); first | done | fail) (by first | rfl | assumption) | exact ro_at0 hw (by (repeat (first | with_reducible exact Pick.here _ | apply Pick.there)); first | done | fail) (by assumption) rfl | exact ro_at hw (by (repeat (first | with_reducible exact Pick.here _ | apply Pick.there)); first | done | fail) (by assumption) rfl | exact own_at0 hw (by (repeat (first | with_reducible exact Pick.here _ | apply Pick.there)); first | done | fail) (by assumption) rfl | exact own_at hw (by (repeat (first | with_reducible exact Pick.here _ | apply Pick.there)); first | done | fail) (by assumption) rfl | exact old_cell hw (by (repeat (first | with_reducible exact Pick.here _ | apply Pick.there)); first | done | fail) (by assumption) | assumption) (v_load T.scal_39 rfl) ?_
          refine rl_v rfl rfl rfl (S := fun _ => True) trivial (v_move rfl) ?_
          refine rl_v rfl rfl rfl (S := fun _ => True) trivial (v_indexAddr T.sl_39_42_8 rfl rfl (by omega) (by omega)) ?_
          refine rl_v rfl rfl rfl (by first | exact sat_cells hw (by (repeat (first | with_reducible exact Pick.here _ | apply Pick.there)); first | done | fail) ⟨rfl, rfl, rfl, rfl, rfl, rfl, rfl, rfl, trivial⟩ | exact ro_ats hw (by (repeat (first | with_reducible exact Pick.here _ | apply Pick.there)); first | done | fail) (by assumption) | exact own_cells hw (by (repeat (first | with_reducible exact Pick.here _ | apply Pick.there)); first | done | fail) (by assumption) | exact old_cells hw (by (repeat (first | with_reducible exact Pick.here _ | apply Pick.there)); first | done | fail) (by assumption)) (v_loadAgg (vs := [_, _, _, _, _, _, _, _]) T.agg_42_8 rfl rfl) ?_
          refine rl_k rfl (k_buildSlice (cells := [_, _, _, _, _, _, _, _]) hw T.sl_39_42_8 T.zero_42 rfl rfl rfl rfl rfl rfl (fun bk5_8 w hw => ?_))
          refine rl_k rfl (k_append (news := [_, _, _, _, _, _, _, _]) hw T.sl_39_42_8 T.zero_42 T.bytes_42_96 rfl (by decide) rfl rfl (by (repeat (first | with_reducible exact Pick.here _ | apply Pick.there)); first | done | fail) rfl (by first | exact sat_cells hw (by (repeat (first | with_reducible exact Pick.here _ | apply Pick.there)); first | done | fail) ⟨rfl, rfl, rfl, rfl, rfl, rfl, rfl, rfl, trivial⟩ | exact old_cells hw (by (repeat (first | with_reducible exact Pick.here _ | apply Pick.there)); first | done | fail) (by assumption)) (by simp [Value.oneCell']) (by omega) (by simp only [maxLen]; omega) rfl (fun vv5_9 w hw hnil => ?_))
          refine rl_v rfl rfl rfl (S := fun _ => True) trivial (v_assign rfl) ?_
          refine rl_nil (g_le (Fr.le_keep (Fr.le_keep (Fr.le_keep (Fr.le_keep (Fr.le_keep (Fr.le_keep (Fr.le_keep (Fr.le_keep (Fr.le_keep (Fr.le_keep (Fr.le_keep (Fr.le_refl _)))))))))))) ?_)
          refine g_inBlock ?_
          refine g_region ?_
          refine rl_v rfl rfl rfl (S := fun _ => True) trivial (v_move rfl) ?_
          first | (refine rl_v rfl rfl rfl (S := fun _ => True) trivial (v_add rfl rfl (by omega)) ?_) | (refine rl_v rfl rfl rfl (S := fun _ => True) trivial (v_addW rfl rfl) ?_)
          refine rl_v rfl rfl rfl (S := fun _ => True) trivial (v_assign rfl) ?_
          refine rl_nil (g_le (Fr.le_keep (Fr.le_keep (Fr.le_keep (Fr.le_refl _)))) ?_)
          exact g_le (by repeat (first | exact Fr.le_nil _ | refine Fr.le_cons rfl ?_)) (ih (i + 1, vv5_9, cs2 ++ [.int .u64 (s.l[i.toNat] : Hd).ref.key, .int .i64 (s.l[i.toNat] : Hd).ref.seg, .int .i64 (s.l[i.toNat] : Hd).ref.off, .int .i64 (s.l[i.toNat] : Hd).ref.len, .bool (s.l[i.toNat] : Hd).node.leaf, .slice ea en ec, .slice ka kn kc, .int .i64 (s.l[i.toNat] : Hd).pins]) w ⟨by simp only; omega, by simp only; omega, by dsimp only; rw [he]; exact hels2.snoc rfl hrd, by dsimp only; rw [he, List.length_append, List.length_singleton]; exact hw.sub (by (repeat (first | with_reducible exact Sub.refl _ | exact Sub.nil _ | (apply Sub.cons; focus ((repeat (first | with_reducible exact Pick.here _ | apply Pick.there)); (first | done | fail))) | with_reducible apply Sub.drop)); first | done | fail)⟩ (by simp only; omega))
      · try with_reducible exact tf_elim h2
        all_goals
          try replace h2 := of_decide_eq_false h2
          have he : (s.l.take (i + 1).toNat).eraseIdx q = (s.l.take i.toNat).eraseIdx q := by rw [show (i + 1).toNat = i.toNat + 1 by omega, take_erase hx, if_pos (by omega)]
          refine g_skip (g_inBlock ?_)
          refine g_region ?_
          refine rl_v rfl rfl rfl (S := fun _ => True) trivial (v_move rfl) ?_
          first | (refine rl_v rfl rfl rfl (S := fun _ => True) trivial (v_add rfl rfl (by omega)) ?_) | (refine rl_v rfl rfl rfl (S := fun _ => True) trivial (v_addW rfl rfl) ?_)
          refine rl_v rfl rfl rfl (S := fun _ => True) trivial (v_assign rfl) ?_
          refine rl_nil (g_le (Fr.le_keep (Fr.le_keep (Fr.le_keep (Fr.le_refl _)))) ?_)
          exact g_le (by repeat (first | exact Fr.le_nil _ | refine Fr.le_cons rfl ?_)) (ih (i + 1, .slice va ((s.l.take i.toNat).eraseIdx q).length vc, cs2) w ⟨by simp only; omega, by simp only; omega, by dsimp only; rw [he]; exact hels2, by dsimp only; rw [he]; exact hw.sub (by (repeat (first | with_reducible exact Sub.refl _ | exact Sub.nil _ | (apply Sub.cons; focus ((repeat (first | with_reducible exact Pick.here _ | apply Pick.there)); (first | done | fail))) | with_reducible apply Sub.drop)); first | done | fail)⟩ (by simp only; omega))
  · try with_reducible exact tf_elim h1
    all_goals
      try replace h1 := of_decide_eq_false h1
      refine g_exit rfl ?_
      rw [show i.toNat = s.l.length by omega, List.take_length] at hw hels2
      obtain ⟨va, vc, rfl, _, _, _⟩ := hw.own_shape
      refine g_region ?_
      refine rl_v rfl rfl rfl (S := fun _ => True) trivial (v_move rfl) ?_
      refine rl_v rfl rfl rfl (S := fun _ => True) trivial (v_move rfl) ?_
      refine rl_v rfl rfl rfl (S := fun _ => True) trivial (v_nilCheck rfl) ?_
      first | (refine rl_v rfl rfl rfl (S := fun _ => True) trivial (v_fieldAddr0 T.fld_67_1_1 rfl) ?_) | (refine rl_v rfl rfl rfl (S := fun _ => True) trivial (v_fieldAddr T.fld_67_1_1 rfl) ?_)
      first | (refine rl_k rfl (k_storeOwn hw T.scal_39 rfl rfl rfl (by (repeat (first | with_reducible exact Pick.here _ | apply Pick.there)); first | done | fail) (by assumption) (fun w hw => ?_))) | (refine rl_k rfl (k_store hw T.scal_39 rfl rfl rfl (by (repeat (first | with_reducible exact Pick.here _ | apply Pick.there)); first | done | fail) rfl (by first | (simp only [List.set, Int.reduceToNat, Nat.reduceMul, Nat.reduceAdd]; rfl) | rfl) (fun w hw => ?_)))
      refine rl_nil (g_le (Fr.le_skip rfl (Fr.le_skip rfl (Fr.le_skip rfl (Fr.le_skip rfl (Fr.le_refl _))))) ?_)
      refine g_end0 Try.func42 rfl ?_
      exact ⟨rfl, _, _, hels2, hw.sub (by (repeat (first | with_reducible exact Sub.refl _ | exact Sub.nil _ | (apply Sub.cons; focus ((repeat (first | with_reducible exact Pick.here _ | apply Pick.there)); (first | done | fail))) | with_reducible apply Sub.drop)); first | done | fail)⟩
end Go.Proofs.Ytnkddbbcfolcdaa
