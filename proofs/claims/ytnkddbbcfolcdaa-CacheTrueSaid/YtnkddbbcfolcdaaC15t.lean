/-
  The cache's reference (layer 15): Put.
-/
import Derived.Test.YtnkddbbcfolcdaaC15s
namespace Go.Proofs.Ytnkddbbcfolcdaa
set_option linter.unusedSimpArgs false
set_option linter.unusedVariables false
open Go Xe
theorem ord_f32_r1_C15t : orderOfB Try.f32 1 [5] (.v 0 (.v 1 (.b2 2 4 (.a 3 (.k 4 (.k 5 .done))) (.k 2 (.k 3 (.k 5 .done)))))) = true := by kernel_rfl
theorem ord_f32_r6_C15t : orderOfB Try.f32 6 [7, 10] (.a 0 (.a 1 (.a 2 (.a 3 (.v 4 (.k 5 (.k 6 (.k 7 (.k 8 (.k 9 (.k 10 .done))))))))))) = true := by kernel_rfl
theorem ord_f32_r8_C15t : orderOfB Try.f32 8 [] (.a 0 (.a 1 (.a 2 (.a 5 (.a 6 (.a 7 (.v 3 (.a 4 (.k 8 (.k 9 .done)))))))))) = true := by kernel_rfl
theorem ord_f32_r18_C15t : orderOfB Try.f32 18 [7, 10] (.a 0 (.a 1 (.a 2 (.a 3 (.v 4 (.k 5 (.k 6 (.k 7 (.k 8 (.k 9 (.k 10 .done))))))))))) = true := by kernel_rfl
set_option maxHeartbeats 4000000
theorem rput_calls {E : Env} {w : World} {L : List As} {g : Hp} {c : Nat} {s : Ch} {lv : Value} {cells : List Value} {ncs : List Value} {n : Nd} (r : Rf) (hr : r.ok) (hn : rdNd g ncs n) (hels : Els rdHd 8 g cells s.l) (hb : s.l.length ≤ 100000) (hw : Sat E w (pt c (.cells [Value.int .i64 (s : Ch).room, lv, .int .i64 (s : Ch).hits, .int .i64 (s : Ch).misses].toArray 67 (0, 0)) :: OwnSl 42 8 lv (s : Ch).l.length cells :: RO g :: L)) :
    Calls Try.prog 32 #[.pointer (some ⟨c, 0, none⟩), .agg r.cells.toArray, .agg ncs.toArray] w fun e w' => ∃ g' lv' cells', g.le g' ∧ e = .returned (.int .i64 (s.put r n).1) ∧ Els rdHd 8 g' cells' (s.put r n).2.l ∧ Sat E w' (pt c (.cells [Value.int .i64 ((s.put r n).2 : Ch).room, lv', .int .i64 ((s.put r n).2 : Ch).hits, .int .i64 ((s.put r n).2 : Ch).misses].toArray 67 (0, 0)) :: OwnSl 42 8 lv' ((s.put r n).2 : Ch).l.length cells' :: RO g' :: L) := by
  have hnn := hn
  obtain ⟨q0, q1, q2, rfl, qe, qf, qg⟩ := hn
  simp only [rdBool, List.cons.injEq, and_true] at qe
  subst qe
  obtain ⟨qa1, qn1, qk1, rfl⟩ := rdSl_shape qf
  obtain ⟨qa2, qn2, qk2, rfl⟩ := rdSl_shape qg
  obtain ⟨a, cc, rfl, _, _, ha⟩ := (hw.pick .at1).own_shape
  have hpb := s.pl_bound r
  obtain ⟨m, hm⟩ : ∃ m, s.pl r = m := ⟨_, rfl⟩
  have hq := idx_bound (p := fun h : Hd => decide (h.pins = 0)) (l := s.l) (i := 0) (by omega)
  obtain ⟨q, hqq⟩ : ∃ q, idx (fun h : Hd => decide (h.pins = 0)) s.l 0 = q := ⟨_, rfl⟩
  rw [hm] at hpb
  rw [hqq] at hq
  refine calls_of_g (n := 87) Try.func32 rfl rfl rfl ?_
  change G _ _ _ _ _ [(0, _), (1, _), (2, _)] _
  refine g_seq ?_
  refine g_region ?_
  refine rl_k rfl (k_box hw rfl rfl rfl (fun bk0_0 w hw => ?_))
  refine rl_k rfl (k_box hw rfl rfl rfl (fun bk0_1 w hw => ?_))
  refine rl_v rfl rfl rfl (S := fun _ => True) trivial (v_assign rfl) ?_
  refine rl_nil (g_le (Fr.le_keep (Fr.le_keep (Fr.le_keep (Fr.le_refl _)))) ?_)
  refine g_seq ?_
  refine g_drawR ord_f32_r1_C15t (by kernel_rfl) T.mixed hw (fun w hw => ?_)
  refine rs_v 0 rfl rfl rfl rfl (OpV.mono (v_loadAgg (vs := [_, _, _, _]) T.agg_34_4 rfl rfl) (fun w hw => by first | exact sat_cells hw (by (repeat (first | with_reducible exact Pick.here _ | apply Pick.there)); first | done | fail) ⟨rfl, rfl, rfl, rfl, trivial⟩ | exact ro_ats hw (by (repeat (first | with_reducible exact Pick.here _ | apply Pick.there)); first | done | fail) (by assumption) | exact own_cells hw (by (repeat (first | with_reducible exact Pick.here _ | apply Pick.there)); first | done | fail) (by assumption) | exact old_cells hw (by (repeat (first | with_reducible exact Pick.here _ | apply Pick.there)); first | done | fail) (by assumption))) (by first | exact hw | exact Sat.sub hw (by (repeat (first | with_reducible exact Sub.refl _ | exact Sub.nil _ | (apply Sub.cons; focus ((repeat (first | with_reducible exact Pick.here _ | apply Pick.there)); (first | done | fail))) | with_reducible apply Sub.drop)); first | done | fail)) ?_
  refine rs_v 1 rfl rfl rfl rfl (OpV.mono (v_loadAgg (vs := [_, _, _]) T.agg_25_3 rfl rfl) (fun w hw => by first | exact sat_cells hw (by (repeat (first | with_reducible exact Pick.here _ | apply Pick.there)); first | done | fail) ⟨rfl, rfl, rfl, trivial⟩ | exact ro_ats hw (by (repeat (first | with_reducible exact Pick.here _ | apply Pick.there)); first | done | fail) (by assumption) | exact own_cells hw (by (repeat (first | with_reducible exact Pick.here _ | apply Pick.there)); first | done | fail) (by assumption) | exact old_cells hw (by (repeat (first | with_reducible exact Pick.here _ | apply Pick.there)); first | done | fail) (by assumption))) (by first | exact hw | exact Sat.sub hw (by (repeat (first | with_reducible exact Sub.refl _ | exact Sub.nil _ | (apply Sub.cons; focus ((repeat (first | with_reducible exact Pick.here _ | apply Pick.there)); (first | done | fail))) | with_reducible apply Sub.drop)); first | done | fail)) ?_
  refine rs_b2 2 4 rfl rfl rfl rfl ?_ ?_ 
  · skip
    refine (k_callf Try.func9 rfl rfl rfl rfl ?_)
    refine Calls.mono (copyNd_calls hnn (hw.sub (by (repeat (first | with_reducible exact Sub.refl _ | exact Sub.nil _ | (apply Sub.cons; focus ((repeat (first | with_reducible exact Pick.here _ | apply Pick.there)); (first | done | fail))) | with_reducible apply Sub.drop)); first | done | fail))) ?_
    rintro _ w ⟨ev, kv, vs, rfl, hw⟩
    obtain ⟨a4, c4, rfl, _, _, _⟩ := hw.own_shape
    obtain ⟨a5, c5, rfl, _, _, _⟩ := (hw.pick .at2).own_shape
    refine ⟨_, rfl, ?_⟩
    refine ⟨fun _ => (by first | exact hw | exact Sat.sub hw (by (repeat (first | with_reducible exact Sub.refl _ | exact Sub.nil _ | (apply Sub.cons; focus ((repeat (first | with_reducible exact Pick.here _ | apply Pick.there)); (first | done | fail))) | with_reducible apply Sub.drop)); first | done | fail) | exact Sat.sub (Sat.shrink (Sat.pick hw (by (repeat (first | with_reducible exact Pick.here _ | apply Pick.there)); first | done | fail)) (by assumption)) (by (repeat (first | with_reducible exact Sub.refl _ | exact Sub.nil _ | (apply Sub.cons; focus ((repeat (first | with_reducible exact Pick.here _ | apply Pick.there)); (first | done | fail))) | with_reducible apply Sub.drop)); first | done | fail)), ?_⟩
    refine rs_a 3 rfl rfl rfl rfl (v_build rfl (T.build_42_0_1 ..)) ?_
    refine rs_k 4 rfl rfl (k_alloc hw T.zero_42 rfl rfl (fun bk1_4 w hw => ?_))
    refine ⟨fun _ => (by first | exact hw | exact Sat.sub hw (by (repeat (first | with_reducible exact Sub.refl _ | exact Sub.nil _ | (apply Sub.cons; focus ((repeat (first | with_reducible exact Pick.here _ | apply Pick.there)); (first | done | fail))) | with_reducible apply Sub.drop)); first | done | fail) | exact Sat.sub (Sat.shrink (Sat.pick hw (by (repeat (first | with_reducible exact Pick.here _ | apply Pick.there)); first | done | fail)) (by assumption)) (by (repeat (first | with_reducible exact Sub.refl _ | exact Sub.nil _ | (apply Sub.cons; focus ((repeat (first | with_reducible exact Pick.here _ | apply Pick.there)); (first | done | fail))) | with_reducible apply Sub.drop)); first | done | fail)), ?_⟩
    first | (refine rs_k 5 rfl rfl (k_storeWhole hw T.agg_42_8 rfl rfl (by simp [Value.oneCell']) rfl (by (repeat (first | with_reducible exact Pick.here _ | apply Pick.there)); first | done | fail) rfl (fun w hw => ?_))) | (refine rs_k 5 rfl rfl (k_storeAgg hw T.agg_42_8 rfl rfl (by simp [Value.oneCell']) rfl (by (repeat (first | with_reducible exact Pick.here _ | apply Pick.there)); first | done | fail) rfl rfl (fun w hw => ?_))) | (refine rs_k 5 rfl rfl (k_storeOwnAgg hw T.agg_42_8 rfl rfl (by simp [Value.oneCell']) rfl (by (repeat (first | with_reducible exact Pick.here _ | apply Pick.there)); first | done | fail) (by assumption) (by omega) (fun w hw => ?_)))
    refine ⟨fun hn => absurd (by decide) hn, ?_⟩
    refine rs_done (g_le (Fr.le_keep (Fr.le_skip rfl (Fr.le_skip rfl (Fr.le_skip rfl (Fr.le_skip rfl (Fr.le_refl _)))))) ?_)
    obtain ⟨g', hg', hnd', hw⟩ := nd_freeze (Nd.fine_of hnn) (hw.sub (by (repeat (first | with_reducible exact Sub.refl _ | exact Sub.nil _ | (apply Sub.cons; focus ((repeat (first | with_reducible exact Pick.here _ | apply Pick.there)); (first | done | fail))) | with_reducible apply Sub.drop)); first | done | fail))
    have hels' := hels.mono mono_Hd hg'
    refine g_seq ?_
    refine g_region ?_
    refine rl_v rfl rfl rfl (S := fun _ => True) trivial (v_move rfl) ?_
    refine rl_v rfl rfl rfl (by first | exact sat_cells hw (by (repeat (first | with_reducible exact Pick.here _ | apply Pick.there)); first | done | fail) ⟨rfl, rfl, rfl, rfl, trivial⟩ | exact ro_ats hw (by (repeat (first | with_reducible exact Pick.here _ | apply Pick.there)); first | done | fail) (by assumption) | exact own_cells hw (by (repeat (first | with_reducible exact Pick.here _ | apply Pick.there)); first | done | fail) (by assumption) | exact old_cells hw (by (repeat (first | with_reducible exact Pick.here _ | apply Pick.there)); first | done | fail) (by assumption)) (v_loadAgg (vs := [_, _, _, _]) T.agg_34_4 rfl rfl) ?_
    refine rl_k rfl (k_callf Try.func41 rfl rfl rfl rfl ?_)
    refine Calls.mono (rat_calls r m hm hels' hb (hw.sub (by (repeat (first | with_reducible exact Sub.refl _ | exact Sub.nil _ | (apply Sub.cons; focus ((repeat (first | with_reducible exact Pick.here _ | apply Pick.there)); (first | done | fail))) | with_reducible apply Sub.drop)); first | done | fail))) ?_
    rintro _ w ⟨rfl, hw⟩
    refine ⟨_, rfl, ?_⟩
    refine rl_v rfl rfl rfl (S := fun _ => True) trivial (v_assign rfl) ?_
    refine rl_nil (g_le (Fr.le_keep (Fr.le_skip rfl (Fr.le_skip rfl (Fr.le_skip rfl (Fr.le_refl _))))) ?_)
    refine g_seq (g_seq ?_)
    refine g_region ?_
    refine rl_v rfl rfl rfl (S := fun _ => True) trivial (v_move rfl) ?_
    first | (refine rl_v rfl rfl rfl (S := fun _ => True) trivial (v_geqT rfl rfl (by omega)) ?_) | (refine rl_v rfl rfl rfl (S := fun _ => True) trivial (v_geqF rfl rfl (by omega)) ?_) | (refine rl_v rfl rfl rfl (S := fun _ => True) trivial (v_geq rfl rfl) ?_)
    refine rl_nil (g_le (Fr.le_keep (Fr.le_skip rfl (Fr.le_refl _))) ?_)
    refine g_cond rfl (fun h1 => ?_) (fun h1 => ?_)
    · try with_reducible exact ft_elim h1
      all_goals
        try replace h1 := of_decide_eq_true h1
        obtain ⟨i, rfl⟩ : ∃ i : Nat, m = i := ⟨m.toNat, by omega⟩
        have hlt : i < s.l.length := by omega
        have hx : s.l[i]? = some s.l[i] := List.getElem?_eq_getElem hlt
        have hel : (s.l.eraseIdx i).length + 1 = s.l.length := by rw [List.length_eraseIdx_of_lt hlt]; omega
        have hput : s.put r n = (0, ⟨s.room, s.l.eraseIdx i ++ [⟨r, n, s.l[i].pins⟩], s.hits, s.misses⟩) := by unfold Ch.put; rw [hm, Int.toNat_natCast, hx]; exact if_pos h1
        have hz := hw
        clear hw
        obtain ⟨gb, rfl⟩ := ha (by omega)
        obtain ⟨ea, en, ec, ka, kn, kc, hsub, hrd, hnd, hok, hle⟩ := hd_cells hels hx
        have hw := hz
        refine g_seq ?_
        refine g_region ?_
        refine rl_v rfl rfl rfl (S := fun _ => True) trivial (v_move rfl) ?_
        refine rl_v rfl rfl rfl (S := fun _ => True) trivial (v_nilCheck rfl) ?_
        first | (refine rl_v rfl rfl rfl (S := fun _ => True) trivial (v_fieldAddr0 T.fld_67_1_1 rfl) ?_) | (refine rl_v rfl rfl rfl (S := fun _ => True) trivial (v_fieldAddr T.fld_67_1_1 rfl) ?_)
        refine rl_v rfl rfl rfl (by first | exact sat_cell hw (by (repeat (first | with_reducible exact Pick.here _ | apply Pick.there)); first | done | fail) rfl | exact own_cell hw (by (repeat (first | with_reducible exact Pick.here _ | apply Pick.there)); first | done | fail) (by first | rfl | assumption) | exact ro_at0 hw (by (repeat (first | with_reducible exact Pick.here _ | apply Pick.there)); first | done | fail) (by assumption) rfl | exact ro_at hw (by (repeat (first | with_reducible exact Pick.here _ | apply Pick.there)); first | done | fail) (by assumption) rfl | exact own_at0 hw (by (repeat (first | with_reducible exact Pick.here _ | apply Pick.there)); first | done | fail) (by assumption) rfl | exact own_at hw (by (repeat (first | with_reducible exact Pick.here _ | apply Pick.there)); first | done | fail) (by assumption) rfl | exact old_cell hw (by (repeat (first | with_reducible exact Pick.here _ | apply Pick.there)); first | done | fail) (by assumption) | assumption) (v_load T.scal_39 rfl) ?_
        refine rl_v rfl rfl rfl (S := fun _ => True) trivial (v_move rfl) ?_
        refine rl_v rfl rfl rfl (S := fun _ => True) trivial (v_indexAddr T.sl_39_42_8 rfl rfl (by omega) (by omega)) ?_
        first | (refine rl_v rfl rfl rfl (S := fun _ => True) trivial (v_fieldAddr0 T.fld_42_2_7 rfl) ?_) | (refine rl_v rfl rfl rfl (S := fun _ => True) trivial (v_fieldAddr T.fld_42_2_7 rfl) ?_)
        refine rl_v rfl rfl rfl (by first | exact sat_cell hw (by (repeat (first | with_reducible exact Pick.here _ | apply Pick.there)); first | done | fail) rfl | exact own_cell hw (by (repeat (first | with_reducible exact Pick.here _ | apply Pick.there)); first | done | fail) (by first | rfl | assumption) | exact ro_at0 hw (by (repeat (first | with_reducible exact Pick.here _ | apply Pick.there)); first | done | fail) (by assumption) rfl | exact ro_at hw (by (repeat (first | with_reducible exact Pick.here _ | apply Pick.there)); first | done | fail) (by assumption) rfl | exact own_at0 hw (by (repeat (first | with_reducible exact Pick.here _ | apply Pick.there)); first | done | fail) (by assumption) rfl | exact own_at hw (by (repeat (first | with_reducible exact Pick.here _ | apply Pick.there)); first | done | fail) (by assumption) rfl | exact old_cell hw (by (repeat (first | with_reducible exact Pick.here _ | apply Pick.there)); first | done | fail) (by assumption) | assumption) (v_load T.scal_3 rfl) ?_
        first | (refine rl_v rfl rfl rfl (S := fun _ => True) trivial (v_fieldAddr0 T.fld_42_2_7 rfl) ?_) | (refine rl_v rfl rfl rfl (S := fun _ => True) trivial (v_fieldAddr T.fld_42_2_7 rfl) ?_)
        first | (refine rl_k rfl (k_storeOwn hw T.scal_3 rfl rfl rfl (by (repeat (first | with_reducible exact Pick.here _ | apply Pick.there)); first | done | fail) (by assumption) (fun w hw => ?_))) | (refine rl_k rfl (k_store hw T.scal_3 rfl rfl rfl (by (repeat (first | with_reducible exact Pick.here _ | apply Pick.there)); first | done | fail) rfl (by first | (simp only [List.set, Int.reduceToNat, Nat.reduceMul, Nat.reduceAdd]; rfl) | rfl) (fun w hw => ?_)))
        refine rl_nil (g_le (Fr.le_skip rfl (Fr.le_skip rfl (Fr.le_skip rfl (Fr.le_skip rfl (Fr.le_skip rfl (Fr.le_skip rfl (Fr.le_skip rfl (Fr.le_skip rfl (Fr.le_skip rfl (Fr.le_refl _)))))))))) ?_)
        refine g_seq ?_
        refine g_region ?_
        refine rl_v rfl rfl rfl (S := fun _ => True) trivial (v_move rfl) ?_
        refine rl_v rfl rfl rfl (S := fun _ => True) trivial (v_move rfl) ?_
        refine rl_k rfl (k_callf Try.func42 rfl rfl rfl rfl ?_)
        refine Calls.mono (rout_calls (s := s) i hlt hels' hb (hw.sub (by (repeat (first | with_reducible exact Sub.refl _ | exact Sub.nil _ | (apply Sub.cons; focus ((repeat (first | with_reducible exact Pick.here _ | apply Pick.there)); (first | done | fail))) | with_reducible apply Sub.drop)); first | done | fail))) ?_
        rintro _ w ⟨rfl, lv', cells', hels2, hw⟩
        dsimp only at hw hels2
        obtain ⟨a2, c2, rfl, _, _, _⟩ := (hw.pick .at1).own_shape
        refine ⟨_, rfl, ?_⟩
        refine rl_nil (g_le (Fr.le_skip rfl (Fr.le_skip rfl (Fr.le_skip rfl (Fr.le_refl _)))) ?_)
        refine g_seq ?_
        refine g_drawR ord_f32_r6_C15t (by kernel_rfl) T.mixed hw (fun w hw => ?_)
        refine rs_a 0 rfl rfl rfl rfl (v_move rfl) ?_
        refine rs_a 1 rfl rfl rfl rfl (v_move rfl) ?_
        refine rs_a 2 rfl rfl rfl rfl (v_nilCheck rfl) ?_
        first | (refine rs_a 3 rfl rfl rfl rfl (v_fieldAddr0 T.fld_67_1_1 rfl) ?_) | (refine rs_a 3 rfl rfl rfl rfl (v_fieldAddr T.fld_67_1_1 rfl) ?_)
        refine rs_v 4 rfl rfl rfl rfl (OpV.mono (v_load T.scal_39 rfl) (fun w hw => by first | exact sat_cell hw (by (repeat (first | with_reducible exact Pick.here _ | apply Pick.there)); first | done | fail) rfl | exact own_cell hw (by (repeat (first | with_reducible exact Pick.here _ | apply Pick.there)); first | done | fail) (by first | rfl | assumption) | exact ro_at0 hw (by (repeat (first | with_reducible exact Pick.here _ | apply Pick.there)); first | done | fail) (by assumption) rfl | exact ro_at hw (by (repeat (first | with_reducible exact Pick.here _ | apply Pick.there)); first | done | fail) (by assumption) rfl | exact own_at0 hw (by (repeat (first | with_reducible exact Pick.here _ | apply Pick.there)); first | done | fail) (by assumption) rfl | exact own_at hw (by (repeat (first | with_reducible exact Pick.here _ | apply Pick.there)); first | done | fail) (by assumption) rfl | exact old_cell hw (by (repeat (first | with_reducible exact Pick.here _ | apply Pick.there)); first | done | fail) (by assumption) | assumption)) (by first | exact hw | exact Sat.sub hw (by (repeat (first | with_reducible exact Sub.refl _ | exact Sub.nil _ | (apply Sub.cons; focus ((repeat (first | with_reducible exact Pick.here _ | apply Pick.there)); (first | done | fail))) | with_reducible apply Sub.drop)); first | done | fail)) ?_
        refine rs_kv 5 rfl rfl rfl rfl (by first | exact sat_cells hw (by (repeat (first | with_reducible exact Pick.here _ | apply Pick.there)); first | done | fail) ⟨rfl, rfl, rfl, rfl, rfl, rfl, rfl, rfl, trivial⟩ | exact ro_ats hw (by (repeat (first | with_reducible exact Pick.here _ | apply Pick.there)); first | done | fail) (by assumption) | exact own_cells hw (by (repeat (first | with_reducible exact Pick.here _ | apply Pick.there)); first | done | fail) (by assumption) | exact old_cells hw (by (repeat (first | with_reducible exact Pick.here _ | apply Pick.there)); first | done | fail) (by assumption)) (v_loadAgg (vs := [_, _, _, _, _, _, _, _]) T.agg_42_8 rfl rfl) ?_
        refine rs_k 6 rfl rfl (k_buildSlice (cells := [_, _, _, _, _, _, _, _]) hw T.sl_39_42_8 T.zero_42 rfl rfl rfl rfl rfl rfl (fun bk6_6 w hw => ?_))
        refine ⟨fun _ => (by first | exact hw | exact Sat.sub hw (by (repeat (first | with_reducible exact Sub.refl _ | exact Sub.nil _ | (apply Sub.cons; focus ((repeat (first | with_reducible exact Pick.here _ | apply Pick.there)); (first | done | fail))) | with_reducible apply Sub.drop)); first | done | fail) | exact Sat.sub (Sat.shrink (Sat.pick hw (by (repeat (first | with_reducible exact Pick.here _ | apply Pick.there)); first | done | fail)) (by assumption)) (by (repeat (first | with_reducible exact Sub.refl _ | exact Sub.nil _ | (apply Sub.cons; focus ((repeat (first | with_reducible exact Pick.here _ | apply Pick.there)); (first | done | fail))) | with_reducible apply Sub.drop)); first | done | fail)), ?_⟩
        refine rs_k 7 rfl rfl (k_append (news := [_, _, _, _, _, _, _, _]) hw T.sl_39_42_8 T.zero_42 T.bytes_42_96 rfl (by decide) rfl rfl (by (repeat (first | with_reducible exact Pick.here _ | apply Pick.there)); first | done | fail) rfl (by first | exact sat_cells hw (by (repeat (first | with_reducible exact Pick.here _ | apply Pick.there)); first | done | fail) ⟨rfl, rfl, rfl, rfl, rfl, rfl, rfl, rfl, trivial⟩ | exact old_cells hw (by (repeat (first | with_reducible exact Pick.here _ | apply Pick.there)); first | done | fail) (by assumption)) (by simp [Value.oneCell']) (by omega) (by simp only [maxLen]; omega) rfl (fun vv6_7 w hw hnil => ?_))
        refine ⟨fun hn => absurd (by decide) hn, ?_⟩
        obtain ⟨a3, c3, rfl, _, _, _⟩ := hw.own_shape
        refine rs_kv 8 rfl rfl rfl rfl (S' := fun _ => True) trivial (v_nilCheck rfl) ?_
        first | (refine rs_kv 9 rfl rfl rfl rfl (S' := fun _ => True) trivial (v_fieldAddr0 T.fld_67_1_1 rfl) ?_) | (refine rs_kv 9 rfl rfl rfl rfl (S' := fun _ => True) trivial (v_fieldAddr T.fld_67_1_1 rfl) ?_)
        first | (refine rs_k 10 rfl rfl (k_storeOwn hw T.scal_39 rfl rfl rfl (by (repeat (first | with_reducible exact Pick.here _ | apply Pick.there)); first | done | fail) (by assumption) (fun w hw => ?_))) | (refine rs_k 10 rfl rfl (k_store hw T.scal_39 rfl rfl rfl (by (repeat (first | with_reducible exact Pick.here _ | apply Pick.there)); first | done | fail) rfl (by first | (simp only [List.set, Int.reduceToNat, Nat.reduceMul, Nat.reduceAdd]; rfl) | rfl) (fun w hw => ?_)))
        refine ⟨fun hn => absurd (by decide) hn, ?_⟩
        refine rs_done (g_le (Fr.le_skip rfl (Fr.le_skip rfl (Fr.le_skip rfl (Fr.le_skip rfl (Fr.le_skip rfl (Fr.le_skip rfl (Fr.le_skip rfl (Fr.le_skip rfl (Fr.le_skip rfl (Fr.le_skip rfl (Fr.le_refl _))))))))))) ?_)
        refine g_seq ?_
        refine g_region ?_
        refine rl_v rfl rfl rfl (S := fun _ => True) trivial (v_assign rfl) ?_
        refine rl_nil (g_le (Fr.le_keep (Fr.le_refl _)) ?_)
        refine g_ret1 Try.func32 rfl rfl ?_
        have hwf := rdHd_wf hrd
        rw [hput]
        refine ⟨g', .slice a3 ((s.l.eraseIdx i).length + 1) c3, _, hg', rfl, hels2.snoc rfl (x := ⟨r, n, s.l[i].pins⟩) ⟨_, _, _, _, _, _, _, _, rfl, ⟨rfl, hr⟩, hnd', rfl, hwf⟩, ?_⟩
        simp only [List.length_append, List.length_cons, List.length_nil]
        exact hw.sub (by (repeat (first | with_reducible exact Sub.refl _ | exact Sub.nil _ | (apply Sub.cons; focus ((repeat (first | with_reducible exact Pick.here _ | apply Pick.there)); (first | done | fail))) | with_reducible apply Sub.drop)); first | done | fail)
    · try with_reducible exact tf_elim h1
      all_goals
        try replace h1 := of_decide_eq_false h1
        have hm1 : m = -1 := by omega
        refine g_skip (g_seq (g_seq ?_))
        refine g_drawR ord_f32_r8_C15t (by kernel_rfl) T.mixed hw (fun w hw => ?_)
        refine rs_a 0 rfl rfl rfl rfl (v_move rfl) ?_
        refine rs_a 1 rfl rfl rfl rfl (v_nilCheck rfl) ?_
        first | (refine rs_a 2 rfl rfl rfl rfl (v_fieldAddr0 T.fld_67_1_1 rfl) ?_) | (refine rs_a 2 rfl rfl rfl rfl (v_fieldAddr T.fld_67_1_1 rfl) ?_)
        refine rs_a 5 rfl rfl rfl rfl (v_move rfl) ?_
        refine rs_a 6 rfl rfl rfl rfl (v_nilCheck rfl) ?_
        first | (refine rs_a 7 rfl rfl rfl rfl (v_fieldAddr0 T.fld_67_0_0 rfl) ?_) | (refine rs_a 7 rfl rfl rfl rfl (v_fieldAddr T.fld_67_0_0 rfl) ?_)
        refine rs_v 3 rfl rfl rfl rfl (OpV.mono (v_load T.scal_39 rfl) (fun w hw => by first | exact sat_cell hw (by (repeat (first | with_reducible exact Pick.here _ | apply Pick.there)); first | done | fail) rfl | exact own_cell hw (by (repeat (first | with_reducible exact Pick.here _ | apply Pick.there)); first | done | fail) (by first | rfl | assumption) | exact ro_at0 hw (by (repeat (first | with_reducible exact Pick.here _ | apply Pick.there)); first | done | fail) (by assumption) rfl | exact ro_at hw (by (repeat (first | with_reducible exact Pick.here _ | apply Pick.there)); first | done | fail) (by assumption) rfl | exact own_at0 hw (by (repeat (first | with_reducible exact Pick.here _ | apply Pick.there)); first | done | fail) (by assumption) rfl | exact own_at hw (by (repeat (first | with_reducible exact Pick.here _ | apply Pick.there)); first | done | fail) (by assumption) rfl | exact old_cell hw (by (repeat (first | with_reducible exact Pick.here _ | apply Pick.there)); first | done | fail) (by assumption) | assumption)) (by first | exact hw | exact Sat.sub hw (by (repeat (first | with_reducible exact Sub.refl _ | exact Sub.nil _ | (apply Sub.cons; focus ((repeat (first | with_reducible exact Pick.here _ | apply Pick.there)); (first | done | fail))) | with_reducible apply Sub.drop)); first | done | fail)) ?_
        refine rs_a 4 rfl rfl rfl rfl (v_lenSlice T.sl_39_42_8 rfl) ?_
        refine rs_kv 8 rfl rfl rfl rfl (by first | exact sat_cell hw (by (repeat (first | with_reducible exact Pick.here _ | apply Pick.there)); first | done | fail) rfl | exact own_cell hw (by (repeat (first | with_reducible exact Pick.here _ | apply Pick.there)); first | done | fail) (by first | rfl | assumption) | exact ro_at0 hw (by (repeat (first | with_reducible exact Pick.here _ | apply Pick.there)); first | done | fail) (by assumption) rfl | exact ro_at hw (by (repeat (first | with_reducible exact Pick.here _ | apply Pick.there)); first | done | fail) (by assumption) rfl | exact own_at0 hw (by (repeat (first | with_reducible exact Pick.here _ | apply Pick.there)); first | done | fail) (by assumption) rfl | exact own_at hw (by (repeat (first | with_reducible exact Pick.here _ | apply Pick.there)); first | done | fail) (by assumption) rfl | exact old_cell hw (by (repeat (first | with_reducible exact Pick.here _ | apply Pick.there)); first | done | fail) (by assumption) | assumption) (v_load T.scal_3 rfl) ?_
        first | (refine rs_kv 9 rfl rfl rfl rfl (S' := fun _ => True) trivial (v_geqT rfl rfl (by omega)) ?_) | (refine rs_kv 9 rfl rfl rfl rfl (S' := fun _ => True) trivial (v_geqF rfl rfl (by omega)) ?_) | (refine rs_kv 9 rfl rfl rfl rfl (S' := fun _ => True) trivial (v_geq rfl rfl) ?_)
        refine rs_done (g_le (Fr.le_keep (Fr.le_skip rfl (Fr.le_skip rfl (Fr.le_skip rfl (Fr.le_skip rfl (Fr.le_skip rfl (Fr.le_skip rfl (Fr.le_skip rfl (Fr.le_skip rfl (Fr.le_skip rfl (Fr.le_refl _))))))))))) ?_)
        refine g_cond rfl (fun h2 => ?_) (fun h2 => ?_)
        · try with_reducible exact ft_elim h2
          all_goals
            try replace h2 := of_decide_eq_true h2
            refine g_seq ?_
            refine g_region ?_
            refine rl_v rfl rfl rfl (S := fun _ => True) trivial (v_assign rfl) ?_
            refine rl_nil (g_le (Fr.le_keep (Fr.le_refl _)) ?_)
            refine g_seq (g_seq ?_)
            refine g_region ?_
            refine rl_v rfl rfl rfl (S := fun _ => True) trivial (v_move rfl) ?_
            refine rl_v rfl rfl rfl (S := fun _ => True) trivial (v_nilCheck rfl) ?_
            first | (refine rl_v rfl rfl rfl (S := fun _ => True) trivial (v_fieldAddr0 T.fld_67_1_1 rfl) ?_) | (refine rl_v rfl rfl rfl (S := fun _ => True) trivial (v_fieldAddr T.fld_67_1_1 rfl) ?_)
            refine rl_v rfl rfl rfl (by first | exact sat_cell hw (by (repeat (first | with_reducible exact Pick.here _ | apply Pick.there)); first | done | fail) rfl | exact own_cell hw (by (repeat (first | with_reducible exact Pick.here _ | apply Pick.there)); first | done | fail) (by first | rfl | assumption) | exact ro_at0 hw (by (repeat (first | with_reducible exact Pick.here _ | apply Pick.there)); first | done | fail) (by assumption) rfl | exact ro_at hw (by (repeat (first | with_reducible exact Pick.here _ | apply Pick.there)); first | done | fail) (by assumption) rfl | exact own_at0 hw (by (repeat (first | with_reducible exact Pick.here _ | apply Pick.there)); first | done | fail) (by assumption) rfl | exact own_at hw (by (repeat (first | with_reducible exact Pick.here _ | apply Pick.there)); first | done | fail) (by assumption) rfl | exact old_cell hw (by (repeat (first | with_reducible exact Pick.here _ | apply Pick.there)); first | done | fail) (by assumption) | assumption) (v_load T.scal_39 rfl) ?_
            refine rl_v rfl rfl rfl (S := fun _ => True) trivial (v_lenSlice T.sl_39_42_8 rfl) ?_
            first | (refine rl_v rfl rfl rfl (S := fun _ => True) trivial (v_sub rfl rfl (by omega)) ?_) | (refine rl_v rfl rfl rfl (S := fun _ => True) trivial (v_subW rfl rfl) ?_)
            refine rl_v rfl rfl rfl (S := fun _ => True) trivial (v_assign rfl) ?_
            refine rl_nil (g_le (Fr.le_keep (Fr.le_skip rfl (Fr.le_skip rfl (Fr.le_skip rfl (Fr.le_skip rfl (Fr.le_skip rfl (Fr.le_skip rfl (Fr.le_refl _)))))))) ?_)
            refine g_block ?_
            refine g_loopC (σ := Int × Int) (fun C x => (10, .int .i64 x.1) :: (9, .int .i64 x.2) :: C) [(0, _), (6, _), (7, _)] (by repeat (first | exact Fr.le_nil _ | refine Fr.le_cons rfl ?_)) (fun z w => -1 ≤ z.1 ∧ z.1 < s.l.length ∧ z.2 = idx (fun h : Hd => decide (h.pins = 0)) (s.l.drop (z.1 + 1).toNat) (z.1 + 1) ∧ Sat E w (pt bk1_4 (.cells [.int .u64 r.key, .int .i64 r.seg, .int .i64 r.off, .int .i64 r.len, .bool n.leaf, .slice a4 n.entries.length c4, .slice a5 n.kids.length c5, .int .i64 0].toArray 42 (0, 0)) :: pt c (.cells [Value.int .i64 (s : Ch).room, (.slice a s.l.length cc), .int .i64 (s : Ch).hits, .int .i64 (s : Ch).misses].toArray 67 (0, 0)) :: OwnSl 42 8 (.slice a s.l.length cc) (s : Ch).l.length cells :: RO g' :: L)) (fun z => (z.1 + 1).toNat) ?_ ((s.l.length : Int) - 1, -1) (by repeat (first | exact Fr.le_nil _ | refine Fr.le_cons rfl ?_)) ⟨by simp only; omega, by simp only; omega, by simp only; rw [List.drop_eq_nil_of_le (by omega)]; rfl, hw.sub (by (repeat (first | with_reducible exact Sub.refl _ | exact Sub.nil _ | (apply Sub.cons; focus ((repeat (first | with_reducible exact Pick.here _ | apply Pick.there)); (first | done | fail))) | with_reducible apply Sub.drop)); first | done | fail)⟩
            rintro ⟨k, fr⟩ w ⟨hk0, hk1, hfr, hw⟩ ih
            dsimp only at hk0 hk1 hfr hw ⊢
            refine g_seq (g_seq ?_)
            refine g_region ?_
            refine rl_v rfl rfl rfl (S := fun _ => True) trivial (v_move rfl) ?_
            first | (refine rl_v rfl rfl rfl (S := fun _ => True) trivial (v_geqT rfl rfl (by omega)) ?_) | (refine rl_v rfl rfl rfl (S := fun _ => True) trivial (v_geqF rfl rfl (by omega)) ?_) | (refine rl_v rfl rfl rfl (S := fun _ => True) trivial (v_geq rfl rfl) ?_)
            refine rl_nil (g_le (Fr.le_keep (Fr.le_keep (Fr.le_refl _))) ?_)
            refine g_cond rfl (fun h3 => ?_) (fun h3 => ?_)
            · try with_reducible exact ft_elim h3
              all_goals
                try replace h3 := of_decide_eq_true h3
                refine g_skip (g_seq (g_block (g_seq ?_)))
                have hz := hw
                clear hw
                obtain ⟨gb, rfl⟩ := ha (by omega)
                have hlt : k.toNat < s.l.length := by omega
                have hx : s.l[k.toNat]? = some s.l[k.toNat] := List.getElem?_eq_getElem hlt
                obtain ⟨ea, en, ec, ka, kn, kc, hsub, hrd, hnd, hok, hle⟩ := hd_cells hels hx
                have hw := hz
                have hdr : idx (fun h : Hd => decide (h.pins = 0)) (s.l.drop k.toNat) k = if s.l[k.toNat].pins = 0 then k else fr := by rw [List.drop_eq_getElem_cons hlt]; simp only [idx, decide_eq_true_eq]; rw [hfr, show (k + 1).toNat = k.toNat + 1 by omega]
                refine g_region ?_
                refine rl_v rfl rfl rfl (S := fun _ => True) trivial (v_move rfl) ?_
                refine rl_v rfl rfl rfl (S := fun _ => True) trivial (v_nilCheck rfl) ?_
                first | (refine rl_v rfl rfl rfl (S := fun _ => True) trivial (v_fieldAddr0 T.fld_67_1_1 rfl) ?_) | (refine rl_v rfl rfl rfl (S := fun _ => True) trivial (v_fieldAddr T.fld_67_1_1 rfl) ?_)
                refine rl_v rfl rfl rfl (by first | exact sat_cell hw (by (repeat (first | with_reducible exact Pick.here _ | apply Pick.there)); first | done | fail) rfl | exact own_cell hw (by (repeat (first | with_reducible exact Pick.here _ | apply Pick.there)); first | done | fail) (by first | rfl | assumption) | exact ro_at0 hw (by (repeat (first | with_reducible exact Pick.here _ | apply Pick.there)); first | done | fail) (by assumption) rfl | exact ro_at hw (by (repeat (first | with_reducible exact Pick.here _ | apply Pick.there)); first | done | fail) (by assumption) rfl | exact own_at0 hw (by (repeat (first | with_reducible exact Pick.here _ | apply Pick.there)); first | done | fail) (by assumption) rfl | exact own_at hw (by (repeat (first | with_reducible exact Pick.here _ | apply Pick.there)); first | done | fail) (by assumption) rfl | exact old_cell hw (by (repeat (first | with_reducible exact Pick.here _ | apply Pick.there)); first | done | fail) (by assumption) | assumption) (v_load T.scal_39 rfl) ?_
                refine rl_v rfl rfl rfl (S := fun _ => True) trivial (v_move rfl) ?_
                refine rl_v rfl rfl rfl (S := fun _ => True) trivial (v_indexAddr T.sl_39_42_8 rfl rfl (by omega) (by omega)) ?_
                first | (refine rl_v rfl rfl rfl (S := fun _ => True) trivial (v_fieldAddr0 T.fld_42_2_7 rfl) ?_) | (refine rl_v rfl rfl rfl (S := fun _ => True) trivial (v_fieldAddr T.fld_42_2_7 rfl) ?_)
                refine rl_v rfl rfl rfl (by first | exact sat_cell hw (by (repeat (first | with_reducible exact Pick.here _ | apply Pick.there)); first | done | fail) rfl | exact own_cell hw (by (repeat (first | with_reducible exact Pick.here _ | apply Pick.there)); first | done | fail) (by first | rfl | assumption) | exact ro_at0 hw (by (repeat (first | with_reducible exact Pick.here _ | apply Pick.there)); first | done | fail) (by assumption) rfl | exact ro_at hw (by (repeat (first | with_reducible exact Pick.here _ | apply Pick.there)); first | done | fail) (by assumption) rfl | exact own_at0 hw (by (repeat (first | with_reducible exact Pick.here _ | apply Pick.there)); first | done | fail) (by assumption) rfl | exact own_at hw (by (repeat (first | with_reducible exact Pick.here _ | apply Pick.there)); first | done | fail) (by assumption) rfl | exact old_cell hw (by (repeat (first | with_reducible exact Pick.here _ | apply Pick.there)); first | done | fail) (by assumption) | assumption) (v_load T.scal_3 rfl) ?_
                first | (refine rl_v rfl rfl rfl (S := fun _ => True) trivial (v_eqlT rfl rfl (by first | omega | rfl)) ?_) | (refine rl_v rfl rfl rfl (S := fun _ => True) trivial (v_eqlF rfl rfl (by omega)) ?_) | (refine rl_v rfl rfl rfl (S := fun _ => True) trivial (v_eql rfl rfl) ?_)
                refine rl_nil (g_le (Fr.le_keep (Fr.le_keep (Fr.le_keep (Fr.le_keep (Fr.le_keep (Fr.le_keep (Fr.le_keep (Fr.le_keep (Fr.le_keep (Fr.le_refl _)))))))))) ?_)
                refine g_cond rfl (fun h4 => ?_) (fun h4 => ?_)
                · try with_reducible exact ft_elim h4
                  all_goals
                    try replace h4 := of_decide_eq_true h4
                    rw [if_pos (by omega)] at hdr
                    refine g_region ?_
                    refine rl_v rfl rfl rfl (S := fun _ => True) trivial (v_move rfl) ?_
                    refine rl_v rfl rfl rfl (S := fun _ => True) trivial (v_assign rfl) ?_
                    refine rl_nil (g_le (Fr.le_keep (Fr.le_keep (Fr.le_refl _))) ?_)
                    refine g_inBlock ?_
                    refine g_region ?_
                    refine rl_v rfl rfl rfl (S := fun _ => True) trivial (v_move rfl) ?_
                    first | (refine rl_v rfl rfl rfl (S := fun _ => True) trivial (v_sub rfl rfl (by omega)) ?_) | (refine rl_v rfl rfl rfl (S := fun _ => True) trivial (v_subW rfl rfl) ?_)
                    refine rl_v rfl rfl rfl (S := fun _ => True) trivial (v_assign rfl) ?_
                    refine rl_nil (g_le (Fr.le_keep (Fr.le_keep (Fr.le_keep (Fr.le_refl _)))) ?_)
                    exact g_le (by repeat (first | exact Fr.le_nil _ | refine Fr.le_cons rfl ?_)) (ih (k - 1, k) w ⟨by simp only; omega, by simp only; omega, by simp only; rw [show k - 1 + 1 = k by omega, hdr], hw.sub (by (repeat (first | with_reducible exact Sub.refl _ | exact Sub.nil _ | (apply Sub.cons; focus ((repeat (first | with_reducible exact Pick.here _ | apply Pick.there)); (first | done | fail))) | with_reducible apply Sub.drop)); first | done | fail)⟩ (by simp only; omega))
                · try with_reducible exact tf_elim h4
                  all_goals
                    try replace h4 := of_decide_eq_false h4
                    rw [if_neg (by omega)] at hdr
                    refine g_skip (g_inBlock ?_)
                    refine g_region ?_
                    refine rl_v rfl rfl rfl (S := fun _ => True) trivial (v_move rfl) ?_
                    first | (refine rl_v rfl rfl rfl (S := fun _ => True) trivial (v_sub rfl rfl (by omega)) ?_) | (refine rl_v rfl rfl rfl (S := fun _ => True) trivial (v_subW rfl rfl) ?_)
                    refine rl_v rfl rfl rfl (S := fun _ => True) trivial (v_assign rfl) ?_
                    refine rl_nil (g_le (Fr.le_keep (Fr.le_keep (Fr.le_keep (Fr.le_refl _)))) ?_)
                    exact g_le (by repeat (first | exact Fr.le_nil _ | refine Fr.le_cons rfl ?_)) (ih (k - 1, fr) w ⟨by simp only; omega, by simp only; omega, by simp only; rw [show k - 1 + 1 = k by omega, hdr], hw.sub (by (repeat (first | with_reducible exact Sub.refl _ | exact Sub.nil _ | (apply Sub.cons; focus ((repeat (first | with_reducible exact Pick.here _ | apply Pick.there)); (first | done | fail))) | with_reducible apply Sub.drop)); first | done | fail)⟩ (by simp only; omega))
            · try with_reducible exact tf_elim h3
              all_goals
                try replace h3 := of_decide_eq_false h3
                refine g_exit rfl (g_seq (g_seq ?_))
                have hfin : fr = q := by rw [hfr, show k + 1 = 0 by omega]; exact hqq
                subst hfin
                refine g_region ?_
                refine rl_v rfl rfl rfl (S := fun _ => True) trivial (v_move rfl) ?_
                first | (refine rl_v rfl rfl rfl (S := fun _ => True) trivial (v_lssT rfl rfl (by omega)) ?_) | (refine rl_v rfl rfl rfl (S := fun _ => True) trivial (v_lssF rfl rfl (by omega)) ?_) | (refine rl_v rfl rfl rfl (S := fun _ => True) trivial (v_lss rfl rfl) ?_)
                refine rl_nil (g_le (Fr.le_keep (Fr.le_skip rfl (Fr.le_refl _))) ?_)
                refine g_cond rfl (fun h5 => ?_) (fun h5 => ?_)
                · try with_reducible exact ft_elim h5
                  all_goals
                    try replace h5 := of_decide_eq_true h5
                    have hput : s.put r n = (150, s) := put_full (by omega) h2 (by omega)
                    refine g_seq ?_
                    refine g_region ?_
                    refine rl_v rfl rfl rfl (S := fun _ => True) trivial (v_assign rfl) ?_
                    refine rl_nil (g_le (Fr.le_keep (Fr.le_refl _)) ?_)
                    refine g_ret1 Try.func32 rfl rfl ?_
                    refine ⟨g', .slice a s.l.length cc, cells, hg', ?_⟩
                    rw [hput]
                    exact ⟨rfl, hels', hw.sub (by (repeat (first | with_reducible exact Sub.refl _ | exact Sub.nil _ | (apply Sub.cons; focus ((repeat (first | with_reducible exact Pick.here _ | apply Pick.there)); (first | done | fail))) | with_reducible apply Sub.drop)); first | done | fail)⟩
                · try with_reducible exact tf_elim h5
                  all_goals
                    try replace h5 := of_decide_eq_false h5
                    obtain ⟨i, rfl⟩ : ∃ i : Nat, fr = i := ⟨fr.toNat, by omega⟩
                    have hlt : i < s.l.length := by omega
                    have hx : s.l[i]? = some s.l[i] := List.getElem?_eq_getElem hlt
                    have hel : (s.l.eraseIdx i).length + 1 = s.l.length := by rw [List.length_eraseIdx_of_lt hlt]; omega
                    have hput : s.put r n = (0, ⟨s.room, s.l.eraseIdx i ++ [⟨r, n, 0⟩], s.hits, s.misses⟩) := put_free (by omega) h2 hqq hlt
                    refine g_skip ?_
                    refine g_region ?_
                    refine rl_v rfl rfl rfl (S := fun _ => True) trivial (v_move rfl) ?_
                    refine rl_v rfl rfl rfl (S := fun _ => True) trivial (v_move rfl) ?_
                    refine rl_k rfl (k_callf Try.func42 rfl rfl rfl rfl ?_)
                    refine Calls.mono (rout_calls (s := s) i hlt hels' hb (hw.sub (by (repeat (first | with_reducible exact Sub.refl _ | exact Sub.nil _ | (apply Sub.cons; focus ((repeat (first | with_reducible exact Pick.here _ | apply Pick.there)); (first | done | fail))) | with_reducible apply Sub.drop)); first | done | fail))) ?_
                    rintro _ w ⟨rfl, lv', cells', hels2, hw⟩
                    dsimp only at hw hels2
                    obtain ⟨a2, c2, rfl, _, _, _⟩ := (hw.pick .at1).own_shape
                    refine ⟨_, rfl, ?_⟩
                    refine rl_nil (g_le (Fr.le_skip rfl (Fr.le_skip rfl (Fr.le_skip rfl (Fr.le_refl _)))) ?_)
                    refine g_seq ?_
                    refine g_drawR ord_f32_r18_C15t (by kernel_rfl) T.mixed hw (fun w hw => ?_)
                    refine rs_a 0 rfl rfl rfl rfl (v_move rfl) ?_
                    refine rs_a 1 rfl rfl rfl rfl (v_move rfl) ?_
                    refine rs_a 2 rfl rfl rfl rfl (v_nilCheck rfl) ?_
                    first | (refine rs_a 3 rfl rfl rfl rfl (v_fieldAddr0 T.fld_67_1_1 rfl) ?_) | (refine rs_a 3 rfl rfl rfl rfl (v_fieldAddr T.fld_67_1_1 rfl) ?_)
                    refine rs_v 4 rfl rfl rfl rfl (OpV.mono (v_load T.scal_39 rfl) (fun w hw => by first | exact sat_cell hw (by (repeat (first | with_reducible exact Pick.here _ | apply Pick.there)); first | done | fail) rfl | exact own_cell hw (by (repeat (first | with_reducible exact Pick.here _ | apply Pick.there)); first | done | fail) (by first | rfl | assumption) | exact ro_at0 hw (by (repeat (first | with_reducible exact Pick.here _ | apply Pick.there)); first | done | fail) (by assumption) rfl | exact ro_at hw (by (repeat (first | with_reducible exact Pick.here _ | apply Pick.there)); first | done | fail) (by assumption) rfl | exact own_at0 hw (by (repeat (first | with_reducible exact Pick.here _ | apply Pick.there)); first | done | fail) (by assumption) rfl | exact own_at hw (by (repeat (first | with_reducible exact Pick.here _ | apply Pick.there)); first | done | fail) (by assumption) rfl | exact old_cell hw (by (repeat (first | with_reducible exact Pick.here _ | apply Pick.there)); first | done | fail) (by assumption) | assumption)) (by first | exact hw | exact Sat.sub hw (by (repeat (first | with_reducible exact Sub.refl _ | exact Sub.nil _ | (apply Sub.cons; focus ((repeat (first | with_reducible exact Pick.here _ | apply Pick.there)); (first | done | fail))) | with_reducible apply Sub.drop)); first | done | fail)) ?_
                    refine rs_kv 5 rfl rfl rfl rfl (by first | exact sat_cells hw (by (repeat (first | with_reducible exact Pick.here _ | apply Pick.there)); first | done | fail) ⟨rfl, rfl, rfl, rfl, rfl, rfl, rfl, rfl, trivial⟩ | exact ro_ats hw (by (repeat (first | with_reducible exact Pick.here _ | apply Pick.there)); first | done | fail) (by assumption) | exact own_cells hw (by (repeat (first | with_reducible exact Pick.here _ | apply Pick.there)); first | done | fail) (by assumption) | exact old_cells hw (by (repeat (first | with_reducible exact Pick.here _ | apply Pick.there)); first | done | fail) (by assumption)) (v_loadAgg (vs := [_, _, _, _, _, _, _, _]) T.agg_42_8 rfl rfl) ?_
                    refine rs_k 6 rfl rfl (k_buildSlice (cells := [_, _, _, _, _, _, _, _]) hw T.sl_39_42_8 T.zero_42 rfl rfl rfl rfl rfl rfl (fun bk18_6 w hw => ?_))
                    refine ⟨fun _ => (by first | exact hw | exact Sat.sub hw (by (repeat (first | with_reducible exact Sub.refl _ | exact Sub.nil _ | (apply Sub.cons; focus ((repeat (first | with_reducible exact Pick.here _ | apply Pick.there)); (first | done | fail))) | with_reducible apply Sub.drop)); first | done | fail) | exact Sat.sub (Sat.shrink (Sat.pick hw (by (repeat (first | with_reducible exact Pick.here _ | apply Pick.there)); first | done | fail)) (by assumption)) (by (repeat (first | with_reducible exact Sub.refl _ | exact Sub.nil _ | (apply Sub.cons; focus ((repeat (first | with_reducible exact Pick.here _ | apply Pick.there)); (first | done | fail))) | with_reducible apply Sub.drop)); first | done | fail)), ?_⟩
                    refine rs_k 7 rfl rfl (k_append (news := [_, _, _, _, _, _, _, _]) hw T.sl_39_42_8 T.zero_42 T.bytes_42_96 rfl (by decide) rfl rfl (by (repeat (first | with_reducible exact Pick.here _ | apply Pick.there)); first | done | fail) rfl (by first | exact sat_cells hw (by (repeat (first | with_reducible exact Pick.here _ | apply Pick.there)); first | done | fail) ⟨rfl, rfl, rfl, rfl, rfl, rfl, rfl, rfl, trivial⟩ | exact old_cells hw (by (repeat (first | with_reducible exact Pick.here _ | apply Pick.there)); first | done | fail) (by assumption)) (by simp [Value.oneCell']) (by omega) (by simp only [maxLen]; omega) rfl (fun vv18_7 w hw hnil => ?_))
                    refine ⟨fun hn => absurd (by decide) hn, ?_⟩
                    obtain ⟨a3, c3, rfl, _, _, _⟩ := hw.own_shape
                    refine rs_kv 8 rfl rfl rfl rfl (S' := fun _ => True) trivial (v_nilCheck rfl) ?_
                    first | (refine rs_kv 9 rfl rfl rfl rfl (S' := fun _ => True) trivial (v_fieldAddr0 T.fld_67_1_1 rfl) ?_) | (refine rs_kv 9 rfl rfl rfl rfl (S' := fun _ => True) trivial (v_fieldAddr T.fld_67_1_1 rfl) ?_)
                    first | (refine rs_k 10 rfl rfl (k_storeOwn hw T.scal_39 rfl rfl rfl (by (repeat (first | with_reducible exact Pick.here _ | apply Pick.there)); first | done | fail) (by assumption) (fun w hw => ?_))) | (refine rs_k 10 rfl rfl (k_store hw T.scal_39 rfl rfl rfl (by (repeat (first | with_reducible exact Pick.here _ | apply Pick.there)); first | done | fail) rfl (by first | (simp only [List.set, Int.reduceToNat, Nat.reduceMul, Nat.reduceAdd]; rfl) | rfl) (fun w hw => ?_)))
                    refine ⟨fun hn => absurd (by decide) hn, ?_⟩
                    refine rs_done (g_le (Fr.le_skip rfl (Fr.le_skip rfl (Fr.le_skip rfl (Fr.le_skip rfl (Fr.le_skip rfl (Fr.le_skip rfl (Fr.le_skip rfl (Fr.le_skip rfl (Fr.le_skip rfl (Fr.le_skip rfl (Fr.le_refl _))))))))))) ?_)
                    refine g_seq ?_
                    refine g_region ?_
                    refine rl_v rfl rfl rfl (S := fun _ => True) trivial (v_assign rfl) ?_
                    refine rl_nil (g_le (Fr.le_keep (Fr.le_refl _)) ?_)
                    refine g_ret1 Try.func32 rfl rfl ?_
                    have h0wf : (Lit.int .i64 0).wf = true := by decide
                    rw [hput]
                    refine ⟨g', .slice a3 ((s.l.eraseIdx i).length + 1) c3, _, hg', rfl, hels2.snoc rfl (x := ⟨r, n, 0⟩) ⟨_, _, _, _, _, _, _, _, rfl, ⟨rfl, hr⟩, hnd', rfl, h0wf⟩, ?_⟩
                    simp only [List.length_append, List.length_cons, List.length_nil]
                    exact hw.sub (by (repeat (first | with_reducible exact Sub.refl _ | exact Sub.nil _ | (apply Sub.cons; focus ((repeat (first | with_reducible exact Pick.here _ | apply Pick.there)); (first | done | fail))) | with_reducible apply Sub.drop)); first | done | fail)
        · try with_reducible exact tf_elim h2
          all_goals
            try replace h2 := of_decide_eq_false h2
            have hput : s.put r n = (0, ⟨s.room, s.l ++ [⟨r, n, 0⟩], s.hits, s.misses⟩) := put_room (by omega) h2
            refine g_skip (g_seq ?_)
            refine g_drawR ord_f32_r18_C15t (by kernel_rfl) T.mixed hw (fun w hw => ?_)
            refine rs_a 0 rfl rfl rfl rfl (v_move rfl) ?_
            refine rs_a 1 rfl rfl rfl rfl (v_move rfl) ?_
            refine rs_a 2 rfl rfl rfl rfl (v_nilCheck rfl) ?_
            first | (refine rs_a 3 rfl rfl rfl rfl (v_fieldAddr0 T.fld_67_1_1 rfl) ?_) | (refine rs_a 3 rfl rfl rfl rfl (v_fieldAddr T.fld_67_1_1 rfl) ?_)
            refine rs_v 4 rfl rfl rfl rfl (OpV.mono (v_load T.scal_39 rfl) (fun w hw => by first | exact sat_cell hw (by (repeat (first | with_reducible exact Pick.here _ | apply Pick.there)); first | done | fail) rfl | exact own_cell hw (by (repeat (first | with_reducible exact Pick.here _ | apply Pick.there)); first | done | fail) (by first | rfl | assumption) | exact ro_at0 hw (by (repeat (first | with_reducible exact Pick.here _ | apply Pick.there)); first | done | fail) (by assumption) rfl | exact ro_at hw (by (repeat (first | with_reducible exact Pick.here _ | apply Pick.there)); first | done | fail) (by assumption) rfl | exact own_at0 hw (by (repeat (first | with_reducible exact Pick.here _ | apply Pick.there)); first | done | fail) (by assumption) rfl | exact own_at hw (by (repeat (first | with_reducible exact Pick.here _ | apply Pick.there)); first | done | fail) (by assumption) rfl | exact old_cell hw (by (repeat (first | with_reducible exact Pick.here _ | apply Pick.there)); first | done | fail) (by assumption) | assumption)) (by first | exact hw | exact Sat.sub hw (by (repeat (first | with_reducible exact Sub.refl _ | exact Sub.nil _ | (apply Sub.cons; focus ((repeat (first | with_reducible exact Pick.here _ | apply Pick.there)); (first | done | fail))) | with_reducible apply Sub.drop)); first | done | fail)) ?_
            refine rs_kv 5 rfl rfl rfl rfl (by first | exact sat_cells hw (by (repeat (first | with_reducible exact Pick.here _ | apply Pick.there)); first | done | fail) ⟨rfl, rfl, rfl, rfl, rfl, rfl, rfl, rfl, trivial⟩ | exact ro_ats hw (by (repeat (first | with_reducible exact Pick.here _ | apply Pick.there)); first | done | fail) (by assumption) | exact own_cells hw (by (repeat (first | with_reducible exact Pick.here _ | apply Pick.there)); first | done | fail) (by assumption) | exact old_cells hw (by (repeat (first | with_reducible exact Pick.here _ | apply Pick.there)); first | done | fail) (by assumption)) (v_loadAgg (vs := [_, _, _, _, _, _, _, _]) T.agg_42_8 rfl rfl) ?_
            refine rs_k 6 rfl rfl (k_buildSlice (cells := [_, _, _, _, _, _, _, _]) hw T.sl_39_42_8 T.zero_42 rfl rfl rfl rfl rfl rfl (fun bk18_6 w hw => ?_))
            refine ⟨fun _ => (by first | exact hw | exact Sat.sub hw (by (repeat (first | with_reducible exact Sub.refl _ | exact Sub.nil _ | (apply Sub.cons; focus ((repeat (first | with_reducible exact Pick.here _ | apply Pick.there)); (first | done | fail))) | with_reducible apply Sub.drop)); first | done | fail) | exact Sat.sub (Sat.shrink (Sat.pick hw (by (repeat (first | with_reducible exact Pick.here _ | apply Pick.there)); first | done | fail)) (by assumption)) (by (repeat (first | with_reducible exact Sub.refl _ | exact Sub.nil _ | (apply Sub.cons; focus ((repeat (first | with_reducible exact Pick.here _ | apply Pick.there)); (first | done | fail))) | with_reducible apply Sub.drop)); first | done | fail)), ?_⟩
            refine rs_k 7 rfl rfl (k_append (news := [_, _, _, _, _, _, _, _]) hw T.sl_39_42_8 T.zero_42 T.bytes_42_96 rfl (by decide) rfl rfl (by (repeat (first | with_reducible exact Pick.here _ | apply Pick.there)); first | done | fail) rfl (by first | exact sat_cells hw (by (repeat (first | with_reducible exact Pick.here _ | apply Pick.there)); first | done | fail) ⟨rfl, rfl, rfl, rfl, rfl, rfl, rfl, rfl, trivial⟩ | exact old_cells hw (by (repeat (first | with_reducible exact Pick.here _ | apply Pick.there)); first | done | fail) (by assumption)) (by simp [Value.oneCell']) (by omega) (by simp only [maxLen]; omega) rfl (fun vv18_7 w hw hnil => ?_))
            refine ⟨fun hn => absurd (by decide) hn, ?_⟩
            obtain ⟨a3, c3, rfl, _, _, _⟩ := hw.own_shape
            refine rs_kv 8 rfl rfl rfl rfl (S' := fun _ => True) trivial (v_nilCheck rfl) ?_
            first | (refine rs_kv 9 rfl rfl rfl rfl (S' := fun _ => True) trivial (v_fieldAddr0 T.fld_67_1_1 rfl) ?_) | (refine rs_kv 9 rfl rfl rfl rfl (S' := fun _ => True) trivial (v_fieldAddr T.fld_67_1_1 rfl) ?_)
            first | (refine rs_k 10 rfl rfl (k_storeOwn hw T.scal_39 rfl rfl rfl (by (repeat (first | with_reducible exact Pick.here _ | apply Pick.there)); first | done | fail) (by assumption) (fun w hw => ?_))) | (refine rs_k 10 rfl rfl (k_store hw T.scal_39 rfl rfl rfl (by (repeat (first | with_reducible exact Pick.here _ | apply Pick.there)); first | done | fail) rfl (by first | (simp only [List.set, Int.reduceToNat, Nat.reduceMul, Nat.reduceAdd]; rfl) | rfl) (fun w hw => ?_)))
            refine ⟨fun hn => absurd (by decide) hn, ?_⟩
            refine rs_done (g_le (Fr.le_skip rfl (Fr.le_skip rfl (Fr.le_skip rfl (Fr.le_skip rfl (Fr.le_skip rfl (Fr.le_skip rfl (Fr.le_skip rfl (Fr.le_skip rfl (Fr.le_skip rfl (Fr.le_skip rfl (Fr.le_refl _))))))))))) ?_)
            refine g_seq ?_
            refine g_region ?_
            refine rl_v rfl rfl rfl (S := fun _ => True) trivial (v_assign rfl) ?_
            refine rl_nil (g_le (Fr.le_keep (Fr.le_refl _)) ?_)
            refine g_ret1 Try.func32 rfl rfl ?_
            have h0wf : (Lit.int .i64 0).wf = true := by decide
            rw [hput]
            refine ⟨g', .slice a3 (s.l.length + 1) c3, _, hg', rfl, hels'.snoc rfl (x := ⟨r, n, 0⟩) ⟨_, _, _, _, _, _, _, _, rfl, ⟨rfl, hr⟩, hnd', rfl, h0wf⟩, ?_⟩
            simp only [List.length_append, List.length_cons, List.length_nil]
            exact hw.sub (by (repeat (first | with_reducible exact Sub.refl _ | exact Sub.nil _ | (apply Sub.cons; focus ((repeat (first | with_reducible exact Pick.here _ | apply Pick.there)); (first | done | fail))) | with_reducible apply Sub.drop)); first | done | fail)
  · skip
    refine (k_alloc hw T.zero_42 rfl rfl (fun bk1_4 w hw => ?_))
    refine ⟨fun _ => (by first | exact hw | exact Sat.sub hw (by (repeat (first | with_reducible exact Sub.refl _ | exact Sub.nil _ | (apply Sub.cons; focus ((repeat (first | with_reducible exact Pick.here _ | apply Pick.there)); (first | done | fail))) | with_reducible apply Sub.drop)); first | done | fail) | exact Sat.sub (Sat.shrink (Sat.pick hw (by (repeat (first | with_reducible exact Pick.here _ | apply Pick.there)); first | done | fail)) (by assumption)) (by (repeat (first | with_reducible exact Sub.refl _ | exact Sub.nil _ | (apply Sub.cons; focus ((repeat (first | with_reducible exact Pick.here _ | apply Pick.there)); (first | done | fail))) | with_reducible apply Sub.drop)); first | done | fail)), ?_⟩
    refine rs_k 2 rfl rfl (k_callf Try.func9 rfl rfl rfl rfl ?_)
    refine Calls.mono (copyNd_calls hnn (hw.sub (by (repeat (first | with_reducible exact Sub.refl _ | exact Sub.nil _ | (apply Sub.cons; focus ((repeat (first | with_reducible exact Pick.here _ | apply Pick.there)); (first | done | fail))) | with_reducible apply Sub.drop)); first | done | fail))) ?_
    rintro _ w ⟨ev, kv, vs, rfl, hw⟩
    obtain ⟨a4, c4, rfl, _, _, _⟩ := hw.own_shape
    obtain ⟨a5, c5, rfl, _, _, _⟩ := (hw.pick .at2).own_shape
    refine ⟨_, rfl, ?_⟩
    refine ⟨fun _ => (by first | exact hw | exact Sat.sub hw (by (repeat (first | with_reducible exact Sub.refl _ | exact Sub.nil _ | (apply Sub.cons; focus ((repeat (first | with_reducible exact Pick.here _ | apply Pick.there)); (first | done | fail))) | with_reducible apply Sub.drop)); first | done | fail) | exact Sat.sub (Sat.shrink (Sat.pick hw (by (repeat (first | with_reducible exact Pick.here _ | apply Pick.there)); first | done | fail)) (by assumption)) (by (repeat (first | with_reducible exact Sub.refl _ | exact Sub.nil _ | (apply Sub.cons; focus ((repeat (first | with_reducible exact Pick.here _ | apply Pick.there)); (first | done | fail))) | with_reducible apply Sub.drop)); first | done | fail)), ?_⟩
    refine rs_kv 3 rfl rfl rfl rfl (S' := fun _ => True) trivial (v_build rfl (T.build_42_0_1 ..)) ?_
    first | (refine rs_k 5 rfl rfl (k_storeWhole hw T.agg_42_8 rfl rfl (by simp [Value.oneCell']) rfl (by (repeat (first | with_reducible exact Pick.here _ | apply Pick.there)); first | done | fail) rfl (fun w hw => ?_))) | (refine rs_k 5 rfl rfl (k_storeAgg hw T.agg_42_8 rfl rfl (by simp [Value.oneCell']) rfl (by (repeat (first | with_reducible exact Pick.here _ | apply Pick.there)); first | done | fail) rfl rfl (fun w hw => ?_))) | (refine rs_k 5 rfl rfl (k_storeOwnAgg hw T.agg_42_8 rfl rfl (by simp [Value.oneCell']) rfl (by (repeat (first | with_reducible exact Pick.here _ | apply Pick.there)); first | done | fail) (by assumption) (by omega) (fun w hw => ?_)))
    refine ⟨fun hn => absurd (by decide) hn, ?_⟩
    refine rs_done (g_le (Fr.le_skip rfl (Fr.le_skip rfl (Fr.le_keep (Fr.le_skip rfl (Fr.le_skip rfl (Fr.le_refl _)))))) ?_)
    obtain ⟨g', hg', hnd', hw⟩ := nd_freeze (Nd.fine_of hnn) (hw.sub (by (repeat (first | with_reducible exact Sub.refl _ | exact Sub.nil _ | (apply Sub.cons; focus ((repeat (first | with_reducible exact Pick.here _ | apply Pick.there)); (first | done | fail))) | with_reducible apply Sub.drop)); first | done | fail))
    have hels' := hels.mono mono_Hd hg'
    refine g_seq ?_
    refine g_region ?_
    refine rl_v rfl rfl rfl (S := fun _ => True) trivial (v_move rfl) ?_
    refine rl_v rfl rfl rfl (by first | exact sat_cells hw (by (repeat (first | with_reducible exact Pick.here _ | apply Pick.there)); first | done | fail) ⟨rfl, rfl, rfl, rfl, trivial⟩ | exact ro_ats hw (by (repeat (first | with_reducible exact Pick.here _ | apply Pick.there)); first | done | fail) (by assumption) | exact own_cells hw (by (repeat (first | with_reducible exact Pick.here _ | apply Pick.there)); first | done | fail) (by assumption) | exact old_cells hw (by (repeat (first | with_reducible exact Pick.here _ | apply Pick.there)); first | done | fail) (by assumption)) (v_loadAgg (vs := [_, _, _, _]) T.agg_34_4 rfl rfl) ?_
    refine rl_k rfl (k_callf Try.func41 rfl rfl rfl rfl ?_)
    refine Calls.mono (rat_calls r m hm hels' hb (hw.sub (by (repeat (first | with_reducible exact Sub.refl _ | exact Sub.nil _ | (apply Sub.cons; focus ((repeat (first | with_reducible exact Pick.here _ | apply Pick.there)); (first | done | fail))) | with_reducible apply Sub.drop)); first | done | fail))) ?_
    rintro _ w ⟨rfl, hw⟩
    refine ⟨_, rfl, ?_⟩
    refine rl_v rfl rfl rfl (S := fun _ => True) trivial (v_assign rfl) ?_
    refine rl_nil (g_le (Fr.le_keep (Fr.le_skip rfl (Fr.le_skip rfl (Fr.le_skip rfl (Fr.le_refl _))))) ?_)
    refine g_seq (g_seq ?_)
    refine g_region ?_
    refine rl_v rfl rfl rfl (S := fun _ => True) trivial (v_move rfl) ?_
    first | (refine rl_v rfl rfl rfl (S := fun _ => True) trivial (v_geqT rfl rfl (by omega)) ?_) | (refine rl_v rfl rfl rfl (S := fun _ => True) trivial (v_geqF rfl rfl (by omega)) ?_) | (refine rl_v rfl rfl rfl (S := fun _ => True) trivial (v_geq rfl rfl) ?_)
    refine rl_nil (g_le (Fr.le_keep (Fr.le_skip rfl (Fr.le_refl _))) ?_)
    refine g_cond rfl (fun h1 => ?_) (fun h1 => ?_)
    · try with_reducible exact ft_elim h1
      all_goals
        try replace h1 := of_decide_eq_true h1
        obtain ⟨i, rfl⟩ : ∃ i : Nat, m = i := ⟨m.toNat, by omega⟩
        have hlt : i < s.l.length := by omega
        have hx : s.l[i]? = some s.l[i] := List.getElem?_eq_getElem hlt
        have hel : (s.l.eraseIdx i).length + 1 = s.l.length := by rw [List.length_eraseIdx_of_lt hlt]; omega
        have hput : s.put r n = (0, ⟨s.room, s.l.eraseIdx i ++ [⟨r, n, s.l[i].pins⟩], s.hits, s.misses⟩) := by unfold Ch.put; rw [hm, Int.toNat_natCast, hx]; exact if_pos h1
        have hz := hw
        clear hw
        obtain ⟨gb, rfl⟩ := ha (by omega)
        obtain ⟨ea, en, ec, ka, kn, kc, hsub, hrd, hnd, hok, hle⟩ := hd_cells hels hx
        have hw := hz
        refine g_seq ?_
        refine g_region ?_
        refine rl_v rfl rfl rfl (S := fun _ => True) trivial (v_move rfl) ?_
        refine rl_v rfl rfl rfl (S := fun _ => True) trivial (v_nilCheck rfl) ?_
        first | (refine rl_v rfl rfl rfl (S := fun _ => True) trivial (v_fieldAddr0 T.fld_67_1_1 rfl) ?_) | (refine rl_v rfl rfl rfl (S := fun _ => True) trivial (v_fieldAddr T.fld_67_1_1 rfl) ?_)
        refine rl_v rfl rfl rfl (by first | exact sat_cell hw (by (repeat (first | with_reducible exact Pick.here _ | apply Pick.there)); first | done | fail) rfl | exact own_cell hw (by (repeat (first | with_reducible exact Pick.here _ | apply Pick.there)); first | done | fail) (by first | rfl | assumption) | exact ro_at0 hw (by (repeat (first | with_reducible exact Pick.here _ | apply Pick.there)); first | done | fail) (by assumption) rfl | exact ro_at hw (by (repeat (first | with_reducible exact Pick.here _ | apply Pick.there)); first | done | fail) (by assumption) rfl | exact own_at0 hw (by (repeat (first | with_reducible exact Pick.here _ | apply Pick.there)); first | done | fail) (by assumption) rfl | exact own_at hw (by (repeat (first | with_reducible exact Pick.here _ | apply Pick.there)); first | done | fail) (by assumption) rfl | exact old_cell hw (by (repeat (first | with_reducible exact Pick.here _ | apply Pick.there)); first | done | fail) (by assumption) | assumption) (v_load T.scal_39 rfl) ?_
        refine rl_v rfl rfl rfl (S := fun _ => True) trivial (v_move rfl) ?_
        refine rl_v rfl rfl rfl (S := fun _ => True) trivial (v_indexAddr T.sl_39_42_8 rfl rfl (by omega) (by omega)) ?_
        first | (refine rl_v rfl rfl rfl (S := fun _ => True) trivial (v_fieldAddr0 T.fld_42_2_7 rfl) ?_) | (refine rl_v rfl rfl rfl (S := fun _ => True) trivial (v_fieldAddr T.fld_42_2_7 rfl) ?_)
        refine rl_v rfl rfl rfl (by first | exact sat_cell hw (by (repeat (first | with_reducible exact Pick.here _ | apply Pick.there)); first | done | fail) rfl | exact own_cell hw (by (repeat (first | with_reducible exact Pick.here _ | apply Pick.there)); first | done | fail) (by first | rfl | assumption) | exact ro_at0 hw (by (repeat (first | with_reducible exact Pick.here _ | apply Pick.there)); first | done | fail) (by assumption) rfl | exact ro_at hw (by (repeat (first | with_reducible exact Pick.here _ | apply Pick.there)); first | done | fail) (by assumption) rfl | exact own_at0 hw (by (repeat (first | with_reducible exact Pick.here _ | apply Pick.there)); first | done | fail) (by assumption) rfl | exact own_at hw (by (repeat (first | with_reducible exact Pick.here _ | apply Pick.there)); first | done | fail) (by assumption) rfl | exact old_cell hw (by (repeat (first | with_reducible exact Pick.here _ | apply Pick.there)); first | done | fail) (by assumption) | assumption) (v_load T.scal_3 rfl) ?_
        first | (refine rl_v rfl rfl rfl (S := fun _ => True) trivial (v_fieldAddr0 T.fld_42_2_7 rfl) ?_) | (refine rl_v rfl rfl rfl (S := fun _ => True) trivial (v_fieldAddr T.fld_42_2_7 rfl) ?_)
        first | (refine rl_k rfl (k_storeOwn hw T.scal_3 rfl rfl rfl (by (repeat (first | with_reducible exact Pick.here _ | apply Pick.there)); first | done | fail) (by assumption) (fun w hw => ?_))) | (refine rl_k rfl (k_store hw T.scal_3 rfl rfl rfl (by (repeat (first | with_reducible exact Pick.here _ | apply Pick.there)); first | done | fail) rfl (by first | (simp only [List.set, Int.reduceToNat, Nat.reduceMul, Nat.reduceAdd]; rfl) | rfl) (fun w hw => ?_)))
        refine rl_nil (g_le (Fr.le_skip rfl (Fr.le_skip rfl (Fr.le_skip rfl (Fr.le_skip rfl (Fr.le_skip rfl (Fr.le_skip rfl (Fr.le_skip rfl (Fr.le_skip rfl (Fr.le_skip rfl (Fr.le_refl _)))))))))) ?_)
        refine g_seq ?_
        refine g_region ?_
        refine rl_v rfl rfl rfl (S := fun _ => True) trivial (v_move rfl) ?_
        refine rl_v rfl rfl rfl (S := fun _ => True) trivial (v_move rfl) ?_
        refine rl_k rfl (k_callf Try.func42 rfl rfl rfl rfl ?_)
        refine Calls.mono (rout_calls (s := s) i hlt hels' hb (hw.sub (by (repeat (first | with_reducible exact Sub.refl _ | exact Sub.nil _ | (apply Sub.cons; focus ((repeat (first | with_reducible exact Pick.here _ | apply Pick.there)); (first | done | fail))) | with_reducible apply Sub.drop)); first | done | fail))) ?_
        rintro _ w ⟨rfl, lv', cells', hels2, hw⟩
        dsimp only at hw hels2
        obtain ⟨a2, c2, rfl, _, _, _⟩ := (hw.pick .at1).own_shape
        refine ⟨_, rfl, ?_⟩
        refine rl_nil (g_le (Fr.le_skip rfl (Fr.le_skip rfl (Fr.le_skip rfl (Fr.le_refl _)))) ?_)
        refine g_seq ?_
        refine g_drawR ord_f32_r6_C15t (by kernel_rfl) T.mixed hw (fun w hw => ?_)
        refine rs_a 0 rfl rfl rfl rfl (v_move rfl) ?_
        refine rs_a 1 rfl rfl rfl rfl (v_move rfl) ?_
        refine rs_a 2 rfl rfl rfl rfl (v_nilCheck rfl) ?_
        first | (refine rs_a 3 rfl rfl rfl rfl (v_fieldAddr0 T.fld_67_1_1 rfl) ?_) | (refine rs_a 3 rfl rfl rfl rfl (v_fieldAddr T.fld_67_1_1 rfl) ?_)
        refine rs_v 4 rfl rfl rfl rfl (OpV.mono (v_load T.scal_39 rfl) (fun w hw => by first | exact sat_cell hw (by (repeat (first | with_reducible exact Pick.here _ | apply Pick.there)); first | done | fail) rfl | exact own_cell hw (by (repeat (first | with_reducible exact Pick.here _ | apply Pick.there)); first | done | fail) (by first | rfl | assumption) | exact ro_at0 hw (by (repeat (first | with_reducible exact Pick.here _ | apply Pick.there)); first | done | fail) (by assumption) rfl | exact ro_at hw (by (repeat (first | with_reducible exact Pick.here _ | apply Pick.there)); first | done | fail) (by assumption) rfl | exact own_at0 hw (by (repeat (first | with_reducible exact Pick.here _ | apply Pick.there)); first | done | fail) (by assumption) rfl | exact own_at hw (by (repeat (first | with_reducible exact Pick.here _ | apply Pick.there)); first | done | fail) (by assumption) rfl | exact old_cell hw (by (repeat (first | with_reducible exact Pick.here _ | apply Pick.there)); first | done | fail) (by assumption) | assumption)) (by first | exact hw | exact Sat.sub hw (by (repeat (first | with_reducible exact Sub.refl _ | exact Sub.nil _ | (apply Sub.cons; focus ((repeat (first | with_reducible exact Pick.here _ | apply Pick.there)); (first | done | fail))) | with_reducible apply Sub.drop)); first | done | fail)) ?_
        refine rs_kv 5 rfl rfl rfl rfl (by first | exact sat_cells hw (by (repeat (first | with_reducible exact Pick.here _ | apply Pick.there)); first | done | fail) ⟨rfl, rfl, rfl, rfl, rfl, rfl, rfl, rfl, trivial⟩ | exact ro_ats hw (by (repeat (first | with_reducible exact Pick.here _ | apply Pick.there)); first | done | fail) (by assumption) | exact own_cells hw (by (repeat (first | with_reducible exact Pick.here _ | apply Pick.there)); first | done | fail) (by assumption) | exact old_cells hw (by (repeat (first | with_reducible exact Pick.here _ | apply Pick.there)); first | done | fail) (by assumption)) (v_loadAgg (vs := [_, _, _, _, _, _, _, _]) T.agg_42_8 rfl rfl) ?_
        refine rs_k 6 rfl rfl (k_buildSlice (cells := [_, _, _, _, _, _, _, _]) hw T.sl_39_42_8 T.zero_42 rfl rfl rfl rfl rfl rfl (fun bk6_6 w hw => ?_))
        refine ⟨fun _ => (by first | exact hw | exact Sat.sub hw (by (repeat (first | with_reducible exact Sub.refl _ | exact Sub.nil _ | (apply Sub.cons; focus ((repeat (first | with_reducible exact Pick.here _ | apply Pick.there)); (first | done | fail))) | with_reducible apply Sub.drop)); first | done | fail) | exact Sat.sub (Sat.shrink (Sat.pick hw (by (repeat (first | with_reducible exact Pick.here _ | apply Pick.there)); first | done | fail)) (by assumption)) (by (repeat (first | with_reducible exact Sub.refl _ | exact Sub.nil _ | (apply Sub.cons; focus ((repeat (first | with_reducible exact Pick.here _ | apply Pick.there)); (first | done | fail))) | with_reducible apply Sub.drop)); first | done | fail)), ?_⟩
        refine rs_k 7 rfl rfl (k_append (news := [_, _, _, _, _, _, _, _]) hw T.sl_39_42_8 T.zero_42 T.bytes_42_96 rfl (by decide) rfl rfl (by (repeat (first | with_reducible exact Pick.here _ | apply Pick.there)); first | done | fail) rfl (by first | exact sat_cells hw (by (repeat (first | with_reducible exact Pick.here _ | apply Pick.there)); first | done | fail) ⟨rfl, rfl, rfl, rfl, rfl, rfl, rfl, rfl, trivial⟩ | exact old_cells hw (by (repeat (first | with_reducible exact Pick.here _ | apply Pick.there)); first | done | fail) (by assumption)) (by simp [Value.oneCell']) (by omega) (by simp only [maxLen]; omega) rfl (fun vv6_7 w hw hnil => ?_))
        refine ⟨fun hn => absurd (by decide) hn, ?_⟩
        obtain ⟨a3, c3, rfl, _, _, _⟩ := hw.own_shape
        refine rs_kv 8 rfl rfl rfl rfl (S' := fun _ => True) trivial (v_nilCheck rfl) ?_
        first | (refine rs_kv 9 rfl rfl rfl rfl (S' := fun _ => True) trivial (v_fieldAddr0 T.fld_67_1_1 rfl) ?_) | (refine rs_kv 9 rfl rfl rfl rfl (S' := fun _ => True) trivial (v_fieldAddr T.fld_67_1_1 rfl) ?_)
        first | (refine rs_k 10 rfl rfl (k_storeOwn hw T.scal_39 rfl rfl rfl (by (repeat (first | with_reducible exact Pick.here _ | apply Pick.there)); first | done | fail) (by assumption) (fun w hw => ?_))) | (refine rs_k 10 rfl rfl (k_store hw T.scal_39 rfl rfl rfl (by (repeat (first | with_reducible exact Pick.here _ | apply Pick.there)); first | done | fail) rfl (by first | (simp only [List.set, Int.reduceToNat, Nat.reduceMul, Nat.reduceAdd]; rfl) | rfl) (fun w hw => ?_)))
        refine ⟨fun hn => absurd (by decide) hn, ?_⟩
        refine rs_done (g_le (Fr.le_skip rfl (Fr.le_skip rfl (Fr.le_skip rfl (Fr.le_skip rfl (Fr.le_skip rfl (Fr.le_skip rfl (Fr.le_skip rfl (Fr.le_skip rfl (Fr.le_skip rfl (Fr.le_skip rfl (Fr.le_refl _))))))))))) ?_)
        refine g_seq ?_
        refine g_region ?_
        refine rl_v rfl rfl rfl (S := fun _ => True) trivial (v_assign rfl) ?_
        refine rl_nil (g_le (Fr.le_keep (Fr.le_refl _)) ?_)
        refine g_ret1 Try.func32 rfl rfl ?_
        have hwf := rdHd_wf hrd
        rw [hput]
        refine ⟨g', .slice a3 ((s.l.eraseIdx i).length + 1) c3, _, hg', rfl, hels2.snoc rfl (x := ⟨r, n, s.l[i].pins⟩) ⟨_, _, _, _, _, _, _, _, rfl, ⟨rfl, hr⟩, hnd', rfl, hwf⟩, ?_⟩
        simp only [List.length_append, List.length_cons, List.length_nil]
        exact hw.sub (by (repeat (first | with_reducible exact Sub.refl _ | exact Sub.nil _ | (apply Sub.cons; focus ((repeat (first | with_reducible exact Pick.here _ | apply Pick.there)); (first | done | fail))) | with_reducible apply Sub.drop)); first | done | fail)
    · try with_reducible exact tf_elim h1
      all_goals
        try replace h1 := of_decide_eq_false h1
        have hm1 : m = -1 := by omega
        refine g_skip (g_seq (g_seq ?_))
        refine g_drawR ord_f32_r8_C15t (by kernel_rfl) T.mixed hw (fun w hw => ?_)
        refine rs_a 0 rfl rfl rfl rfl (v_move rfl) ?_
        refine rs_a 1 rfl rfl rfl rfl (v_nilCheck rfl) ?_
        first | (refine rs_a 2 rfl rfl rfl rfl (v_fieldAddr0 T.fld_67_1_1 rfl) ?_) | (refine rs_a 2 rfl rfl rfl rfl (v_fieldAddr T.fld_67_1_1 rfl) ?_)
        refine rs_a 5 rfl rfl rfl rfl (v_move rfl) ?_
        refine rs_a 6 rfl rfl rfl rfl (v_nilCheck rfl) ?_
        first | (refine rs_a 7 rfl rfl rfl rfl (v_fieldAddr0 T.fld_67_0_0 rfl) ?_) | (refine rs_a 7 rfl rfl rfl rfl (v_fieldAddr T.fld_67_0_0 rfl) ?_)
        refine rs_v 3 rfl rfl rfl rfl (OpV.mono (v_load T.scal_39 rfl) (fun w hw => by first | exact sat_cell hw (by (repeat (first | with_reducible exact Pick.here _ | apply Pick.there)); first | done | fail) rfl | exact own_cell hw (by (repeat (first | with_reducible exact Pick.here _ | apply Pick.there)); first | done | fail) (by first | rfl | assumption) | exact ro_at0 hw (by (repeat (first | with_reducible exact Pick.here _ | apply Pick.there)); first | done | fail) (by assumption) rfl | exact ro_at hw (by (repeat (first | with_reducible exact Pick.here _ | apply Pick.there)); first | done | fail) (by assumption) rfl | exact own_at0 hw (by (repeat (first | with_reducible exact Pick.here _ | apply Pick.there)); first | done | fail) (by assumption) rfl | exact own_at hw (by (repeat (first | with_reducible exact Pick.here _ | apply Pick.there)); first | done | fail) (by assumption) rfl | exact old_cell hw (by (repeat (first | with_reducible exact Pick.here _ | apply Pick.there)); first | done | fail) (by assumption) | assumption)) (by first | exact hw | exact Sat.sub hw (by (repeat (first | with_reducible exact Sub.refl _ | exact Sub.nil _ | (apply Sub.cons; focus ((repeat (first | with_reducible exact Pick.here _ | apply Pick.there)); (first | done | fail))) | with_reducible apply Sub.drop)); first | done | fail)) ?_
        refine rs_a 4 rfl rfl rfl rfl (v_lenSlice T.sl_39_42_8 rfl) ?_
        refine rs_kv 8 rfl rfl rfl rfl (by first | exact sat_cell hw (by (repeat (first | with_reducible exact Pick.here _ | apply Pick.there)); first | done | fail) rfl | exact own_cell hw (by (repeat (first | with_reducible exact Pick.here _ | apply Pick.there)); first | done | fail) (by first | rfl | assumption) | exact ro_at0 hw (by (repeat (first | with_reducible exact Pick.here _ | apply Pick.there)); first | done | fail) (by assumption) rfl | exact ro_at hw (by (repeat (first | with_reducible exact Pick.here _ | apply Pick.there)); first | done | fail) (by assumption) rfl | exact own_at0 hw (by (repeat (first | with_reducible exact Pick.here _ | apply Pick.there)); first | done | fail) (by assumption) rfl | exact own_at hw (by (repeat (first | with_reducible exact Pick.here _ | apply Pick.there)); first | done | fail) (by assumption) rfl | exact old_cell hw (by (repeat (first | with_reducible exact Pick.here _ | apply Pick.there)); first | done | fail) (by assumption) | assumption) (v_load T.scal_3 rfl) ?_
        first | (refine rs_kv 9 rfl rfl rfl rfl (S' := fun _ => True) trivial (v_geqT rfl rfl (by omega)) ?_) | (refine rs_kv 9 rfl rfl rfl rfl (S' := fun _ => True) trivial (v_geqF rfl rfl (by omega)) ?_) | (refine rs_kv 9 rfl rfl rfl rfl (S' := fun _ => True) trivial (v_geq rfl rfl) ?_)
        refine rs_done (g_le (Fr.le_keep (Fr.le_skip rfl (Fr.le_skip rfl (Fr.le_skip rfl (Fr.le_skip rfl (Fr.le_skip rfl (Fr.le_skip rfl (Fr.le_skip rfl (Fr.le_skip rfl (Fr.le_skip rfl (Fr.le_refl _))))))))))) ?_)
        refine g_cond rfl (fun h2 => ?_) (fun h2 => ?_)
        · try with_reducible exact ft_elim h2
          all_goals
            try replace h2 := of_decide_eq_true h2
            refine g_seq ?_
            refine g_region ?_
            refine rl_v rfl rfl rfl (S := fun _ => True) trivial (v_assign rfl) ?_
            refine rl_nil (g_le (Fr.le_keep (Fr.le_refl _)) ?_)
            refine g_seq (g_seq ?_)
            refine g_region ?_
            refine rl_v rfl rfl rfl (S := fun _ => True) trivial (v_move rfl) ?_
            refine rl_v rfl rfl rfl (S := fun _ => True) trivial (v_nilCheck rfl) ?_
            first | (refine rl_v rfl rfl rfl (S := fun _ => True) trivial (v_fieldAddr0 T.fld_67_1_1 rfl) ?_) | (refine rl_v rfl rfl rfl (S := fun _ => True) trivial (v_fieldAddr T.fld_67_1_1 rfl) ?_)
            refine rl_v rfl rfl rfl (by first | exact sat_cell hw (by (repeat (first | with_reducible exact Pick.here _ | apply Pick.there)); first | done | fail) rfl | exact own_cell hw (by (repeat (first | with_reducible exact Pick.here _ | apply Pick.there)); first | done | fail) (by first | rfl | assumption) | exact ro_at0 hw (by (repeat (first | with_reducible exact Pick.here _ | apply Pick.there)); first | done | fail) (by assumption) rfl | exact ro_at hw (by (repeat (first | with_reducible exact Pick.here _ | apply Pick.there)); first | done | fail) (by assumption) rfl | exact own_at0 hw (by (repeat (first | with_reducible exact Pick.here _ | apply Pick.there)); first | done | fail) (by assumption) rfl | exact own_at hw (by (repeat (first | with_reducible exact Pick.here _ | apply Pick.there)); first | done | fail) (by assumption) rfl | exact old_cell hw (by (repeat (first | with_reducible exact Pick.here _ | apply Pick.there)); first | done | fail) (by assumption) | assumption) (v_load T.scal_39 rfl) ?_
            refine rl_v rfl rfl rfl (S := fun _ => True) trivial (v_lenSlice T.sl_39_42_8 rfl) ?_
            first | (refine rl_v rfl rfl rfl (S := fun _ => True) trivial (v_sub rfl rfl (by omega)) ?_) | (refine rl_v rfl rfl rfl (S := fun _ => True) trivial (v_subW rfl rfl) ?_)
            refine rl_v rfl rfl rfl (S := fun _ => True) trivial (v_assign rfl) ?_
            refine rl_nil (g_le (Fr.le_keep (Fr.le_skip rfl (Fr.le_skip rfl (Fr.le_skip rfl (Fr.le_skip rfl (Fr.le_skip rfl (Fr.le_skip rfl (Fr.le_refl _)))))))) ?_)
            refine g_block ?_
            refine g_loopC (σ := Int × Int) (fun C x => (10, .int .i64 x.1) :: (9, .int .i64 x.2) :: C) [(0, _), (6, _), (7, _)] (by repeat (first | exact Fr.le_nil _ | refine Fr.le_cons rfl ?_)) (fun z w => -1 ≤ z.1 ∧ z.1 < s.l.length ∧ z.2 = idx (fun h : Hd => decide (h.pins = 0)) (s.l.drop (z.1 + 1).toNat) (z.1 + 1) ∧ Sat E w (pt bk1_4 (.cells [.int .u64 r.key, .int .i64 r.seg, .int .i64 r.off, .int .i64 r.len, .bool n.leaf, .slice a4 n.entries.length c4, .slice a5 n.kids.length c5, .int .i64 0].toArray 42 (0, 0)) :: pt c (.cells [Value.int .i64 (s : Ch).room, (.slice a s.l.length cc), .int .i64 (s : Ch).hits, .int .i64 (s : Ch).misses].toArray 67 (0, 0)) :: OwnSl 42 8 (.slice a s.l.length cc) (s : Ch).l.length cells :: RO g' :: L)) (fun z => (z.1 + 1).toNat) ?_ ((s.l.length : Int) - 1, -1) (by repeat (first | exact Fr.le_nil _ | refine Fr.le_cons rfl ?_)) ⟨by simp only; omega, by simp only; omega, by simp only; rw [List.drop_eq_nil_of_le (by omega)]; rfl, hw.sub (by (repeat (first | with_reducible exact Sub.refl _ | exact Sub.nil _ | (apply Sub.cons; focus ((repeat (first | with_reducible exact Pick.here _ | apply Pick.there)); (first | done | fail))) | with_reducible apply Sub.drop)); first | done | fail)⟩
            rintro ⟨k, fr⟩ w ⟨hk0, hk1, hfr, hw⟩ ih
            dsimp only at hk0 hk1 hfr hw ⊢
            refine g_seq (g_seq ?_)
            refine g_region ?_
            refine rl_v rfl rfl rfl (S := fun _ => True) trivial (v_move rfl) ?_
            first | (refine rl_v rfl rfl rfl (S := fun _ => True) trivial (v_geqT rfl rfl (by omega)) ?_) | (refine rl_v rfl rfl rfl (S := fun _ => True) trivial (v_geqF rfl rfl (by omega)) ?_) | (refine rl_v rfl rfl rfl (S := fun _ => True) trivial (v_geq rfl rfl) ?_)
            refine rl_nil (g_le (Fr.le_keep (Fr.le_keep (Fr.le_refl _))) ?_)
            refine g_cond rfl (fun h3 => ?_) (fun h3 => ?_)
            · try with_reducible exact ft_elim h3
              all_goals
                try replace h3 := of_decide_eq_true h3
                refine g_skip (g_seq (g_block (g_seq ?_)))
                have hz := hw
                clear hw
                obtain ⟨gb, rfl⟩ := ha (by omega)
                have hlt : k.toNat < s.l.length := by omega
                have hx : s.l[k.toNat]? = some s.l[k.toNat] := List.getElem?_eq_getElem hlt
                obtain ⟨ea, en, ec, ka, kn, kc, hsub, hrd, hnd, hok, hle⟩ := hd_cells hels hx
                have hw := hz
                have hdr : idx (fun h : Hd => decide (h.pins = 0)) (s.l.drop k.toNat) k = if s.l[k.toNat].pins = 0 then k else fr := by rw [List.drop_eq_getElem_cons hlt]; simp only [idx, decide_eq_true_eq]; rw [hfr, show (k + 1).toNat = k.toNat + 1 by omega]
                refine g_region ?_
                refine rl_v rfl rfl rfl (S := fun _ => True) trivial (v_move rfl) ?_
                refine rl_v rfl rfl rfl (S := fun _ => True) trivial (v_nilCheck rfl) ?_
                first | (refine rl_v rfl rfl rfl (S := fun _ => True) trivial (v_fieldAddr0 T.fld_67_1_1 rfl) ?_) | (refine rl_v rfl rfl rfl (S := fun _ => True) trivial (v_fieldAddr T.fld_67_1_1 rfl) ?_)
                refine rl_v rfl rfl rfl (by first | exact sat_cell hw (by (repeat (first | with_reducible exact Pick.here _ | apply Pick.there)); first | done | fail) rfl | exact own_cell hw (by (repeat (first | with_reducible exact Pick.here _ | apply Pick.there)); first | done | fail) (by first | rfl | assumption) | exact ro_at0 hw (by (repeat (first | with_reducible exact Pick.here _ | apply Pick.there)); first | done | fail) (by assumption) rfl | exact ro_at hw (by (repeat (first | with_reducible exact Pick.here _ | apply Pick.there)); first | done | fail) (by assumption) rfl | exact own_at0 hw (by (repeat (first | with_reducible exact Pick.here _ | apply Pick.there)); first | done | fail) (by assumption) rfl | exact own_at hw (by (repeat (first | with_reducible exact Pick.here _ | apply Pick.there)); first | done | fail) (by assumption) rfl | exact old_cell hw (by (repeat (first | with_reducible exact Pick.here _ | apply Pick.there)); first | done | fail) (by assumption) | assumption) (v_load T.scal_39 rfl) ?_
                refine rl_v rfl rfl rfl (S := fun _ => True) trivial (v_move rfl) ?_
                refine rl_v rfl rfl rfl (S := fun _ => True) trivial (v_indexAddr T.sl_39_42_8 rfl rfl (by omega) (by omega)) ?_
                first | (refine rl_v rfl rfl rfl (S := fun _ => True) trivial (v_fieldAddr0 T.fld_42_2_7 rfl) ?_) | (refine rl_v rfl rfl rfl (S := fun _ => True) trivial (v_fieldAddr T.fld_42_2_7 rfl) ?_)
                refine rl_v rfl rfl rfl (by first | exact sat_cell hw (by (repeat (first | with_reducible exact Pick.here _ | apply Pick.there)); first | done | fail) rfl | exact own_cell hw (by (repeat (first | with_reducible exact Pick.here _ | apply Pick.there)); first | done | fail) (by first | rfl | assumption) | exact ro_at0 hw (by (repeat (first | with_reducible exact Pick.here _ | apply Pick.there)); first | done | fail) (by assumption) rfl | exact ro_at hw (by (repeat (first | with_reducible exact Pick.here _ | apply Pick.there)); first | done | fail) (by assumption) rfl | exact own_at0 hw (by (repeat (first | with_reducible exact Pick.here _ | apply Pick.there)); first | done | fail) (by assumption) rfl | exact own_at hw (by (repeat (first | with_reducible exact Pick.here _ | apply Pick.there)); first | done | fail) (by assumption) rfl | exact old_cell hw (by (repeat (first | with_reducible exact Pick.here _ | apply Pick.there)); first | done | fail) (by assumption) | assumption) (v_load T.scal_3 rfl) ?_
                first | (refine rl_v rfl rfl rfl (S := fun _ => True) trivial (v_eqlT rfl rfl (by first | omega | rfl)) ?_) | (refine rl_v rfl rfl rfl (S := fun _ => True) trivial (v_eqlF rfl rfl (by omega)) ?_) | (refine rl_v rfl rfl rfl (S := fun _ => True) trivial (v_eql rfl rfl) ?_)
                refine rl_nil (g_le (Fr.le_keep (Fr.le_keep (Fr.le_keep (Fr.le_keep (Fr.le_keep (Fr.le_keep (Fr.le_keep (Fr.le_keep (Fr.le_keep (Fr.le_refl _)))))))))) ?_)
                refine g_cond rfl (fun h4 => ?_) (fun h4 => ?_)
                · try with_reducible exact ft_elim h4
                  all_goals
                    try replace h4 := of_decide_eq_true h4
                    rw [if_pos (by omega)] at hdr
                    refine g_region ?_
                    refine rl_v rfl rfl rfl (S := fun _ => True) trivial (v_move rfl) ?_
                    refine rl_v rfl rfl rfl (S := fun _ => True) trivial (v_assign rfl) ?_
                    refine rl_nil (g_le (Fr.le_keep (Fr.le_keep (Fr.le_refl _))) ?_)
                    refine g_inBlock ?_
                    refine g_region ?_
                    refine rl_v rfl rfl rfl (S := fun _ => True) trivial (v_move rfl) ?_
                    first | (refine rl_v rfl rfl rfl (S := fun _ => True) trivial (v_sub rfl rfl (by omega)) ?_) | (refine rl_v rfl rfl rfl (S := fun _ => True) trivial (v_subW rfl rfl) ?_)
                    refine rl_v rfl rfl rfl (S := fun _ => True) trivial (v_assign rfl) ?_
                    refine rl_nil (g_le (Fr.le_keep (Fr.le_keep (Fr.le_keep (Fr.le_refl _)))) ?_)
                    exact g_le (by repeat (first | exact Fr.le_nil _ | refine Fr.le_cons rfl ?_)) (ih (k - 1, k) w ⟨by simp only; omega, by simp only; omega, by simp only; rw [show k - 1 + 1 = k by omega, hdr], hw.sub (by (repeat (first | with_reducible exact Sub.refl _ | exact Sub.nil _ | (apply Sub.cons; focus ((repeat (first | with_reducible exact Pick.here _ | apply Pick.there)); (first | done | fail))) | with_reducible apply Sub.drop)); first | done | fail)⟩ (by simp only; omega))
                · try with_reducible exact tf_elim h4
                  all_goals
                    try replace h4 := of_decide_eq_false h4
                    rw [if_neg (by omega)] at hdr
                    refine g_skip (g_inBlock ?_)
                    refine g_region ?_
                    refine rl_v rfl rfl rfl (S := fun _ => True) trivial (v_move rfl) ?_
                    first | (refine rl_v rfl rfl rfl (S := fun _ => True) trivial (v_sub rfl rfl (by omega)) ?_) | (refine rl_v rfl rfl rfl (S := fun _ => True) trivial (v_subW rfl rfl) ?_)
                    refine rl_v rfl rfl rfl (S := fun _ => True) trivial (v_assign rfl) ?_
                    refine rl_nil (g_le (Fr.le_keep (Fr.le_keep (Fr.le_keep (Fr.le_refl _)))) ?_)
                    exact g_le (by repeat (first | exact Fr.le_nil _ | refine Fr.le_cons rfl ?_)) (ih (k - 1, fr) w ⟨by simp only; omega, by simp only; omega, by simp only; rw [show k - 1 + 1 = k by omega, hdr], hw.sub (by (repeat (first | with_reducible exact Sub.refl _ | exact Sub.nil _ | (apply Sub.cons; focus ((repeat (first | with_reducible exact Pick.here _ | apply Pick.there)); (first | done | fail))) | with_reducible apply Sub.drop)); first | done | fail)⟩ (by simp only; omega))
            · try with_reducible exact tf_elim h3
              all_goals
                try replace h3 := of_decide_eq_false h3
                refine g_exit rfl (g_seq (g_seq ?_))
                have hfin : fr = q := by rw [hfr, show k + 1 = 0 by omega]; exact hqq
                subst hfin
                refine g_region ?_
                refine rl_v rfl rfl rfl (S := fun _ => True) trivial (v_move rfl) ?_
                first | (refine rl_v rfl rfl rfl (S := fun _ => True) trivial (v_lssT rfl rfl (by omega)) ?_) | (refine rl_v rfl rfl rfl (S := fun _ => True) trivial (v_lssF rfl rfl (by omega)) ?_) | (refine rl_v rfl rfl rfl (S := fun _ => True) trivial (v_lss rfl rfl) ?_)
                refine rl_nil (g_le (Fr.le_keep (Fr.le_skip rfl (Fr.le_refl _))) ?_)
                refine g_cond rfl (fun h5 => ?_) (fun h5 => ?_)
                · try with_reducible exact ft_elim h5
                  all_goals
                    try replace h5 := of_decide_eq_true h5
                    have hput : s.put r n = (150, s) := put_full (by omega) h2 (by omega)
                    refine g_seq ?_
                    refine g_region ?_
                    refine rl_v rfl rfl rfl (S := fun _ => True) trivial (v_assign rfl) ?_
                    refine rl_nil (g_le (Fr.le_keep (Fr.le_refl _)) ?_)
                    refine g_ret1 Try.func32 rfl rfl ?_
                    refine ⟨g', .slice a s.l.length cc, cells, hg', ?_⟩
                    rw [hput]
                    exact ⟨rfl, hels', hw.sub (by (repeat (first | with_reducible exact Sub.refl _ | exact Sub.nil _ | (apply Sub.cons; focus ((repeat (first | with_reducible exact Pick.here _ | apply Pick.there)); (first | done | fail))) | with_reducible apply Sub.drop)); first | done | fail)⟩
                · try with_reducible exact tf_elim h5
                  all_goals
                    try replace h5 := of_decide_eq_false h5
                    obtain ⟨i, rfl⟩ : ∃ i : Nat, fr = i := ⟨fr.toNat, by omega⟩
                    have hlt : i < s.l.length := by omega
                    have hx : s.l[i]? = some s.l[i] := List.getElem?_eq_getElem hlt
                    have hel : (s.l.eraseIdx i).length + 1 = s.l.length := by rw [List.length_eraseIdx_of_lt hlt]; omega
                    have hput : s.put r n = (0, ⟨s.room, s.l.eraseIdx i ++ [⟨r, n, 0⟩], s.hits, s.misses⟩) := put_free (by omega) h2 hqq hlt
                    refine g_skip ?_
                    refine g_region ?_
                    refine rl_v rfl rfl rfl (S := fun _ => True) trivial (v_move rfl) ?_
                    refine rl_v rfl rfl rfl (S := fun _ => True) trivial (v_move rfl) ?_
                    refine rl_k rfl (k_callf Try.func42 rfl rfl rfl rfl ?_)
                    refine Calls.mono (rout_calls (s := s) i hlt hels' hb (hw.sub (by (repeat (first | with_reducible exact Sub.refl _ | exact Sub.nil _ | (apply Sub.cons; focus ((repeat (first | with_reducible exact Pick.here _ | apply Pick.there)); (first | done | fail))) | with_reducible apply Sub.drop)); first | done | fail))) ?_
                    rintro _ w ⟨rfl, lv', cells', hels2, hw⟩
                    dsimp only at hw hels2
                    obtain ⟨a2, c2, rfl, _, _, _⟩ := (hw.pick .at1).own_shape
                    refine ⟨_, rfl, ?_⟩
                    refine rl_nil (g_le (Fr.le_skip rfl (Fr.le_skip rfl (Fr.le_skip rfl (Fr.le_refl _)))) ?_)
                    refine g_seq ?_
                    refine g_drawR ord_f32_r18_C15t (by kernel_rfl) T.mixed hw (fun w hw => ?_)
                    refine rs_a 0 rfl rfl rfl rfl (v_move rfl) ?_
                    refine rs_a 1 rfl rfl rfl rfl (v_move rfl) ?_
                    refine rs_a 2 rfl rfl rfl rfl (v_nilCheck rfl) ?_
                    first | (refine rs_a 3 rfl rfl rfl rfl (v_fieldAddr0 T.fld_67_1_1 rfl) ?_) | (refine rs_a 3 rfl rfl rfl rfl (v_fieldAddr T.fld_67_1_1 rfl) ?_)
                    refine rs_v 4 rfl rfl rfl rfl (OpV.mono (v_load T.scal_39 rfl) (fun w hw => by first | exact sat_cell hw (by (repeat (first | with_reducible exact Pick.here _ | apply Pick.there)); first | done | fail) rfl | exact own_cell hw (by (repeat (first | with_reducible exact Pick.here _ | apply Pick.there)); first | done | fail) (by first | rfl | assumption) | exact ro_at0 hw (by (repeat (first | with_reducible exact Pick.here _ | apply Pick.there)); first | done | fail) (by assumption) rfl | exact ro_at hw (by (repeat (first | with_reducible exact Pick.here _ | apply Pick.there)); first | done | fail) (by assumption) rfl | exact own_at0 hw (by (repeat (first | with_reducible exact Pick.here _ | apply Pick.there)); first | done | fail) (by assumption) rfl | exact own_at hw (by (repeat (first | with_reducible exact Pick.here _ | apply Pick.there)); first | done | fail) (by assumption) rfl | exact old_cell hw (by (repeat (first | with_reducible exact Pick.here _ | apply Pick.there)); first | done | fail) (by assumption) | assumption)) (by first | exact hw | exact Sat.sub hw (by (repeat (first | with_reducible exact Sub.refl _ | exact Sub.nil _ | (apply Sub.cons; focus ((repeat (first | with_reducible exact Pick.here _ | apply Pick.there)); (first | done | fail))) | with_reducible apply Sub.drop)); first | done | fail)) ?_
                    refine rs_kv 5 rfl rfl rfl rfl (by first | exact sat_cells hw (by (repeat (first | with_reducible exact Pick.here _ | apply Pick.there)); first | done | fail) ⟨rfl, rfl, rfl, rfl, rfl, rfl, rfl, rfl, trivial⟩ | exact ro_ats hw (by (repeat (first | with_reducible exact Pick.here _ | apply Pick.there)); first | done | fail) (by assumption) | exact own_cells hw (by (repeat (first | with_reducible exact Pick.here _ | apply Pick.there)); first | done | fail) (by assumption) | exact old_cells hw (by (repeat (first | with_reducible exact Pick.here _ | apply Pick.there)); first | done | fail) (by assumption)) (v_loadAgg (vs := [_, _, _, _, _, _, _, _]) T.agg_42_8 rfl rfl) ?_
                    refine rs_k 6 rfl rfl (k_buildSlice (cells := [_, _, _, _, _, _, _, _]) hw T.sl_39_42_8 T.zero_42 rfl rfl rfl rfl rfl rfl (fun bk18_6 w hw => ?_))
                    refine ⟨fun _ => (by first | exact hw | exact Sat.sub hw (by (repeat (first | with_reducible exact Sub.refl _ | exact Sub.nil _ | (apply Sub.cons; focus ((repeat (first | with_reducible exact Pick.here _ | apply Pick.there)); (first | done | fail))) | with_reducible apply Sub.drop)); first | done | fail) | exact Sat.sub (Sat.shrink (Sat.pick hw (by (repeat (first | with_reducible exact Pick.here _ | apply Pick.there)); first | done | fail)) (by assumption)) (by (repeat (first | with_reducible exact Sub.refl _ | exact Sub.nil _ | (apply Sub.cons; focus ((repeat (first | with_reducible exact Pick.here _ | apply Pick.there)); (first | done | fail))) | with_reducible apply Sub.drop)); first | done | fail)), ?_⟩
                    refine rs_k 7 rfl rfl (k_append (news := [_, _, _, _, _, _, _, _]) hw T.sl_39_42_8 T.zero_42 T.bytes_42_96 rfl (by decide) rfl rfl (by (repeat (first | with_reducible exact Pick.here _ | apply Pick.there)); first | done | fail) rfl (by first | exact sat_cells hw (by (repeat (first | with_reducible exact Pick.here _ | apply Pick.there)); first | done | fail) ⟨rfl, rfl, rfl, rfl, rfl, rfl, rfl, rfl, trivial⟩ | exact old_cells hw (by (repeat (first | with_reducible exact Pick.here _ | apply Pick.there)); first | done | fail) (by assumption)) (by simp [Value.oneCell']) (by omega) (by simp only [maxLen]; omega) rfl (fun vv18_7 w hw hnil => ?_))
                    refine ⟨fun hn => absurd (by decide) hn, ?_⟩
                    obtain ⟨a3, c3, rfl, _, _, _⟩ := hw.own_shape
                    refine rs_kv 8 rfl rfl rfl rfl (S' := fun _ => True) trivial (v_nilCheck rfl) ?_
                    first | (refine rs_kv 9 rfl rfl rfl rfl (S' := fun _ => True) trivial (v_fieldAddr0 T.fld_67_1_1 rfl) ?_) | (refine rs_kv 9 rfl rfl rfl rfl (S' := fun _ => True) trivial (v_fieldAddr T.fld_67_1_1 rfl) ?_)
                    first | (refine rs_k 10 rfl rfl (k_storeOwn hw T.scal_39 rfl rfl rfl (by (repeat (first | with_reducible exact Pick.here _ | apply Pick.there)); first | done | fail) (by assumption) (fun w hw => ?_))) | (refine rs_k 10 rfl rfl (k_store hw T.scal_39 rfl rfl rfl (by (repeat (first | with_reducible exact Pick.here _ | apply Pick.there)); first | done | fail) rfl (by first | (simp only [List.set, Int.reduceToNat, Nat.reduceMul, Nat.reduceAdd]; rfl) | rfl) (fun w hw => ?_)))
                    refine ⟨fun hn => absurd (by decide) hn, ?_⟩
                    refine rs_done (g_le (Fr.le_skip rfl (Fr.le_skip rfl (Fr.le_skip rfl (Fr.le_skip rfl (Fr.le_skip rfl (Fr.le_skip rfl (Fr.le_skip rfl (Fr.le_skip rfl (Fr.le_skip rfl (Fr.le_skip rfl (Fr.le_refl _))))))))))) ?_)
                    refine g_seq ?_
                    refine g_region ?_
                    refine rl_v rfl rfl rfl (S := fun _ => True) trivial (v_assign rfl) ?_
                    refine rl_nil (g_le (Fr.le_keep (Fr.le_refl _)) ?_)
                    refine g_ret1 Try.func32 rfl rfl ?_
                    have h0wf : (Lit.int .i64 0).wf = true := by decide
                    rw [hput]
                    refine ⟨g', .slice a3 ((s.l.eraseIdx i).length + 1) c3, _, hg', rfl, hels2.snoc rfl (x := ⟨r, n, 0⟩) ⟨_, _, _, _, _, _, _, _, rfl, ⟨rfl, hr⟩, hnd', rfl, h0wf⟩, ?_⟩
                    simp only [List.length_append, List.length_cons, List.length_nil]
                    exact hw.sub (by (repeat (first | with_reducible exact Sub.refl _ | exact Sub.nil _ | (apply Sub.cons; focus ((repeat (first | with_reducible exact Pick.here _ | apply Pick.there)); (first | done | fail))) | with_reducible apply Sub.drop)); first | done | fail)
        · try with_reducible exact tf_elim h2
          all_goals
            try replace h2 := of_decide_eq_false h2
            have hput : s.put r n = (0, ⟨s.room, s.l ++ [⟨r, n, 0⟩], s.hits, s.misses⟩) := put_room (by omega) h2
            refine g_skip (g_seq ?_)
            refine g_drawR ord_f32_r18_C15t (by kernel_rfl) T.mixed hw (fun w hw => ?_)
            refine rs_a 0 rfl rfl rfl rfl (v_move rfl) ?_
            refine rs_a 1 rfl rfl rfl rfl (v_move rfl) ?_
            refine rs_a 2 rfl rfl rfl rfl (v_nilCheck rfl) ?_
            first | (refine rs_a 3 rfl rfl rfl rfl (v_fieldAddr0 T.fld_67_1_1 rfl) ?_) | (refine rs_a 3 rfl rfl rfl rfl (v_fieldAddr T.fld_67_1_1 rfl) ?_)
            refine rs_v 4 rfl rfl rfl rfl (OpV.mono (v_load T.scal_39 rfl) (fun w hw => by first | exact sat_cell hw (by (repeat (first | with_reducible exact Pick.here _ | apply Pick.there)); first | done | fail) rfl | exact own_cell hw (by (repeat (first | with_reducible exact Pick.here _ | apply Pick.there)); first | done | fail) (by first | rfl | assumption) | exact ro_at0 hw (by (repeat (first | with_reducible exact Pick.here _ | apply Pick.there)); first | done | fail) (by assumption) rfl | exact ro_at hw (by (repeat (first | with_reducible exact Pick.here _ | apply Pick.there)); first | done | fail) (by assumption) rfl | exact own_at0 hw (by (repeat (first | with_reducible exact Pick.here _ | apply Pick.there)); first | done | fail) (by assumption) rfl | exact own_at hw (by (repeat (first | with_reducible exact Pick.here _ | apply Pick.there)); first | done | fail) (by assumption) rfl | exact old_cell hw (by (repeat (first | with_reducible exact Pick.here _ | apply Pick.there)); first | done | fail) (by assumption) | assumption)) (by first | exact hw | exact Sat.sub hw (by (repeat (first | with_reducible exact Sub.refl _ | exact Sub.nil _ | (apply Sub.cons; focus ((repeat (first | with_reducible exact Pick.here _ | apply Pick.there)); (first | done | fail))) | with_reducible apply Sub.drop)); first | done | fail)) ?_
            refine rs_kv 5 rfl rfl rfl rfl (by first | exact sat_cells hw (by (repeat (first | with_reducible exact Pick.here _ | apply Pick.there)); first | done | fail) ⟨rfl, rfl, rfl, rfl, rfl, rfl, rfl, rfl, trivial⟩ | exact ro_ats hw (by (repeat (first | with_reducible exact Pick.here _ | apply Pick.there)); first | done | fail) (by assumption) | exact own_cells hw (by (repeat (first | with_reducible exact Pick.here _ | apply Pick.there)); first | done | fail) (by assumption) | exact old_cells hw (by (repeat (first | with_reducible exact Pick.here _ | apply Pick.there)); first | done | fail) (by assumption)) (v_loadAgg (vs := [_, _, _, _, _, _, _, _]) T.agg_42_8 rfl rfl) ?_
            refine rs_k 6 rfl rfl (k_buildSlice (cells := [_, _, _, _, _, _, _, _]) hw T.sl_39_42_8 T.zero_42 rfl rfl rfl rfl rfl rfl (fun bk18_6 w hw => ?_))
            refine ⟨fun _ => (by first | exact hw | exact Sat.sub hw (by (repeat (first | with_reducible exact Sub.refl _ | exact Sub.nil _ | (apply Sub.cons; focus ((repeat (first | with_reducible exact Pick.here _ | apply Pick.there)); (first | done | fail))) | with_reducible apply Sub.drop)); first | done | fail) | exact Sat.sub (Sat.shrink (Sat.pick hw (by (repeat (first | with_reducible exact Pick.here _ | apply Pick.there)); first | done | fail)) (by assumption)) (by (repeat (first | with_reducible exact Sub.refl _ | exact Sub.nil _ | (apply Sub.cons; focus ((repeat (first | with_reducible exact Pick.here _ | apply Pick.there)); (first | done | fail))) | with_reducible apply Sub.drop)); first | done | fail)), ?_⟩
            refine rs_k 7 rfl rfl (k_append (news := [_, _, _, _, _, _, _, _]) hw T.sl_39_42_8 T.zero_42 T.bytes_42_96 rfl (by decide) rfl rfl (by (repeat (first | with_reducible exact Pick.here _ | apply Pick.there)); first | done | fail) rfl (by first | exact sat_cells hw (by (repeat (first | with_reducible exact Pick.here _ | apply Pick.there)); first | done | fail) ⟨rfl, rfl, rfl, rfl, rfl, rfl, rfl, rfl, trivial⟩ | exact old_cells hw (by (repeat (first | with_reducible exact Pick.here _ | apply Pick.there)); first | done | fail) (by assumption)) (by simp [Value.oneCell']) (by omega) (by simp only [maxLen]; omega) rfl (fun vv18_7 w hw hnil => ?_))
            refine ⟨fun hn => absurd (by decide) hn, ?_⟩
            obtain ⟨a3, c3, rfl, _, _, _⟩ := hw.own_shape
            refine rs_kv 8 rfl rfl rfl rfl (S' := fun _ => True) trivial (v_nilCheck rfl) ?_
            first | (refine rs_kv 9 rfl rfl rfl rfl (S' := fun _ => True) trivial (v_fieldAddr0 T.fld_67_1_1 rfl) ?_) | (refine rs_kv 9 rfl rfl rfl rfl (S' := fun _ => True) trivial (v_fieldAddr T.fld_67_1_1 rfl) ?_)
            first | (refine rs_k 10 rfl rfl (k_storeOwn hw T.scal_39 rfl rfl rfl (by (repeat (first | with_reducible exact Pick.here _ | apply Pick.there)); first | done | fail) (by assumption) (fun w hw => ?_))) | (refine rs_k 10 rfl rfl (k_store hw T.scal_39 rfl rfl rfl (by (repeat (first | with_reducible exact Pick.here _ | apply Pick.there)); first | done | fail) rfl (by first | (simp only [List.set, Int.reduceToNat, Nat.reduceMul, Nat.reduceAdd]; rfl) | rfl) (fun w hw => ?_)))
            refine ⟨fun hn => absurd (by decide) hn, ?_⟩
            refine rs_done (g_le (Fr.le_skip rfl (Fr.le_skip rfl (Fr.le_skip rfl (Fr.le_skip rfl (Fr.le_skip rfl (Fr.le_skip rfl (Fr.le_skip rfl (Fr.le_skip rfl (Fr.le_skip rfl (Fr.le_skip rfl (Fr.le_refl _))))))))))) ?_)
            refine g_seq ?_
            refine g_region ?_
            refine rl_v rfl rfl rfl (S := fun _ => True) trivial (v_assign rfl) ?_
            refine rl_nil (g_le (Fr.le_keep (Fr.le_refl _)) ?_)
            refine g_ret1 Try.func32 rfl rfl ?_
            have h0wf : (Lit.int .i64 0).wf = true := by decide
            rw [hput]
            refine ⟨g', .slice a3 (s.l.length + 1) c3, _, hg', rfl, hels'.snoc rfl (x := ⟨r, n, 0⟩) ⟨_, _, _, _, _, _, _, _, rfl, ⟨rfl, hr⟩, hnd', rfl, h0wf⟩, ?_⟩
            simp only [List.length_append, List.length_cons, List.length_nil]
            exact hw.sub (by (repeat (first | with_reducible exact Sub.refl _ | exact Sub.nil _ | (apply Sub.cons; focus ((repeat (first | with_reducible exact Pick.here _ | apply Pick.there)); (first | done | fail))) | with_reducible apply Sub.drop)); first | done | fail)
end Go.Proofs.Ytnkddbbcfolcdaa
