/-
  The cache's reference (layer 15): Like; a node got twice.
-/
import Derived.Test.YtnkddbbcfolcdaaC15t
namespace Go.Proofs.Ytnkddbbcfolcdaa
set_option linter.unusedSimpArgs false
set_option linter.unusedVariables false
open Go Xe
theorem ord_f31_r6_C15u : orderOfB Try.f31 6 [] (.a 0 (.a 1 (.a 2 (.a 3 (.a 5 (.a 6 (.a 7 (.a 8 (.v 4 (.k 9 (.k 10 (.k 11 (.a 12 (.a 13 (.a 14 (.a 15 (.a 17 (.a 18 (.a 19 (.a 20 (.v 16 (.k 21 (.k 22 (.k 23 (.k 24 (.a 25 (.a 26 (.a 27 (.a 28 (.a 30 (.a 31 (.a 32 (.a 33 (.v 29 (.k 34 (.k 35 (.k 36 (.k 37 .done)))))))))))))))))))))))))))))))))))))) = true := by kernel_rfl
theorem rsame_calls {E : Env} {w : World} {L : List As} {g : Hp} {a : Option Addr} {n k : Nat} {lv : Value} {cells : List Value} {l : List Hd} (hl : (rdSl 96 8 rdHd) g [.slice a n k] l) (hels : Els rdHd 8 g cells l) (hw : Sat E w (OwnSl 42 8 lv l.length cells :: RO g :: L)) :
    Calls Try.prog 31 #[.slice a n k, lv] w fun e w' => e = .returned (.bool true) ∧ Sat E w' (OwnSl 42 8 lv l.length cells :: RO g :: L) := by
  obtain ⟨rfl, hb1, hc1, hm1, g1⟩ := rdSl_get hl
  simp only [reachBytes] at hb1
  obtain ⟨la, cc, rfl, _, _, ha⟩ := hw.own_shape
  refine calls_of_g (n := 55) Try.func31 rfl rfl rfl ?_
  change G _ _ _ _ _ [(0, _), (1, _)] _
  refine g_seq ?_
  refine g_region ?_
  refine rl_v rfl rfl rfl (S := fun _ => True) trivial (v_assign rfl) ?_
  refine rl_nil (g_le (Fr.le_keep (Fr.le_refl _)) ?_)
  refine g_seq (g_seq ?_)
  refine g_region ?_
  refine rl_v rfl rfl rfl (S := fun _ => True) trivial (v_move rfl) ?_
  refine rl_v rfl rfl rfl (S := fun _ => True) trivial (v_lenSlice T.sl_39_42_8 rfl) ?_
  refine rl_v rfl rfl rfl (S := fun _ => True) trivial (v_move rfl) ?_
  refine rl_v rfl rfl rfl (S := fun _ => True) trivial (v_lenSlice T.sl_39_42_8 rfl) ?_
  first | (refine rl_v rfl rfl rfl (S := fun _ => True) trivial (v_neqT rfl rfl (by omega)) ?_) | (refine rl_v rfl rfl rfl (S := fun _ => True) trivial (v_neqF rfl rfl (by first | omega | rfl)) ?_) | (refine rl_v rfl rfl rfl (S := fun _ => True) trivial (v_neq rfl rfl) ?_)
  refine rl_nil (g_le (Fr.le_keep (Fr.le_skip rfl (Fr.le_skip rfl (Fr.le_skip rfl (Fr.le_skip rfl (Fr.le_refl _)))))) ?_)
  refine g_cond_false rfl ?_
  refine g_skip (g_seq (g_seq ?_))
  refine g_region ?_
  refine rl_v rfl rfl rfl (S := fun _ => True) trivial (v_assign rfl) ?_
  refine rl_nil (g_le (Fr.le_keep (Fr.le_refl _)) ?_)
  refine g_block ?_
  refine g_loopC (σ := Int) (fun C x => (5, .int .i64 x) :: C) [(0, _), (1, _), (4, _)] (by repeat (first | exact Fr.le_nil _ | refine Fr.le_cons rfl ?_)) (fun z w => 0 ≤ z ∧ z ≤ l.length ∧ Sat E w (OwnSl 42 8 (.slice la l.length cc) l.length cells :: RO g :: L)) (fun z => (l.length - z).toNat) ?_ 0 (by repeat (first | exact Fr.le_nil _ | refine Fr.le_cons rfl ?_)) ⟨by omega, by omega, hw⟩
  rintro i w ⟨hi0, hi1, hw⟩ ih
  refine g_seq (g_seq ?_)
  refine g_region ?_
  refine rl_v rfl rfl rfl (S := fun _ => True) trivial (v_move rfl) ?_
  refine rl_v rfl rfl rfl (S := fun _ => True) trivial (v_move rfl) ?_
  refine rl_v rfl rfl rfl (S := fun _ => True) trivial (v_lenSlice T.sl_39_42_8 rfl) ?_
  first | (refine rl_v rfl rfl rfl (S := fun _ => True) trivial (v_lssT rfl rfl (by omega)) ?_) | (refine rl_v rfl rfl rfl (S := fun _ => True) trivial (v_lssF rfl rfl (by omega)) ?_) | (refine rl_v rfl rfl rfl (S := fun _ => True) trivial (v_lss rfl rfl) ?_)
  refine rl_nil (g_le (Fr.le_keep (Fr.le_keep (Fr.le_keep (Fr.le_keep (Fr.le_refl _))))) ?_)
  refine g_cond rfl (fun h2 => ?_) (fun h2 => ?_)
  · try with_reducible exact ft_elim h2
    all_goals
      try replace h2 := of_decide_eq_true h2
      refine g_skip (g_seq (g_block (g_seq ?_)))
      have hz := hw
      clear hw
      obtain ⟨gb, rfl⟩ := ha (by omega)
      obtain ⟨b4, o1, x, ecs, rfl, hx, hat1, hl1, hrd⟩ := g1 i hi0 (by omega)
      have hlt : i.toNat < l.length := by omega
      obtain ⟨fa, fn, fc, la, ln, lc, hsub, hrd2, hnd2, hok2, hle2⟩ := hd_cells hels hx
      have hsub4 : SubAt cells (0 + i.toNat * 8) x.ref.cells := ⟨hsub.1, hsub.2.1, hsub.2.2.1, hsub.2.2.2.1, trivial⟩
      have hsub3 : SubAt cells (0 + i.toNat * 8 + 4) [.bool x.node.leaf, .slice fa fn fc, .slice la ln lc] := ⟨hsub.2.2.2.2.1, hsub.2.2.2.2.2.1, hsub.2.2.2.2.2.2.1, trivial⟩
      have hsub := hsub
      obtain ⟨c0, c1, c2, c3, c4, c5, c6, c7, rfl, ⟨r1, r2⟩, hn, ⟨p1, p2⟩⟩ := id hrd
      obtain ⟨n4, n5, n6, hq, e4, n7, n8⟩ := id hn
      simp only [List.cons.injEq, and_true] at r1 p1 hq
      obtain ⟨rfl, rfl, rfl, rfl⟩ := r1
      obtain ⟨rfl, rfl, rfl⟩ := hq
      simp only [rdBool, List.cons.injEq, and_true] at e4
      subst p1 e4
      obtain ⟨ea, en, ec, rfl⟩ := rdSl_shape n7
      obtain ⟨ka, kn, kc, rfl⟩ := rdSl_shape n8
      have hatR : HAt g b4 (o1 + i.toNat * 8 + 0) [.int .u64 x.ref.key, .int .i64 x.ref.seg, .int .i64 x.ref.off, .int .i64 x.ref.len] := ⟨hat1.1, hat1.2.1, hat1.2.2.1, hat1.2.2.2.1, trivial⟩
      have hatN : HAt g b4 (o1 + i.toNat * 8 + 4) [.bool x.node.leaf, .slice ea en ec, .slice ka kn kc] := ⟨hat1.2.2.2.2.1, hat1.2.2.2.2.2.1, hat1.2.2.2.2.2.2.1, trivial⟩
      have hat1 := hat1
      have hw := hz
      refine g_drawR ord_f31_r6_C15u (by kernel_rfl) T.mixed hw (fun w hw => ?_)
      refine rs_a 0 rfl rfl rfl rfl (v_move rfl) ?_
      refine rs_a 1 rfl rfl rfl rfl (v_move rfl) ?_
      refine rs_a 2 rfl rfl rfl rfl (v_indexAddr T.sl_39_42_8 rfl rfl (by omega) (by omega)) ?_
      first | (refine rs_a 3 rfl rfl rfl rfl (v_fieldAddr0 T.fld_42_0_0 rfl) ?_) | (refine rs_a 3 rfl rfl rfl rfl (v_fieldAddr T.fld_42_0_0 rfl) ?_)
      refine rs_a 5 rfl rfl rfl rfl (v_move rfl) ?_
      refine rs_a 6 rfl rfl rfl rfl (v_move rfl) ?_
      refine rs_a 7 rfl rfl rfl rfl (v_indexAddr T.sl_39_42_8 rfl rfl (by omega) (by omega)) ?_
      first | (refine rs_a 8 rfl rfl rfl rfl (v_fieldAddr0 T.fld_42_0_0 rfl) ?_) | (refine rs_a 8 rfl rfl rfl rfl (v_fieldAddr T.fld_42_0_0 rfl) ?_)
      refine rs_v 4 rfl rfl rfl rfl (OpV.mono (v_loadAgg (vs := [_, _, _, _]) T.agg_34_4 rfl rfl) (fun w hw => by first | exact sat_cells hw (by (repeat (first | with_reducible exact Pick.here _ | apply Pick.there)); first | done | fail) ⟨rfl, rfl, rfl, rfl, trivial⟩ | exact ro_ats hw (by (repeat (first | with_reducible exact Pick.here _ | apply Pick.there)); first | done | fail) (by assumption) | exact own_cells hw (by (repeat (first | with_reducible exact Pick.here _ | apply Pick.there)); first | done | fail) (by assumption) | exact old_cells hw (by (repeat (first | with_reducible exact Pick.here _ | apply Pick.there)); first | done | fail) (by assumption))) (by first | exact hw | exact Sat.sub hw (by (repeat (first | with_reducible exact Sub.refl _ | exact Sub.nil _ | (apply Sub.cons; focus ((repeat (first | with_reducible exact Pick.here _ | apply Pick.there)); (first | done | fail))) | with_reducible apply Sub.drop)); first | done | fail)) ?_
      refine rs_kv 9 rfl rfl rfl rfl (by first | exact sat_cells hw (by (repeat (first | with_reducible exact Pick.here _ | apply Pick.there)); first | done | fail) ⟨rfl, rfl, rfl, rfl, trivial⟩ | exact ro_ats hw (by (repeat (first | with_reducible exact Pick.here _ | apply Pick.there)); first | done | fail) (by assumption) | exact own_cells hw (by (repeat (first | with_reducible exact Pick.here _ | apply Pick.there)); first | done | fail) (by assumption) | exact old_cells hw (by (repeat (first | with_reducible exact Pick.here _ | apply Pick.there)); first | done | fail) (by assumption)) (v_loadAgg (vs := [_, _, _, _]) T.agg_34_4 rfl rfl) ?_
      refine rs_kv 10 rfl rfl rfl rfl (S' := fun _ => True) trivial (v_neqAgg T.cmp_34_iiii rfl rfl rfl rfl (by first | exact eq_Rf _ _ | rfl)) ?_
      refine rs_kv 11 rfl rfl rfl rfl (S' := fun _ => True) trivial (v_move rfl) ?_
      refine rs_split (s := 28) rfl (fun g6_11 => ?_) (fun g6_11 => ?_)
      · try with_reducible exact ft_elim g6_11
        all_goals
          try replace g6_11 := of_decide_eq_true g6_11
          simp at g6_11
      · try with_reducible exact tf_elim g6_11
        all_goals
          try replace g6_11 := of_decide_eq_false g6_11
          refine rs_ag 12 rfl (met_on rfl rfl rfl rfl) rfl rfl (v_move rfl) ?_
          refine rs_ag 13 rfl (met_on rfl rfl rfl rfl) rfl rfl (v_move rfl) ?_
          refine rs_ag 14 rfl (met_on rfl rfl rfl rfl) rfl rfl (v_indexAddr T.sl_39_42_8 rfl rfl (by omega) (by omega)) ?_
          first | (refine rs_ag 15 rfl (met_on rfl rfl rfl rfl) rfl rfl (v_fieldAddr0 T.fld_42_2_7 rfl) ?_) | (refine rs_ag 15 rfl (met_on rfl rfl rfl rfl) rfl rfl (v_fieldAddr T.fld_42_2_7 rfl) ?_)
          refine rs_ag 17 rfl (met_on rfl rfl rfl rfl) rfl rfl (v_move rfl) ?_
          refine rs_ag 18 rfl (met_on rfl rfl rfl rfl) rfl rfl (v_move rfl) ?_
          refine rs_ag 19 rfl (met_on rfl rfl rfl rfl) rfl rfl (v_indexAddr T.sl_39_42_8 rfl rfl (by omega) (by omega)) ?_
          first | (refine rs_ag 20 rfl (met_on rfl rfl rfl rfl) rfl rfl (v_fieldAddr0 T.fld_42_2_7 rfl) ?_) | (refine rs_ag 20 rfl (met_on rfl rfl rfl rfl) rfl rfl (v_fieldAddr T.fld_42_2_7 rfl) ?_)
          refine rs_vg 16 rfl (met_on rfl rfl rfl rfl) rfl rfl (OpV.mono (v_load T.scal_3 rfl) (fun w hw => by first | exact sat_cell hw (by (repeat (first | with_reducible exact Pick.here _ | apply Pick.there)); first | done | fail) rfl | exact own_cell hw (by (repeat (first | with_reducible exact Pick.here _ | apply Pick.there)); first | done | fail) (by first | rfl | assumption) | exact ro_at0 hw (by (repeat (first | with_reducible exact Pick.here _ | apply Pick.there)); first | done | fail) (by assumption) rfl | exact ro_at hw (by (repeat (first | with_reducible exact Pick.here _ | apply Pick.there)); first | done | fail) (by assumption) rfl | exact own_at0 hw (by (repeat (first | with_reducible exact Pick.here _ | apply Pick.there)); first | done | fail) (by assumption) rfl | exact own_at hw (by (repeat (first | with_reducible exact Pick.here _ | apply Pick.there)); first | done | fail) (by assumption) rfl | exact old_cell hw (by (repeat (first | with_reducible exact Pick.here _ | apply Pick.there)); first | done | fail) (by assumption) | assumption)) (by first | exact hw | exact Sat.sub hw (by (repeat (first | with_reducible exact Sub.refl _ | exact Sub.nil _ | (apply Sub.cons; focus ((repeat (first | with_reducible exact Pick.here _ | apply Pick.there)); (first | done | fail))) | with_reducible apply Sub.drop)); first | done | fail)) ?_
          refine rs_kvg 21 rfl (met_on rfl rfl rfl rfl) rfl rfl (by first | exact sat_cell hw (by (repeat (first | with_reducible exact Pick.here _ | apply Pick.there)); first | done | fail) rfl | exact own_cell hw (by (repeat (first | with_reducible exact Pick.here _ | apply Pick.there)); first | done | fail) (by first | rfl | assumption) | exact ro_at0 hw (by (repeat (first | with_reducible exact Pick.here _ | apply Pick.there)); first | done | fail) (by assumption) rfl | exact ro_at hw (by (repeat (first | with_reducible exact Pick.here _ | apply Pick.there)); first | done | fail) (by assumption) rfl | exact own_at0 hw (by (repeat (first | with_reducible exact Pick.here _ | apply Pick.there)); first | done | fail) (by assumption) rfl | exact own_at hw (by (repeat (first | with_reducible exact Pick.here _ | apply Pick.there)); first | done | fail) (by assumption) rfl | exact old_cell hw (by (repeat (first | with_reducible exact Pick.here _ | apply Pick.there)); first | done | fail) (by assumption) | assumption) (v_load T.scal_3 rfl) ?_
          first | (refine rs_kvg 22 rfl (met_on rfl rfl rfl rfl) rfl rfl (S' := fun _ => True) trivial (v_neqT rfl rfl (by omega)) ?_) | (refine rs_kvg 22 rfl (met_on rfl rfl rfl rfl) rfl rfl (S' := fun _ => True) trivial (v_neqF rfl rfl (by first | omega | rfl)) ?_) | (refine rs_kvg 22 rfl (met_on rfl rfl rfl rfl) rfl rfl (S' := fun _ => True) trivial (v_neq rfl rfl) ?_)
          first | (refine rs_kv 23 rfl rfl rfl rfl (S' := fun _ => True) trivial (v_pick_true rfl rfl) ?_) | (refine rs_kv 23 rfl rfl rfl rfl (S' := fun _ => True) trivial (v_pick_false rfl rfl) ?_) | (refine rs_kv 23 rfl rfl rfl rfl (S' := fun _ => True) trivial (v_pick rfl rfl rfl) ?_)
          refine rs_kv 24 rfl rfl rfl rfl (S' := fun _ => True) trivial (v_move rfl) ?_
          refine rs_split (s := 41) rfl (fun g6_24 => ?_) (fun g6_24 => ?_)
          · try with_reducible exact ft_elim g6_24
            all_goals
              try replace g6_24 := of_decide_eq_true g6_24
              simp at g6_24
          · try with_reducible exact tf_elim g6_24
            all_goals
              try replace g6_24 := of_decide_eq_false g6_24
              refine rs_ag 25 rfl (met_on rfl rfl rfl rfl) rfl rfl (v_move rfl) ?_
              refine rs_ag 26 rfl (met_on rfl rfl rfl rfl) rfl rfl (v_move rfl) ?_
              refine rs_ag 27 rfl (met_on rfl rfl rfl rfl) rfl rfl (v_indexAddr T.sl_39_42_8 rfl rfl (by omega) (by omega)) ?_
              first | (refine rs_ag 28 rfl (met_on rfl rfl rfl rfl) rfl rfl (v_fieldAddr0 T.fld_42_1_4 rfl) ?_) | (refine rs_ag 28 rfl (met_on rfl rfl rfl rfl) rfl rfl (v_fieldAddr T.fld_42_1_4 rfl) ?_)
              refine rs_ag 30 rfl (met_on rfl rfl rfl rfl) rfl rfl (v_move rfl) ?_
              refine rs_ag 31 rfl (met_on rfl rfl rfl rfl) rfl rfl (v_move rfl) ?_
              refine rs_ag 32 rfl (met_on rfl rfl rfl rfl) rfl rfl (v_indexAddr T.sl_39_42_8 rfl rfl (by omega) (by omega)) ?_
              first | (refine rs_ag 33 rfl (met_on rfl rfl rfl rfl) rfl rfl (v_fieldAddr0 T.fld_42_1_4 rfl) ?_) | (refine rs_ag 33 rfl (met_on rfl rfl rfl rfl) rfl rfl (v_fieldAddr T.fld_42_1_4 rfl) ?_)
              refine rs_vg 29 rfl (met_on rfl rfl rfl rfl) rfl rfl (OpV.mono (v_loadAgg (vs := [_, _, _]) T.agg_25_3 rfl rfl) (fun w hw => by first | exact sat_cells hw (by (repeat (first | with_reducible exact Pick.here _ | apply Pick.there)); first | done | fail) ⟨rfl, rfl, rfl, trivial⟩ | exact ro_ats hw (by (repeat (first | with_reducible exact Pick.here _ | apply Pick.there)); first | done | fail) (by assumption) | exact own_cells hw (by (repeat (first | with_reducible exact Pick.here _ | apply Pick.there)); first | done | fail) (by assumption) | exact old_cells hw (by (repeat (first | with_reducible exact Pick.here _ | apply Pick.there)); first | done | fail) (by assumption))) (by first | exact hw | exact Sat.sub hw (by (repeat (first | with_reducible exact Sub.refl _ | exact Sub.nil _ | (apply Sub.cons; focus ((repeat (first | with_reducible exact Pick.here _ | apply Pick.there)); (first | done | fail))) | with_reducible apply Sub.drop)); first | done | fail)) ?_
              refine rs_kvg 34 rfl (met_on rfl rfl rfl rfl) rfl rfl (by first | exact sat_cells hw (by (repeat (first | with_reducible exact Pick.here _ | apply Pick.there)); first | done | fail) ⟨rfl, rfl, rfl, trivial⟩ | exact ro_ats hw (by (repeat (first | with_reducible exact Pick.here _ | apply Pick.there)); first | done | fail) (by assumption) | exact own_cells hw (by (repeat (first | with_reducible exact Pick.here _ | apply Pick.there)); first | done | fail) (by assumption) | exact old_cells hw (by (repeat (first | with_reducible exact Pick.here _ | apply Pick.there)); first | done | fail) (by assumption)) (v_loadAgg (vs := [_, _, _]) T.agg_25_3 rfl rfl) ?_
              refine rs_kg 35 rfl (met_on rfl rfl rfl rfl) (k_callf Try.func15 rfl rfl rfl rfl ?_)
              refine Calls.mono (likeNd_calls hn hnd2 (hw.sub (by (repeat (first | with_reducible exact Sub.refl _ | exact Sub.nil _ | (apply Sub.cons; focus ((repeat (first | with_reducible exact Pick.here _ | apply Pick.there)); (first | done | fail))) | with_reducible apply Sub.drop)); first | done | fail))) ?_
              rw [decide_eq_true rfl]
              rintro _ w ⟨rfl, hw⟩
              refine ⟨_, rfl, ?_⟩
              refine ⟨fun _ => (by first | exact hw | exact Sat.sub hw (by (repeat (first | with_reducible exact Sub.refl _ | exact Sub.nil _ | (apply Sub.cons; focus ((repeat (first | with_reducible exact Pick.here _ | apply Pick.there)); (first | done | fail))) | with_reducible apply Sub.drop)); first | done | fail) | exact Sat.sub (Sat.shrink (Sat.pick hw (by (repeat (first | with_reducible exact Pick.here _ | apply Pick.there)); first | done | fail)) (by assumption)) (by (repeat (first | with_reducible exact Sub.refl _ | exact Sub.nil _ | (apply Sub.cons; focus ((repeat (first | with_reducible exact Pick.here _ | apply Pick.there)); (first | done | fail))) | with_reducible apply Sub.drop)); first | done | fail)), ?_⟩
              refine rs_kvg 36 rfl (met_on rfl rfl rfl rfl) rfl rfl (S' := fun _ => True) trivial (v_not rfl) ?_
              first | (refine rs_kv 37 rfl rfl rfl rfl (S' := fun _ => True) trivial (v_pick_true rfl rfl) ?_) | (refine rs_kv 37 rfl rfl rfl rfl (S' := fun _ => True) trivial (v_pick_false rfl rfl) ?_) | (refine rs_kv 37 rfl rfl rfl rfl (S' := fun _ => True) trivial (v_pick rfl rfl rfl) ?_)
              refine rs_done (g_le (Fr.le_keep (Fr.le_keep (Fr.le_keep (Fr.le_keep (Fr.le_keep (Fr.le_keep (Fr.le_keep (Fr.le_keep (Fr.le_keep (Fr.le_keep (Fr.le_keep (Fr.le_keep (Fr.le_keep (Fr.le_keep (Fr.le_keep (Fr.le_keep (Fr.le_keep (Fr.le_keep (Fr.le_keep (Fr.le_keep (Fr.le_keep (Fr.le_keep (Fr.le_keep (Fr.le_keep (Fr.le_keep (Fr.le_keep (Fr.le_keep (Fr.le_keep (Fr.le_keep (Fr.le_keep (Fr.le_keep (Fr.le_keep (Fr.le_keep (Fr.le_keep (Fr.le_keep (Fr.le_keep (Fr.le_keep (Fr.le_keep (Fr.le_keep (Fr.le_keep (Fr.le_refl _))))))))))))))))))))))))))))))))))))))))) ?_)
              refine g_cond_false rfl ?_
              refine g_skip (g_inBlock ?_)
              refine g_region ?_
              refine rl_v rfl rfl rfl (S := fun _ => True) trivial (v_move rfl) ?_
              first | (refine rl_v rfl rfl rfl (S := fun _ => True) trivial (v_add rfl rfl (by omega)) ?_) | (refine rl_v rfl rfl rfl (S := fun _ => True) trivial (v_addW rfl rfl) ?_)
              refine rl_v rfl rfl rfl (S := fun _ => True) trivial (v_assign rfl) ?_
              refine rl_nil (g_le (Fr.le_keep (Fr.le_keep (Fr.le_keep (Fr.le_refl _)))) ?_)
              exact g_le (by repeat (first | exact Fr.le_nil _ | refine Fr.le_cons rfl ?_)) (ih (i + 1) w ⟨by omega, by omega, hw.sub (by (repeat (first | with_reducible exact Sub.refl _ | exact Sub.nil _ | (apply Sub.cons; focus ((repeat (first | with_reducible exact Pick.here _ | apply Pick.there)); (first | done | fail))) | with_reducible apply Sub.drop)); first | done | fail)⟩ (by omega))
  · try with_reducible exact tf_elim h2
    all_goals
      try replace h2 := of_decide_eq_false h2
      refine g_exit rfl (g_seq ?_)
      refine g_region ?_
      refine rl_v rfl rfl rfl (S := fun _ => True) trivial (v_assign rfl) ?_
      refine rl_nil (g_le (Fr.le_keep (Fr.le_refl _)) ?_)
      refine g_ret1 Try.func31 rfl rfl ?_
      exact ⟨rfl, hw.sub (by (repeat (first | with_reducible exact Sub.refl _ | exact Sub.nil _ | (apply Sub.cons; focus ((repeat (first | with_reducible exact Pick.here _ | apply Pick.there)); (first | done | fail))) | with_reducible apply Sub.drop)); first | done | fail)⟩
end Go.Proofs.Ytnkddbbcfolcdaa
