/-
  CacheHits: each Get is a hit or a miss, and nothing else is.
-/
import Derived.Test.YtnkddbbcfolcdaaC15f
namespace Go.Proofs.Ytnkddbbcfolcdaa
set_option linter.unusedSimpArgs false
set_option linter.unusedVariables false
open Go Xe Go.Lib Go.RowKit Go.ChangeShapes Go.WideShapes Go.ChangeAt
theorem ord_f5_r11_C15H : orderOfB Try.f5 11 [6] (.a 0 (.a 1 (.a 4 (.v 2 (.v 5 (.k 3 (.k 6 .done))))))) = true := by kernel_rfl
set_option maxHeartbeats 4000000 in
theorem CacheHits_law {w : World} {room : Int} {a : Option Addr} {len cap : Nat} {xs : List Op} (hrw : (Lit.int .i64 room).wf = true) (hr : rdArg (rdSl 96 6 rdOp) w (.slice a len cap) xs) :
    Law Try.prog 5 [.int .i64 room, .slice a len cap] w := by
  unfold Law
  have hw := Sat.old w
  generalize w = W at hr hw ⊢
  have hr : (rdSl 96 6 rdOp) (hpOf W) [.slice a len cap] xs := hr
  obtain ⟨hlen, _, hlc, _, _⟩ := rdSl_get hr
  refine calls_of_g (n := 99) Try.func5 rfl rfl rfl ?_
  change G _ _ _ _ _ [(0, _), (1, _)] _
  refine g_seq ?_
  refine g_region ?_
  refine rl_v rfl rfl rfl (S := fun _ => True) trivial (v_assign rfl) ?_
  refine rl_nil (g_le (Fr.le_keep (Fr.le_refl _)) ?_)
  refine g_seq (g_seq ?_)
  refine g_cutc2 (σ := Int) (fun C x => (0, .int .i64 x) :: C) [(1, _), (4, _)] (by repeat (first | exact Fr.le_nil _ | refine Fr.le_cons rfl ?_)) (fun x w => 0 ≤ x ∧ x ≤ 32 ∧ Sat (envOf W) w [Old W]) ?_ ?_
  · skip
    rintro rm w ⟨hrm0, hrm1, hw⟩
    all_goals
      refine g_seq ?_
      refine g_region ?_
      refine rl_v rfl rfl rfl (S := fun _ => True) trivial (v_move rfl) ?_
      refine rl_k rfl (k_callf Try.func8 rfl rfl rfl rfl ?_)
      refine Calls.mono (cnew_calls rm hw) ?_
      rintro _ w ⟨hn, _⟩
      obtain ⟨c, rfl, hw⟩ := hn ⟨hrm0, hrm1⟩
      refine ⟨_, rfl, ?_⟩
      refine rl_v rfl rfl rfl (S := fun _ => True) trivial (v_move rfl) ?_
      refine rl_v rfl rfl rfl (S := fun _ => True) trivial (v_extract rfl rfl) ?_
      refine rl_v rfl rfl rfl (S := fun _ => True) trivial (v_extract rfl rfl) ?_
      refine rl_v rfl rfl rfl (S := fun _ => True) trivial (v_assign rfl) ?_
      refine rl_v rfl rfl rfl (S := fun _ => True) trivial (v_assign rfl) ?_
      refine rl_nil (g_le (Fr.le_keep (Fr.le_keep (Fr.le_skip rfl (Fr.le_skip rfl (Fr.le_skip rfl (Fr.le_skip rfl (Fr.le_skip rfl (Fr.le_refl _)))))))) ?_)
      refine g_seq (g_seq ?_)
      refine g_region ?_
      refine rl_v rfl rfl rfl (S := fun _ => True) trivial (v_move rfl) ?_
      first | (refine rl_v rfl rfl rfl (S := fun _ => True) trivial (v_neqT rfl rfl (by omega)) ?_) | (refine rl_v rfl rfl rfl (S := fun _ => True) trivial (v_neqF rfl rfl (by first | omega | rfl)) ?_) | (refine rl_v rfl rfl rfl (S := fun _ => True) trivial (v_neq rfl rfl) ?_)
      refine rl_v rfl rfl rfl (S := fun _ => True) trivial (v_move rfl) ?_
      first | (refine rl_vg (met_on rfl rfl rfl rfl) rfl rfl (S := fun _ => True) trivial (v_move rfl) ?_) | (refine rl_off (by first | exact met_off rfl rfl rfl rfl rfl | exact met_gone rfl rfl rfl rfl) rfl rfl ?_)
      first | (refine rl_vg (met_on rfl rfl rfl rfl) rfl rfl (S := fun _ => True) trivial (v_eqlNil T.ptr_26 rfl rfl) ?_) | (refine rl_off (by first | exact met_off rfl rfl rfl rfl rfl | exact met_gone rfl rfl rfl rfl) rfl rfl ?_)
      first | (refine rl_v rfl rfl rfl (S := fun _ => True) trivial (v_pick_true rfl rfl) ?_) | (refine rl_v rfl rfl rfl (S := fun _ => True) trivial (v_pick_false rfl rfl) ?_) | (refine rl_v rfl rfl rfl (S := fun _ => True) trivial (v_pick rfl rfl rfl) ?_)
      refine rl_nil (g_le (Fr.le_keep (Fr.le_skip rfl (Fr.le_skip rfl (Fr.le_skip rfl (Fr.le_skip rfl (Fr.le_skip rfl (Fr.le_refl _))))))) ?_)
      refine g_cond_false rfl ?_
      refine g_skip (g_seq ?_)
      refine g_region ?_
      refine rl_v rfl rfl rfl (S := fun _ => True) trivial (v_assign rfl) ?_
      refine rl_v rfl rfl rfl (S := fun _ => True) trivial (v_assign rfl) ?_
      refine rl_nil (g_le (Fr.le_keep (Fr.le_keep (Fr.le_refl _))) ?_)
      refine g_seq (g_seq ?_)
      refine g_region ?_
      refine rl_v rfl rfl rfl (S := fun _ => True) trivial (v_move rfl) ?_
      refine rl_k rfl (k_callf Try.func16 rfl rfl rfl rfl ?_)
      refine Calls.mono (short_calls a len cap 60 (by omega) hlc hw) ?_
      rintro _ w ⟨rfl, hw⟩
      refine ⟨_, rfl, ?_⟩
      refine rl_v rfl rfl rfl (S := fun _ => True) trivial (v_lenSlice T.sl_45_49_6 rfl) ?_
      refine rl_v rfl rfl rfl (S := fun _ => True) trivial (v_move rfl) ?_
      refine rl_nil (g_le (Fr.le_keep (Fr.le_keep (Fr.le_keep (Fr.le_skip rfl (Fr.le_refl _))))) ?_)
      refine g_block ?_
      refine g_loopC (σ := Int × Ch × Hp × Value × List Value) (fun C x => (35, .int .i64 x.1) :: (7, .int .i64 x.2.1.hits) :: (8, .int .i64 x.2.1.misses) :: C) [(4, _), (5, _), (33, _), (34, _)] (by repeat (first | exact Fr.le_nil _ | refine Fr.le_cons rfl ?_)) (fun z w => 0 ≤ z.1 ∧ z.1 ≤ (min len 60 : Nat) ∧ 0 ≤ z.2.1.hits ∧ z.2.1.hits ≤ z.1 ∧ 0 ≤ z.2.1.misses ∧ z.2.1.misses ≤ z.1 ∧ z.2.1.l.length ≤ z.1 ∧ (hpOf W).le z.2.2.1 ∧ Els rdHd 8 z.2.2.1 z.2.2.2.2 z.2.1.l ∧ Sat (envOf W) w (pt c (.cells [Value.int .i64 (z.2.1 : Ch).room, z.2.2.2.1, .int .i64 (z.2.1 : Ch).hits, .int .i64 (z.2.1 : Ch).misses].toArray 70 (0, 0)) :: OwnSl 42 8 z.2.2.2.1 (z.2.1 : Ch).l.length z.2.2.2.2 :: RO z.2.2.1 :: [])) (fun z => ((min len 60 : Nat) - z.1).toNat) ?_ (0, ⟨rm, [], 0, 0⟩, hpOf W, .slice none 0 0, []) (by repeat (first | exact Fr.le_nil _ | refine Fr.le_cons rfl ?_)) ⟨by simp, by simp only; omega, by simp, by simp, by simp, by simp, by simp, Hp.le_refl _, Els.nil, hw.sub (by (repeat (first | with_reducible exact Sub.refl _ | exact Sub.nil _ | (apply Sub.cons; focus ((repeat (first | with_reducible exact Pick.here _ | apply Pick.there)); (first | done | fail))) | with_reducible apply Sub.drop)); first | done | fail)⟩
      rintro ⟨i, s, g, lv, cells⟩ w ⟨hi0, hi1, hh0, hh1, hm0, hm1, hb, hg, hels, hw⟩ ih
      dsimp only at hi0 hi1 hh0 hh1 hm0 hm1 hb hg hels hw ⊢
      have hb' : s.l.length ≤ 100000 := by omega
      refine g_seq ?_
      refine g_region ?_
      first | (refine rl_v rfl rfl rfl (S := fun _ => True) trivial (v_lssT rfl rfl (by omega)) ?_) | (refine rl_v rfl rfl rfl (S := fun _ => True) trivial (v_lssF rfl rfl (by omega)) ?_) | (refine rl_v rfl rfl rfl (S := fun _ => True) trivial (v_lss rfl rfl) ?_)
      refine rl_nil (g_le (Fr.le_keep (Fr.le_refl _)) ?_)
      refine g_seq ?_
      refine g_cond rfl (fun h3 => ?_) (fun h3 => ?_)
      · try with_reducible exact ft_elim h3
        all_goals
          try replace h3 := of_decide_eq_true h3
          refine g_skip (g_seq (g_block (g_seq ?_)))
          have hz := hw
          clear hw
          obtain ⟨_, _, _, _, g1⟩ := rdSl_get (rdSl_take (min len 60) (mono_sl mono_Op hg hr) (by omega))
          obtain ⟨b4, o1, x, ecs, rfl, hx, hat1, hl1, hro⟩ := g1 i hi0 (by omega)
          obtain ⟨q0, q1, q2, q3, q4, q5, rfl, ⟨hd0, _⟩, ⟨hd1, _⟩, hnd, hrf⟩ := hro
          simp only [List.cons.injEq, and_true] at hd0 hd1
          subst hd0 hd1
          obtain ⟨n0, n1, n2, hq, hq0, hq1, hq2⟩ := id hnd
          simp only [List.cons.injEq, and_true] at hq
          obtain ⟨rfl, rfl, rfl⟩ := hq
          simp only [rdBool, List.cons.injEq, and_true] at hq0
          subst hq0
          obtain ⟨qa1, qn1, qk1, rfl⟩ := rdSl_shape hq1
          obtain ⟨qa2, qn2, qk2, rfl⟩ := rdSl_shape hq2
          obtain ⟨qa3, qn3, qk3, rfl⟩ := rdSl_shape hrf
          have hw := hz
          refine g_region ?_
          refine rl_v rfl rfl rfl (S := fun _ => True) trivial (v_indexAddr T.sl_45_49_6 rfl rfl (by omega) (by omega)) ?_
          refine rl_v rfl rfl rfl (by first | exact sat_cells hw (by (repeat (first | with_reducible exact Pick.here _ | apply Pick.there)); first | done | fail) ⟨rfl, rfl, rfl, rfl, rfl, rfl, trivial⟩ | exact ro_ats hw (by (repeat (first | with_reducible exact Pick.here _ | apply Pick.there)); first | done | fail) (by assumption) | exact own_cells hw (by (repeat (first | with_reducible exact Pick.here _ | apply Pick.there)); first | done | fail) (by assumption) | exact old_cells hw (by (repeat (first | with_reducible exact Pick.here _ | apply Pick.there)); first | done | fail) (by assumption)) (v_loadAgg (vs := [_, _, _, _, _, _]) T.agg_49_6 rfl rfl) ?_
          refine rl_k rfl (k_alloc hw T.zero_49 rfl rfl (fun bk9_2 w hw => ?_))
          first | (refine rl_k rfl (k_storeWhole hw T.agg_49_6 rfl rfl (by simp [Value.oneCell']) rfl (by (repeat (first | with_reducible exact Pick.here _ | apply Pick.there)); first | done | fail) rfl (fun w hw => ?_))) | (refine rl_k rfl (k_storeAgg hw T.agg_49_6 rfl rfl (by simp [Value.oneCell']) rfl (by (repeat (first | with_reducible exact Pick.here _ | apply Pick.there)); first | done | fail) rfl rfl (fun w hw => ?_))) | (refine rl_k rfl (k_storeOwnAgg hw T.agg_49_6 rfl rfl (by simp [Value.oneCell']) rfl (by (repeat (first | with_reducible exact Pick.here _ | apply Pick.there)); first | done | fail) (by assumption) (by omega) (fun w hw => ?_)))
          refine rl_nil (g_le (Fr.le_keep (Fr.le_keep (Fr.le_keep (Fr.le_refl _)))) ?_)
          refine g_seq (g_seq ?_)
          refine g_region ?_
          first | (refine rl_v rfl rfl rfl (S := fun _ => True) trivial (v_fieldAddr0 T.fld_49_0_0 rfl) ?_) | (refine rl_v rfl rfl rfl (S := fun _ => True) trivial (v_fieldAddr T.fld_49_0_0 rfl) ?_)
          refine rl_v rfl rfl rfl (by first | exact sat_cell hw (by (repeat (first | with_reducible exact Pick.here _ | apply Pick.there)); first | done | fail) rfl | exact own_cell hw (by (repeat (first | with_reducible exact Pick.here _ | apply Pick.there)); first | done | fail) (by first | rfl | assumption) | exact ro_at0 hw (by (repeat (first | with_reducible exact Pick.here _ | apply Pick.there)); first | done | fail) (by assumption) rfl | exact ro_at hw (by (repeat (first | with_reducible exact Pick.here _ | apply Pick.there)); first | done | fail) (by assumption) rfl | exact own_at0 hw (by (repeat (first | with_reducible exact Pick.here _ | apply Pick.there)); first | done | fail) (by assumption) rfl | exact own_at hw (by (repeat (first | with_reducible exact Pick.here _ | apply Pick.there)); first | done | fail) (by assumption) rfl | exact old_cell hw (by (repeat (first | with_reducible exact Pick.here _ | apply Pick.there)); first | done | fail) (by assumption) | assumption) (v_load T.scal_3 rfl) ?_
          refine rl_nil (g_le (Fr.le_keep (Fr.le_keep (Fr.le_refl _))) ?_)
          refine g_cutc (σ := Ch × Hp × Value × List Value × Int × Int) (fun C x => (7, .int .i64 x.2.2.2.2.1) :: (8, .int .i64 x.2.2.2.2.2) :: C) [(4, _), (5, _), (10, _), (33, _), (34, _), (35, _), (36, _), (37, _), (38, _), (39, _), (40, _)] (by repeat (first | exact Fr.le_nil _ | refine Fr.le_cons rfl ?_)) (fun z w => z.2.2.2.2.1 = z.1.hits ∧ z.2.2.2.2.2 = z.1.misses ∧ 0 ≤ z.1.hits ∧ z.1.hits ≤ i + 1 ∧ 0 ≤ z.1.misses ∧ z.1.misses ≤ i + 1 ∧ z.1.l.length ≤ i + 1 ∧ (hpOf W).le z.2.1 ∧ Els rdHd 8 z.2.1 z.2.2.2.1 z.1.l ∧ Sat (envOf W) w (pt c (.cells [Value.int .i64 (z.1 : Ch).room, z.2.2.1, .int .i64 (z.1 : Ch).hits, .int .i64 (z.1 : Ch).misses].toArray 70 (0, 0)) :: OwnSl 42 8 z.2.2.1 (z.1 : Ch).l.length z.2.2.2.1 :: RO z.2.1 :: [])) ?_ ?_
          · skip
            rintro ⟨s2, g2, lv2, cells2, hh, mm⟩ w ⟨eh, em, kh0, kh1, km0, km1, kb, kg, kels, hw⟩
            dsimp only at eh em kh0 kh1 km0 km1 kb kg kels hw ⊢
            subst eh em
            all_goals
              refine g_seq ?_
              refine g_region ?_
              refine rl_v rfl rfl rfl (S := fun _ => True) trivial (v_move rfl) ?_
              refine rl_k rfl (k_callf Try.func23 rfl rfl rfl rfl ?_)
              refine Calls.mono (chits_calls (hw.sub (by (repeat (first | with_reducible exact Sub.refl _ | exact Sub.nil _ | (apply Sub.cons; focus ((repeat (first | with_reducible exact Pick.here _ | apply Pick.there)); (first | done | fail))) | with_reducible apply Sub.drop)); first | done | fail))) ?_
              rintro _ w ⟨rfl, hw⟩
              refine ⟨_, rfl, ?_⟩
              refine rl_v rfl rfl rfl (S := fun _ => True) trivial (v_move rfl) ?_
              refine rl_v rfl rfl rfl (S := fun _ => True) trivial (v_extract rfl rfl) ?_
              refine rl_v rfl rfl rfl (S := fun _ => True) trivial (v_extract rfl rfl) ?_
              refine rl_v rfl rfl rfl (S := fun _ => True) trivial (v_assign rfl) ?_
              refine rl_v rfl rfl rfl (S := fun _ => True) trivial (v_assign rfl) ?_
              refine rl_nil (g_le (Fr.le_keep (Fr.le_keep (Fr.le_keep (Fr.le_keep (Fr.le_keep (Fr.le_keep (Fr.le_keep (Fr.le_refl _)))))))) ?_)
              refine g_seq ?_
              refine g_region ?_
              refine rl_v rfl rfl rfl (S := fun _ => True) trivial (v_move rfl) ?_
              refine rl_v rfl rfl rfl (S := fun _ => True) trivial (v_move rfl) ?_
              first | (refine rl_v rfl rfl rfl (S := fun _ => True) trivial (v_neqT rfl rfl (by omega)) ?_) | (refine rl_v rfl rfl rfl (S := fun _ => True) trivial (v_neqF rfl rfl (by first | omega | rfl)) ?_) | (refine rl_v rfl rfl rfl (S := fun _ => True) trivial (v_neq rfl rfl) ?_)
              refine rl_v rfl rfl rfl (S := fun _ => True) trivial (v_move rfl) ?_
              first | (refine rl_vg (met_on rfl rfl rfl rfl) rfl rfl (S := fun _ => True) trivial (v_move rfl) ?_) | (refine rl_off (by first | exact met_off rfl rfl rfl rfl rfl | exact met_gone rfl rfl rfl rfl) rfl rfl ?_)
              first | (refine rl_vg (met_on rfl rfl rfl rfl) rfl rfl (S := fun _ => True) trivial (v_move rfl) ?_) | (refine rl_off (by first | exact met_off rfl rfl rfl rfl rfl | exact met_gone rfl rfl rfl rfl) rfl rfl ?_)
              first | (refine rl_vg (met_on rfl rfl rfl rfl) rfl rfl (S := fun _ => True) trivial (v_neqT rfl rfl (by omega)) ?_) | (refine rl_vg (met_on rfl rfl rfl rfl) rfl rfl (S := fun _ => True) trivial (v_neqF rfl rfl (by first | omega | rfl)) ?_) | (refine rl_vg (met_on rfl rfl rfl rfl) rfl rfl (S := fun _ => True) trivial (v_neq rfl rfl) ?_) | (refine rl_off (by first | exact met_off rfl rfl rfl rfl rfl | exact met_gone rfl rfl rfl rfl) rfl rfl ?_)
              first | (refine rl_v rfl rfl rfl (S := fun _ => True) trivial (v_pick_true rfl rfl) ?_) | (refine rl_v rfl rfl rfl (S := fun _ => True) trivial (v_pick_false rfl rfl) ?_) | (refine rl_v rfl rfl rfl (S := fun _ => True) trivial (v_pick rfl rfl rfl) ?_)
              refine rl_nil (g_le (Fr.le_keep (Fr.le_keep (Fr.le_keep (Fr.le_keep (Fr.le_keep (Fr.le_keep (Fr.le_keep (Fr.le_keep (Fr.le_refl _))))))))) ?_)
              refine g_cond_false rfl ?_
              refine g_skip (g_inBlock ?_)
              refine g_region ?_
              first | (refine rl_v rfl rfl rfl (S := fun _ => True) trivial (v_add rfl rfl (by omega)) ?_) | (refine rl_v rfl rfl rfl (S := fun _ => True) trivial (v_addW rfl rfl) ?_)
              refine rl_v rfl rfl rfl (S := fun _ => True) trivial (v_move rfl) ?_
              refine rl_nil (g_le (Fr.le_keep (Fr.le_keep (Fr.le_refl _))) ?_)
              exact g_le (by repeat (first | exact Fr.le_nil _ | refine Fr.le_cons rfl ?_)) (ih (i + 1, s2, g2, lv2, cells2) w ⟨by simp only; omega, by simp only; omega, kh0, kh1, km0, km1, by simp only; omega, kg, kels, hw.sub (by (repeat (first | with_reducible exact Sub.refl _ | exact Sub.nil _ | (apply Sub.cons; focus ((repeat (first | with_reducible exact Pick.here _ | apply Pick.there)); (first | done | fail))) | with_reducible apply Sub.drop)); first | done | fail)⟩ (by simp only; omega))
          · intro joinb2
            refine g_block (g_seq ?_)
            refine g_region ?_
            first | (refine rl_v rfl rfl rfl (S := fun _ => True) trivial (v_eqlT rfl rfl (by first | omega | rfl)) ?_) | (refine rl_v rfl rfl rfl (S := fun _ => True) trivial (v_eqlF rfl rfl (by omega)) ?_) | (refine rl_v rfl rfl rfl (S := fun _ => True) trivial (v_eql rfl rfl) ?_)
            refine rl_v rfl rfl rfl (S := fun _ => True) trivial (v_assign rfl) ?_
            refine rl_nil (g_le (Fr.le_keep (Fr.le_keep (Fr.le_refl _))) ?_)
            refine g_cond rfl (fun h4 => ?_) (fun h4 => ?_)
            · try with_reducible exact ft_elim h4
              all_goals
                try replace h4 := of_decide_eq_true h4
                refine g_seq ?_
                refine g_region ?_
                refine rl_v rfl rfl rfl (S := fun _ => True) trivial (v_move rfl) ?_
                first | (refine rl_v rfl rfl rfl (S := fun _ => True) trivial (v_fieldAddr0 T.fld_49_1_1 rfl) ?_) | (refine rl_v rfl rfl rfl (S := fun _ => True) trivial (v_fieldAddr T.fld_49_1_1 rfl) ?_)
                refine rl_v rfl rfl rfl (by first | exact sat_cell hw (by (repeat (first | with_reducible exact Pick.here _ | apply Pick.there)); first | done | fail) rfl | exact own_cell hw (by (repeat (first | with_reducible exact Pick.here _ | apply Pick.there)); first | done | fail) (by first | rfl | assumption) | exact ro_at0 hw (by (repeat (first | with_reducible exact Pick.here _ | apply Pick.there)); first | done | fail) (by assumption) rfl | exact ro_at hw (by (repeat (first | with_reducible exact Pick.here _ | apply Pick.there)); first | done | fail) (by assumption) rfl | exact own_at0 hw (by (repeat (first | with_reducible exact Pick.here _ | apply Pick.there)); first | done | fail) (by assumption) rfl | exact own_at hw (by (repeat (first | with_reducible exact Pick.here _ | apply Pick.there)); first | done | fail) (by assumption) rfl | exact old_cell hw (by (repeat (first | with_reducible exact Pick.here _ | apply Pick.there)); first | done | fail) (by assumption) | assumption) (v_load T.scal_3 rfl) ?_
                refine rl_k rfl (k_callf Try.func11 rfl rfl rfl rfl ?_)
                refine Calls.mono (of_calls _ hw) ?_
                rintro _ w ⟨rfl, hw⟩
                refine ⟨_, rfl, ?_⟩
                refine rl_k rfl (k_callf Try.func13 rfl rfl rfl rfl ?_)
                refine Calls.mono (cget_calls (ofR x.r) hels hb' (hw.sub (by (repeat (first | with_reducible exact Sub.refl _ | exact Sub.nil _ | (apply Sub.cons; focus ((repeat (first | with_reducible exact Pick.here _ | apply Pick.there)); (first | done | fail))) | with_reducible apply Sub.drop)); first | done | fail))) ?_
                rintro _ w ⟨s2, lv2, cells2, lf, ea, en, ec, ka, kn, kc, b, rfl, hels2, hlen2, hroom2, hyes, hno, hw⟩
                refine ⟨_, rfl, ?_⟩
                refine rl_v rfl rfl rfl (S := fun _ => True) trivial (v_move rfl) ?_
                refine rl_v rfl rfl rfl (S := fun _ => True) trivial (v_extract rfl rfl) ?_
                refine rl_v rfl rfl rfl (S := fun _ => True) trivial (v_extract rfl rfl) ?_
                refine rl_k rfl (k_alloc hw T.zero_25 rfl rfl (fun bk13_8 w hw => ?_))
                first | (refine rl_k rfl (k_storeWhole hw T.agg_25_3 rfl rfl (by simp [Value.oneCell']) rfl (by (repeat (first | with_reducible exact Pick.here _ | apply Pick.there)); first | done | fail) rfl (fun w hw => ?_))) | (refine rl_k rfl (k_storeAgg hw T.agg_25_3 rfl rfl (by simp [Value.oneCell']) rfl (by (repeat (first | with_reducible exact Pick.here _ | apply Pick.there)); first | done | fail) rfl rfl (fun w hw => ?_))) | (refine rl_k rfl (k_storeOwnAgg hw T.agg_25_3 rfl rfl (by simp [Value.oneCell']) rfl (by (repeat (first | with_reducible exact Pick.here _ | apply Pick.there)); first | done | fail) (by assumption) (by omega) (fun w hw => ?_)))
                refine rl_v rfl rfl rfl (S := fun _ => True) trivial (v_assign rfl) ?_
                refine rl_nil (g_le (Fr.le_keep (Fr.le_keep (Fr.le_keep (Fr.le_keep (Fr.le_keep (Fr.le_keep (Fr.le_keep (Fr.le_keep (Fr.le_keep (Fr.le_keep (Fr.le_refl _))))))))))) ?_)
                refine g_seq ?_
                refine g_region ?_
                refine rl_v rfl rfl rfl (S := fun _ => True) trivial (v_move rfl) ?_
                refine rl_nil (g_le (Fr.le_keep (Fr.le_refl _)) ?_)
                refine g_cond rfl (fun h5 => ?_) (fun h5 => ?_)
                · try with_reducible exact ft_elim h5
                  all_goals
                    try replace h5 := of_decide_eq_true h5
                    obtain ⟨e1, e2⟩ := hyes h5
                    rw [i64_in (by omega)] at e1
                    refine g_region ?_
                    refine rl_v rfl rfl rfl (S := fun _ => True) trivial (v_move rfl) ?_
                    first | (refine rl_v rfl rfl rfl (S := fun _ => True) trivial (v_add rfl rfl (by omega)) ?_) | (refine rl_v rfl rfl rfl (S := fun _ => True) trivial (v_addW rfl rfl) ?_)
                    refine rl_v rfl rfl rfl (S := fun _ => True) trivial (v_assign rfl) ?_
                    refine rl_nil (g_le (Fr.le_keep (Fr.le_keep (Fr.le_keep (Fr.le_refl _)))) ?_)
                    refine g_inBlock ?_
                    rw [← e1, ← e2]
                    exact joinb2 (s2, g, lv2, cells2, _, _) w _ (by repeat (first | exact Fr.le_nil _ | refine Fr.le_cons rfl ?_)) ⟨by simp only, by simp only, by simp only; omega, by simp only; omega, by simp only; omega, by simp only; omega, by simp only; omega, hg, hels2, hw.sub (by (repeat (first | with_reducible exact Sub.refl _ | exact Sub.nil _ | (apply Sub.cons; focus ((repeat (first | with_reducible exact Pick.here _ | apply Pick.there)); (first | done | fail))) | with_reducible apply Sub.drop)); first | done | fail)⟩
                · try with_reducible exact tf_elim h5
                  all_goals
                    try replace h5 := of_decide_eq_false h5
                    obtain ⟨e1, e2⟩ := hno h5
                    rw [i64_in (by omega)] at e2
                    refine g_region ?_
                    refine rl_v rfl rfl rfl (S := fun _ => True) trivial (v_move rfl) ?_
                    first | (refine rl_v rfl rfl rfl (S := fun _ => True) trivial (v_add rfl rfl (by omega)) ?_) | (refine rl_v rfl rfl rfl (S := fun _ => True) trivial (v_addW rfl rfl) ?_)
                    refine rl_v rfl rfl rfl (S := fun _ => True) trivial (v_assign rfl) ?_
                    refine rl_nil (g_le (Fr.le_keep (Fr.le_keep (Fr.le_keep (Fr.le_refl _)))) ?_)
                    refine g_inBlock ?_
                    rw [← e1, ← e2]
                    exact joinb2 (s2, g, lv2, cells2, _, _) w _ (by repeat (first | exact Fr.le_nil _ | refine Fr.le_cons rfl ?_)) ⟨by simp only, by simp only, by simp only; omega, by simp only; omega, by simp only; omega, by simp only; omega, by simp only; omega, hg, hels2, hw.sub (by (repeat (first | with_reducible exact Sub.refl _ | exact Sub.nil _ | (apply Sub.cons; focus ((repeat (first | with_reducible exact Pick.here _ | apply Pick.there)); (first | done | fail))) | with_reducible apply Sub.drop)); first | done | fail)⟩
            · try with_reducible exact tf_elim h4
              all_goals
                try replace h4 := of_decide_eq_false h4
                refine g_seq ?_
                refine g_region ?_
                first | (refine rl_v rfl rfl rfl (S := fun _ => True) trivial (v_eqlT rfl rfl (by first | omega | rfl)) ?_) | (refine rl_v rfl rfl rfl (S := fun _ => True) trivial (v_eqlF rfl rfl (by omega)) ?_) | (refine rl_v rfl rfl rfl (S := fun _ => True) trivial (v_eql rfl rfl) ?_)
                refine rl_v rfl rfl rfl (S := fun _ => True) trivial (v_assign rfl) ?_
                refine rl_nil (g_le (Fr.le_keep (Fr.le_keep (Fr.le_refl _))) ?_)
                refine g_cond rfl (fun h6 => ?_) (fun h6 => ?_)
                · try with_reducible exact ft_elim h6
                  all_goals
                    try replace h6 := of_decide_eq_true h6
                    refine g_region ?_
                    refine rl_v rfl rfl rfl (S := fun _ => True) trivial (v_move rfl) ?_
                    first | (refine rl_v rfl rfl rfl (S := fun _ => True) trivial (v_fieldAddr0 T.fld_49_1_1 rfl) ?_) | (refine rl_v rfl rfl rfl (S := fun _ => True) trivial (v_fieldAddr T.fld_49_1_1 rfl) ?_)
                    refine rl_v rfl rfl rfl (by first | exact sat_cell hw (by (repeat (first | with_reducible exact Pick.here _ | apply Pick.there)); first | done | fail) rfl | exact own_cell hw (by (repeat (first | with_reducible exact Pick.here _ | apply Pick.there)); first | done | fail) (by first | rfl | assumption) | exact ro_at0 hw (by (repeat (first | with_reducible exact Pick.here _ | apply Pick.there)); first | done | fail) (by assumption) rfl | exact ro_at hw (by (repeat (first | with_reducible exact Pick.here _ | apply Pick.there)); first | done | fail) (by assumption) rfl | exact own_at0 hw (by (repeat (first | with_reducible exact Pick.here _ | apply Pick.there)); first | done | fail) (by assumption) rfl | exact own_at hw (by (repeat (first | with_reducible exact Pick.here _ | apply Pick.there)); first | done | fail) (by assumption) rfl | exact old_cell hw (by (repeat (first | with_reducible exact Pick.here _ | apply Pick.there)); first | done | fail) (by assumption) | assumption) (v_load T.scal_3 rfl) ?_
                    refine rl_k rfl (k_callf Try.func11 rfl rfl rfl rfl ?_)
                    refine Calls.mono (of_calls _ hw) ?_
                    rintro _ w ⟨rfl, hw⟩
                    refine ⟨_, rfl, ?_⟩
                    refine rl_k rfl (k_callf Try.func17 rfl rfl rfl rfl ?_)
                    have hpf := pin_facts s (ofR x.r)
                    refine Calls.mono (cpin_calls (ofR x.r) hels hb' (hw.sub (by (repeat (first | with_reducible exact Sub.refl _ | exact Sub.nil _ | (apply Sub.cons; focus ((repeat (first | with_reducible exact Pick.here _ | apply Pick.there)); (first | done | fail))) | with_reducible apply Sub.drop)); first | done | fail))) ?_
                    rintro _ w ⟨cells2, rfl, hels2, hw⟩
                    refine ⟨_, rfl, ?_⟩
                    refine rl_nil (g_le (Fr.le_skip rfl (Fr.le_keep (Fr.le_keep (Fr.le_keep (Fr.le_keep (Fr.le_refl _)))))) ?_)
                    refine g_inBlock ?_
                    rw [← hpf.2.1, ← hpf.2.2.1]
                    exact joinb2 ((s.pin (ofR x.r)).2, g, lv, cells2, _, _) w _ (by repeat (first | exact Fr.le_nil _ | refine Fr.le_cons rfl ?_)) ⟨by simp only, by simp only, by simp only; omega, by simp only; omega, by simp only; omega, by simp only; omega, by simp only; omega, hg, hels2, hw.sub (by (repeat (first | with_reducible exact Sub.refl _ | exact Sub.nil _ | (apply Sub.cons; focus ((repeat (first | with_reducible exact Pick.here _ | apply Pick.there)); (first | done | fail))) | with_reducible apply Sub.drop)); first | done | fail)⟩
                · try with_reducible exact tf_elim h6
                  all_goals
                    try replace h6 := of_decide_eq_false h6
                    refine g_seq ?_
                    refine g_region ?_
                    first | (refine rl_v rfl rfl rfl (S := fun _ => True) trivial (v_eqlT rfl rfl (by first | omega | rfl)) ?_) | (refine rl_v rfl rfl rfl (S := fun _ => True) trivial (v_eqlF rfl rfl (by omega)) ?_) | (refine rl_v rfl rfl rfl (S := fun _ => True) trivial (v_eql rfl rfl) ?_)
                    refine rl_v rfl rfl rfl (S := fun _ => True) trivial (v_assign rfl) ?_
                    refine rl_nil (g_le (Fr.le_keep (Fr.le_keep (Fr.le_refl _))) ?_)
                    refine g_cond rfl (fun h7 => ?_) (fun h7 => ?_)
                    · try with_reducible exact ft_elim h7
                      all_goals
                        try replace h7 := of_decide_eq_true h7
                        refine g_region ?_
                        refine rl_v rfl rfl rfl (S := fun _ => True) trivial (v_move rfl) ?_
                        first | (refine rl_v rfl rfl rfl (S := fun _ => True) trivial (v_fieldAddr0 T.fld_49_3_5 rfl) ?_) | (refine rl_v rfl rfl rfl (S := fun _ => True) trivial (v_fieldAddr T.fld_49_3_5 rfl) ?_)
                        refine rl_v rfl rfl rfl (by first | exact sat_cell hw (by (repeat (first | with_reducible exact Pick.here _ | apply Pick.there)); first | done | fail) rfl | exact own_cell hw (by (repeat (first | with_reducible exact Pick.here _ | apply Pick.there)); first | done | fail) (by first | rfl | assumption) | exact ro_at0 hw (by (repeat (first | with_reducible exact Pick.here _ | apply Pick.there)); first | done | fail) (by assumption) rfl | exact ro_at hw (by (repeat (first | with_reducible exact Pick.here _ | apply Pick.there)); first | done | fail) (by assumption) rfl | exact own_at0 hw (by (repeat (first | with_reducible exact Pick.here _ | apply Pick.there)); first | done | fail) (by assumption) rfl | exact own_at hw (by (repeat (first | with_reducible exact Pick.here _ | apply Pick.there)); first | done | fail) (by assumption) rfl | exact old_cell hw (by (repeat (first | with_reducible exact Pick.here _ | apply Pick.there)); first | done | fail) (by assumption) | assumption) (v_load T.scal_46 rfl) ?_
                        refine rl_k rfl (k_callf Try.func20 rfl rfl rfl rfl ?_)
                        refine Calls.mono (refs_calls hrf (hw.sub (by (repeat (first | with_reducible exact Sub.refl _ | exact Sub.nil _ | (apply Sub.cons; focus ((repeat (first | with_reducible exact Pick.here _ | apply Pick.there)); (first | done | fail))) | with_reducible apply Sub.drop)); first | done | fail))) ?_
                        rintro _ w ⟨g2, ra, rm2, rk, hg2, rfl, hrs, hw⟩
                        refine ⟨_, rfl, ?_⟩
                        refine rl_k rfl (k_callf Try.func19 rfl rfl rfl rfl ?_)
                        have hpf := drop_facts (refsOf x.refs) (s, 0)
                        refine Calls.mono (cdrop_calls hrs (hels.mono mono_Hd hg2) hb' (hw.sub (by (repeat (first | with_reducible exact Sub.refl _ | exact Sub.nil _ | (apply Sub.cons; focus ((repeat (first | with_reducible exact Pick.here _ | apply Pick.there)); (first | done | fail))) | with_reducible apply Sub.drop)); first | done | fail))) ?_
                        rintro _ w ⟨lv2, cells2, rfl, hels2, hw⟩
                        refine ⟨_, rfl, ?_⟩
                        refine rl_nil (g_le (Fr.le_skip rfl (Fr.le_keep (Fr.le_keep (Fr.le_keep (Fr.le_keep (Fr.le_refl _)))))) ?_)
                        refine g_inBlock ?_
                        dsimp only at hpf
                        rw [← hpf.2.1, ← hpf.2.2.1]
                        exact joinb2 (((refsOf x.refs).foldl Ch.drop1 (s, 0)).1, g2, lv2, cells2, _, _) w _ (by repeat (first | exact Fr.le_nil _ | refine Fr.le_cons rfl ?_)) ⟨by simp only, by simp only, by simp only; omega, by simp only; omega, by simp only; omega, by simp only; omega, by simp only; omega, hg.trans hg2, hels2, hw.sub (by (repeat (first | with_reducible exact Sub.refl _ | exact Sub.nil _ | (apply Sub.cons; focus ((repeat (first | with_reducible exact Pick.here _ | apply Pick.there)); (first | done | fail))) | with_reducible apply Sub.drop)); first | done | fail)⟩
                    · try with_reducible exact tf_elim h7
                      all_goals
                        try replace h7 := of_decide_eq_false h7
                        refine g_seq ?_
                        refine g_region ?_
                        first | (refine rl_v rfl rfl rfl (S := fun _ => True) trivial (v_eqlT rfl rfl (by first | omega | rfl)) ?_) | (refine rl_v rfl rfl rfl (S := fun _ => True) trivial (v_eqlF rfl rfl (by omega)) ?_) | (refine rl_v rfl rfl rfl (S := fun _ => True) trivial (v_eql rfl rfl) ?_)
                        refine rl_v rfl rfl rfl (S := fun _ => True) trivial (v_assign rfl) ?_
                        refine rl_nil (g_le (Fr.le_keep (Fr.le_keep (Fr.le_refl _))) ?_)
                        refine g_cond rfl (fun h8 => ?_) (fun h8 => ?_)
                        · try with_reducible exact ft_elim h8
                          all_goals
                            try replace h8 := of_decide_eq_true h8
                            refine g_region ?_
                            refine rl_v rfl rfl rfl (S := fun _ => True) trivial (v_move rfl) ?_
                            refine rl_k rfl (k_callf Try.func22 rfl rfl rfl rfl ?_)
                            refine Calls.mono (cwipe_calls (hw.sub (by (repeat (first | with_reducible exact Sub.refl _ | exact Sub.nil _ | (apply Sub.cons; focus ((repeat (first | with_reducible exact Pick.here _ | apply Pick.there)); (first | done | fail))) | with_reducible apply Sub.drop)); first | done | fail))) ?_
                            rintro _ w ⟨rfl, hw⟩
                            refine ⟨_, rfl, ?_⟩
                            refine rl_nil (g_le (Fr.le_skip rfl (Fr.le_keep (Fr.le_refl _))) ?_)
                            refine g_inBlock ?_
                            exact joinb2 ((⟨s.room, [], s.hits, s.misses⟩ : Ch), g, .slice none 0 0, [], _, _) w _ (by repeat (first | exact Fr.le_nil _ | refine Fr.le_cons rfl ?_)) ⟨by simp only, by simp only, by simp only; omega, by simp only; omega, by simp only; omega, by simp only; omega, by simp; omega, hg, Els.nil, hw.sub (by (repeat (first | with_reducible exact Sub.refl _ | exact Sub.nil _ | (apply Sub.cons; focus ((repeat (first | with_reducible exact Pick.here _ | apply Pick.there)); (first | done | fail))) | with_reducible apply Sub.drop)); first | done | fail)⟩
                        · try with_reducible exact tf_elim h8
                          all_goals
                            try replace h8 := of_decide_eq_false h8
                            refine g_seq ?_
                            refine g_region ?_
                            first | (refine rl_v rfl rfl rfl (S := fun _ => True) trivial (v_eqlT rfl rfl (by first | omega | rfl)) ?_) | (refine rl_v rfl rfl rfl (S := fun _ => True) trivial (v_eqlF rfl rfl (by omega)) ?_) | (refine rl_v rfl rfl rfl (S := fun _ => True) trivial (v_eql rfl rfl) ?_)
                            refine rl_v rfl rfl rfl (S := fun _ => True) trivial (v_assign rfl) ?_
                            refine rl_nil (g_le (Fr.le_keep (Fr.le_keep (Fr.le_refl _))) ?_)
                            refine g_cond rfl (fun h9 => ?_) (fun h9 => ?_)
                            · try with_reducible exact ft_elim h9
                              all_goals
                                try replace h9 := of_decide_eq_true h9
                                refine g_region ?_
                                refine rl_v rfl rfl rfl (S := fun _ => True) trivial (v_move rfl) ?_
                                refine rl_k rfl (k_callf Try.func14 rfl rfl rfl rfl ?_)
                                refine Calls.mono (choldsC_calls hels hb' (hw.sub (by (repeat (first | with_reducible exact Sub.refl _ | exact Sub.nil _ | (apply Sub.cons; focus ((repeat (first | with_reducible exact Pick.here _ | apply Pick.there)); (first | done | fail))) | with_reducible apply Sub.drop)); first | done | fail))) ?_
                                rintro _ w ⟨g2, ha2, hn2, hk2, hg2, rfl, hrd2, hw⟩
                                refine ⟨_, rfl, ?_⟩
                                refine rl_nil (g_le (Fr.le_skip rfl (Fr.le_keep (Fr.le_refl _))) ?_)
                                refine g_inBlock ?_
                                exact joinb2 (s, g2, lv, cells, _, _) w _ (by repeat (first | exact Fr.le_nil _ | refine Fr.le_cons rfl ?_)) ⟨by simp only, by simp only, by simp only; omega, by simp only; omega, by simp only; omega, by simp only; omega, by simp only; omega, hg.trans hg2, hels.mono mono_Hd hg2, hw.sub (by (repeat (first | with_reducible exact Sub.refl _ | exact Sub.nil _ | (apply Sub.cons; focus ((repeat (first | with_reducible exact Pick.here _ | apply Pick.there)); (first | done | fail))) | with_reducible apply Sub.drop)); first | done | fail)⟩
                            · try with_reducible exact tf_elim h9
                              all_goals
                                try replace h9 := of_decide_eq_false h9
                                refine g_drawR ord_f5_r11_C15H (by kernel_rfl) T.mixed hw (fun w hw => ?_)
                                refine rs_a 0 rfl rfl rfl rfl (v_move rfl) ?_
                                first | (refine rs_a 1 rfl rfl rfl rfl (v_fieldAddr0 T.fld_49_1_1 rfl) ?_) | (refine rs_a 1 rfl rfl rfl rfl (v_fieldAddr T.fld_49_1_1 rfl) ?_)
                                first | (refine rs_a 4 rfl rfl rfl rfl (v_fieldAddr0 T.fld_49_2_2 rfl) ?_) | (refine rs_a 4 rfl rfl rfl rfl (v_fieldAddr T.fld_49_2_2 rfl) ?_)
                                refine rs_v 2 rfl rfl rfl rfl (OpV.mono (v_load T.scal_3 rfl) (fun w hw => by first | exact sat_cell hw (by (repeat (first | with_reducible exact Pick.here _ | apply Pick.there)); first | done | fail) rfl | exact own_cell hw (by (repeat (first | with_reducible exact Pick.here _ | apply Pick.there)); first | done | fail) (by first | rfl | assumption) | exact ro_at0 hw (by (repeat (first | with_reducible exact Pick.here _ | apply Pick.there)); first | done | fail) (by assumption) rfl | exact ro_at hw (by (repeat (first | with_reducible exact Pick.here _ | apply Pick.there)); first | done | fail) (by assumption) rfl | exact own_at0 hw (by (repeat (first | with_reducible exact Pick.here _ | apply Pick.there)); first | done | fail) (by assumption) rfl | exact own_at hw (by (repeat (first | with_reducible exact Pick.here _ | apply Pick.there)); first | done | fail) (by assumption) rfl | exact old_cell hw (by (repeat (first | with_reducible exact Pick.here _ | apply Pick.there)); first | done | fail) (by assumption) | assumption)) (by first | exact hw | exact Sat.sub hw (by (repeat (first | with_reducible exact Sub.refl _ | exact Sub.nil _ | (apply Sub.cons; focus ((repeat (first | with_reducible exact Pick.here _ | apply Pick.there)); (first | done | fail))) | with_reducible apply Sub.drop)); first | done | fail)) ?_
                                refine rs_v 5 rfl rfl rfl rfl (OpV.mono (v_loadAgg (vs := [_, _, _]) T.agg_25_3 rfl rfl) (fun w hw => by first | exact sat_cells hw (by (repeat (first | with_reducible exact Pick.here _ | apply Pick.there)); first | done | fail) ⟨rfl, rfl, rfl, trivial⟩ | exact ro_ats hw (by (repeat (first | with_reducible exact Pick.here _ | apply Pick.there)); first | done | fail) (by assumption) | exact own_cells hw (by (repeat (first | with_reducible exact Pick.here _ | apply Pick.there)); first | done | fail) (by assumption) | exact old_cells hw (by (repeat (first | with_reducible exact Pick.here _ | apply Pick.there)); first | done | fail) (by assumption))) (by first | exact hw | exact Sat.sub hw (by (repeat (first | with_reducible exact Sub.refl _ | exact Sub.nil _ | (apply Sub.cons; focus ((repeat (first | with_reducible exact Pick.here _ | apply Pick.there)); (first | done | fail))) | with_reducible apply Sub.drop)); first | done | fail)) ?_
                                refine rs_k 3 rfl rfl (k_callf Try.func11 rfl rfl rfl rfl ?_)
                                refine Calls.mono (of_calls _ hw) ?_
                                rintro _ w ⟨rfl, hw⟩
                                refine ⟨_, rfl, ?_⟩
                                refine ⟨fun _ => (by first | exact hw | exact Sat.sub hw (by (repeat (first | with_reducible exact Sub.refl _ | exact Sub.nil _ | (apply Sub.cons; focus ((repeat (first | with_reducible exact Pick.here _ | apply Pick.there)); (first | done | fail))) | with_reducible apply Sub.drop)); first | done | fail)), ?_⟩
                                refine rs_k 6 rfl rfl (k_callf Try.func10 rfl rfl rfl rfl ?_)
                                have hpf := put_facts s (ofR x.r) x.n
                                refine Calls.mono (cput_calls (ofR x.r) (ofR_ok _) hnd hels hb' (hw.sub (by (repeat (first | with_reducible exact Sub.refl _ | exact Sub.nil _ | (apply Sub.cons; focus ((repeat (first | with_reducible exact Pick.here _ | apply Pick.there)); (first | done | fail))) | with_reducible apply Sub.drop)); first | done | fail))) ?_
                                rintro _ w ⟨g2, lv2, cells2, hg2, rfl, hels2, hw⟩
                                refine ⟨_, rfl, ?_⟩
                                refine ⟨fun hn => absurd (by decide) hn, ?_⟩
                                refine rs_done (g_le (Fr.le_skip rfl (Fr.le_keep (Fr.le_keep (Fr.le_keep (Fr.le_keep (Fr.le_keep (Fr.le_keep (Fr.le_refl _)))))))) ?_)
                                refine g_inBlock ?_
                                rw [← hpf.2.1, ← hpf.2.2.1]
                                exact joinb2 ((s.put (ofR x.r) x.n).2, g2, lv2, cells2, _, _) w _ (by repeat (first | exact Fr.le_nil _ | refine Fr.le_cons rfl ?_)) ⟨by simp only, by simp only, by simp only; omega, by simp only; omega, by simp only; omega, by simp only; omega, by simp only; omega, hg.trans hg2, hels2, hw.sub (by (repeat (first | with_reducible exact Sub.refl _ | exact Sub.nil _ | (apply Sub.cons; focus ((repeat (first | with_reducible exact Pick.here _ | apply Pick.there)); (first | done | fail))) | with_reducible apply Sub.drop)); first | done | fail)⟩
      · try with_reducible exact tf_elim h3
        all_goals
          try replace h3 := of_decide_eq_false h3
          refine g_exit rfl (g_seq ?_)
          refine g_region ?_
          refine rl_v rfl rfl rfl (S := fun _ => True) trivial (v_assign rfl) ?_
          refine rl_nil (g_le (Fr.le_keep (Fr.le_refl _)) ?_)
          refine g_ret1 Try.func5 rfl rfl ?_
          exact ⟨rfl, (hw.sub (by (repeat (first | with_reducible exact Sub.refl _ | exact Sub.nil _ | (apply Sub.cons; focus ((repeat (first | with_reducible exact Pick.here _ | apply Pick.there)); (first | done | fail))) | with_reducible apply Sub.drop)); first | done | fail) : Sat (envOf W) w [RO g]).shrink hg⟩
  · intro joinr1
    refine g_region ?_
    refine rl_v rfl rfl rfl (S := fun _ => True) trivial (v_move rfl) ?_
    first | (refine rl_v rfl rfl rfl (S := fun _ => True) trivial (v_lssT rfl rfl (by omega)) ?_) | (refine rl_v rfl rfl rfl (S := fun _ => True) trivial (v_lssF rfl rfl (by omega)) ?_) | (refine rl_v rfl rfl rfl (S := fun _ => True) trivial (v_lss rfl rfl) ?_)
    refine rl_v rfl rfl rfl (S := fun _ => True) trivial (v_move rfl) ?_
    refine rl_split (s := 17) rfl (fun g1_2 => ?_) (fun g1_2 => ?_)
    · try with_reducible exact ft_elim g1_2
      all_goals
        try replace g1_2 := of_decide_eq_true g1_2
        refine rl_off (met_off rfl rfl rfl rfl rfl) rfl rfl ?_
        refine rl_off (met_off rfl rfl rfl rfl rfl) rfl rfl ?_
        first | (refine rl_v rfl rfl rfl (S := fun _ => True) trivial (v_pick_true rfl rfl) ?_) | (refine rl_v rfl rfl rfl (S := fun _ => True) trivial (v_pick_false rfl rfl) ?_) | (refine rl_v rfl rfl rfl (S := fun _ => True) trivial (v_pick rfl rfl rfl) ?_)
        refine rl_nil (g_le (Fr.le_keep (Fr.le_skip rfl (Fr.le_skip rfl (Fr.le_skip rfl (Fr.le_skip rfl (Fr.le_skip rfl (Fr.le_skip rfl (Fr.le_refl _)))))))) ?_)
        refine g_cond_true rfl ?_
        refine g_region ?_
        refine rl_v rfl rfl rfl (S := fun _ => True) trivial (v_assign rfl) ?_
        refine rl_nil (g_le (Fr.le_keep (Fr.le_refl _)) ?_)
        exact joinr1 _ _ _ (by repeat (first | exact Fr.le_nil _ | refine Fr.le_cons rfl ?_)) ⟨by omega, by omega, hw⟩
    · try with_reducible exact tf_elim g1_2
      all_goals
        try replace g1_2 := of_decide_eq_false g1_2
        refine rl_vg (met_on rfl rfl rfl rfl) rfl rfl (S := fun _ => True) trivial (v_move rfl) ?_
        first | (refine rl_vg (met_on rfl rfl rfl rfl) rfl rfl (S := fun _ => True) trivial (v_gtrT rfl rfl (by omega)) ?_) | (refine rl_vg (met_on rfl rfl rfl rfl) rfl rfl (S := fun _ => True) trivial (v_gtrF rfl rfl (by omega)) ?_) | (refine rl_vg (met_on rfl rfl rfl rfl) rfl rfl (S := fun _ => True) trivial (v_gtr rfl rfl) ?_)
        first | (refine rl_v rfl rfl rfl (S := fun _ => True) trivial (v_pick_true rfl rfl) ?_) | (refine rl_v rfl rfl rfl (S := fun _ => True) trivial (v_pick_false rfl rfl) ?_) | (refine rl_v rfl rfl rfl (S := fun _ => True) trivial (v_pick rfl rfl rfl) ?_)
        refine rl_nil (g_le (Fr.le_keep (Fr.le_skip rfl (Fr.le_skip rfl (Fr.le_skip rfl (Fr.le_skip rfl (Fr.le_skip rfl (Fr.le_skip rfl (Fr.le_refl _)))))))) ?_)
        refine g_cond rfl (fun h1 => ?_) (fun h1 => ?_)
        · try with_reducible exact ft_elim h1
          all_goals
            try replace h1 := of_decide_eq_true h1
            refine g_region ?_
            refine rl_v rfl rfl rfl (S := fun _ => True) trivial (v_assign rfl) ?_
            refine rl_nil (g_le (Fr.le_keep (Fr.le_refl _)) ?_)
            exact joinr1 _ _ _ (by repeat (first | exact Fr.le_nil _ | refine Fr.le_cons rfl ?_)) ⟨by omega, by omega, hw⟩
        · try with_reducible exact tf_elim h1
          all_goals
            try replace h1 := of_decide_eq_false h1
            refine g_skip ?_
            exact joinr1 _ _ _ (by repeat (first | exact Fr.le_nil _ | refine Fr.le_cons rfl ?_)) ⟨by omega, by omega, hw⟩

set_option maxRecDepth 100000 in
theorem CacheHits_lifted (os : Os) (started : os.Started) (H : Type) (enc : TypeId × Value → H) :
    ReturnsInHanded {} Try.checked os 5 .any (Rows.cacheHitsSpec.pre6 enc Try.prog Try.f5 Rows.cacheHitsRow.domain false) (Rows.cacheHitsSpec.post enc Try.prog Try.f5 false true false false) := by
  refine returnsInHanded_of_change_sized (C := Try.checked) T.own started (by kernel_rfl) Try.func5
    (ChangeSpec.witness6 (enc := enc) (C := Try.checked) false ⟨#[], #[(.int .i64 0), (.slice none 0 0)], []⟩ 8 (by kernel_rfl) (by kernel_rfl) (by kernel_rfl) (by kernel_rfl)) ?_
  intro W base args ds gs before hval0 hW hcnd hsz0 _
  have hval : ∀ (j : Nat) t v, Try.f5.params[j]? = some t → args[j]? = some v → Value.okWide Try.prog W .any base t v := hval0
  have hW' := hW
  obtain ⟨p, q, hA0, hV, rfl, hfz, hnd⟩ := hW
  have hA : DataW.TrodAll enc Try.prog W 0 (fun _ => true) true Try.f5.params.toList args.toList ds p := hA0
  obtain ⟨rfl, rfl⟩ := trodVars_none hV
  have hsz : (DataW.weightsEach Try.prog (Try.f5.params.toList ++ []) (ds ++ [])).all (· ≤ reachBytes) = true := hsz0
  rw [List.append_nil, List.append_nil] at hsz
  rw [Try.params5] at hA hval hsz
  obtain ⟨v0, vs0, d0, ds0, p0, q0, hargs, rfl, rfl, h0, r0⟩ := trodAll_cons hA
  obtain ⟨v1, vs1, d1, ds1, p1, q1, rfl, rfl, rfl, h1, r1⟩ := trodAll_cons r0
  obtain ⟨rfl, rfl, rfl⟩ := trodAll_nil r1
  obtain rfl : args = #[v0, v1] := by cases args; simp_all
  have lt0 : ∀ x ∈ p0, x.block < W.heap.size := by obtain ⟨m, hm⟩ := h0; exact DataW.trod_lt m _ _ _ hm
  obtain ⟨x0, w0⟩ := arg_of (j := 0) (reads_int T.int_3_i64) h0 hsz rfl rfl
  have lt1 : ∀ x ∈ p1, x.block < W.heap.size := by obtain ⟨m, hm⟩ := h1; exact DataW.trod_lt m _ _ _ hm
  obtain ⟨x1, w1⟩ := arg_of (j := 1) (reads_sl T.sl_45_49_6 T.bytes_49_96 (by decide) reads_Op) h1 hsz rfl rfl
  obtain ⟨n0, rfl⟩ := okWide_int Try.underlying3 (hval 0 3 v0 rfl rfl)
  obtain ⟨a1, l1, c1, rfl⟩ := okWide_slice Try.underlying45 (hval 1 45 v1 rfl rfl)
  obtain ⟨hc0, hr0⟩ := w0
  cases hc0
  refine (CacheHits_law hr0 w1).mono fun e W' ⟨he, hb⟩ => ?_
  have bel := hb.below
  subst he
  exact ⟨_, rfl, _, _, _, [], _, [], hW', trodAll_mk1 (shut_bool Try.underlying4 _), (trodAll_cons_mk (Below.trod T.laidOut (by kernel_rfl) (of_decide_eq_true (by kernel_rfl)) h0 bel lt0) (trodAll_cons_mk (Below.trod T.laidOut (by kernel_rfl) (of_decide_eq_true (by kernel_rfl)) h1 bel lt1) trodAll_mk0)), rfl, bel.frame _, fun h => by cases h⟩
theorem CacheHits_holds : Rows.CacheHitsSaid :=
  OpenClaim.holds_of_wide 5 Try.f5 rfl rfl rfl rfl rfl rfl rfl ⟨rfl, rfl, rfl, rfl, rfl⟩ rfl rfl rfl rfl rfl (by kernel_rfl) Try.func5 (by kernel_rfl)
    (of_decide_eq_true (by kernel_rfl)) (by unfold Func.isWrapper; rw [if_neg (of_decide_eq_false (by kernel_rfl))]; exact ⟨rfl, rfl⟩)
    (fun os started H enc _ => CacheHits_lifted os started H enc)
#print axioms CacheHits_holds
end Go.Proofs.Ytnkddbbcfolcdaa
