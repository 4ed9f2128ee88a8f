/-
  CacheTrue: what was put last and not dropped since (the law's own words).
-/
import Derived.Test.YtnkddbbcfolcdaaC15v
namespace Go.Proofs.Ytnkddbbcfolcdaa
set_option linter.unusedSimpArgs false
set_option linter.unusedVariables false
open Go Xe Go.Lib Go.RowKit Go.ChangeShapes Go.WideShapes Go.ChangeAt

/-- What a call of a script leaves of what was put last under r. -/
def Op.step (o : Op) (r : Rf) (p : Nd × Bool) : Nd × Bool :=
  if (o.do_ < 1 ∨ 6 < o.do_) ∧ ofR o.r = r then (o.n, true) else
    if o.do_ = 5 then (p.1, false) else if o.do_ = 4 then (p.1, p.2 && decide (r ∉ refsOf o.refs)) else p
def lastOf (l : List Op) (done : List Bool) (r : Rf) : Nd × Bool := (l.zip done).foldl (fun p od => if od.2 = true then od.1.step r p else p) (⟨false, [], []⟩, false)
theorem lastOf_snoc {l : List Op} {done : List Bool} {r : Rf} {o : Op} {d : Bool} (h : l.length = done.length) : lastOf (l ++ [o]) (done ++ [d]) r = if d = true then o.step r (lastOf l done r) else lastOf l done r := by
  unfold lastOf
  rw [List.zip_append h, List.foldl_append]; rfl
theorem step5 {o : Op} {r : Rf} {p : Nd} {b : Bool} (h : o.do_ = 5) : o.step r (p, b) = (p, false) := by
  unfold Op.step; rw [if_neg (by omega), if_pos h]
theorem step4 {o : Op} {r : Rf} {p : Nd} {b : Bool} (h : o.do_ = 4) : o.step r (p, b) = (p, b && decide (r ∉ refsOf o.refs)) := by
  unfold Op.step; rw [if_neg (by omega), if_neg (by omega), if_pos h]
theorem stepPut {o : Op} {r : Rf} {p : Nd} {b : Bool} (h : o.do_ < 1 ∨ 6 < o.do_) (h2 : ofR o.r = r) : o.step r (p, b) = (o.n, true) := if_pos ⟨h, h2⟩
theorem stepNo {o : Op} {r : Rf} {p : Nd} {b : Bool} (h5 : ¬ o.do_ = 5) (h4 : ¬ o.do_ = 4) (h : ¬ ((o.do_ < 1 ∨ 6 < o.do_) ∧ ofR o.r = r)) : o.step r (p, b) = (p, b) := by
  unfold Op.step; rw [if_neg h, if_neg h5, if_neg h4]
theorem ord_f24_r15_C15l : orderOfB Try.f24 15 [] (.k 0 (.k 1 (.k 2 (.k 3 (.k 4 (.k 5 (.k 6 (.k 7 (.k 8 (.a 9 (.v 10 (.v 12 (.k 11 (.k 13 (.k 14 .done))))))))))))))) = true := by kernel_rfl
set_option maxHeartbeats 4000000 in
theorem last_calls {E : Env} {w : World} {L : List As} {g : Hp} {a da : Option Addr} {n c dn dc : Nat} {l : List Op} {done : List Bool} (r : Rf) (hl : (rdSl 96 6 rdOp) g [.slice a n c] l) (hd : l.length = done.length) (hdn : dn = done.length)
    (hw : Sat E w (OwnSl 4 1 (.slice da dn dc) dn (done.map Value.bool) :: RO g :: L)) :
    Calls Try.prog 24 #[.slice a n c, .agg r.cells.toArray, .slice da dn dc] w fun e w' => ∃ ea en ec ka kn kc, e = .returned (.tuple #[.agg #[.bool (lastOf l done r).1.leaf, .slice ea en ec, .slice ka kn kc], .bool (lastOf l done r).2]) ∧ rdNd g [.bool (lastOf l done r).1.leaf, .slice ea en ec, .slice ka kn kc] (lastOf l done r).1 ∧
      Sat E w' (OwnSl 4 1 (.slice da dn dc) dn (done.map Value.bool) :: RO g :: L) := by
  obtain ⟨rfl, hb1, hc1, hm1, g1⟩ := rdSl_get hl
  simp only [reachBytes] at hb1
  obtain ⟨da', dc', hv, _, _, hda⟩ := hw.own_shape
  simp only [Value.slice.injEq] at hv
  obtain ⟨rfl, _, rfl⟩ := hv
  refine calls_of_g (n := 68) Try.func24 rfl rfl rfl ?_
  change G _ _ _ _ _ [(0, _), (1, _), (2, _)] _
  refine g_seq ?_
  refine g_region ?_
  refine rl_k rfl (k_box hw rfl rfl rfl (fun bk0_0 w hw => ?_))
  refine rl_k rfl (k_alloc hw T.zero_25 rfl rfl (fun bk0_1 w hw => ?_))
  refine rl_v rfl rfl rfl (S := fun _ => True) trivial (v_assign rfl) ?_
  refine rl_nil (g_le (Fr.le_keep (Fr.le_keep (Fr.le_keep (Fr.le_refl _)))) ?_)
  refine g_seq ?_
  refine g_region ?_
  refine rl_v rfl rfl rfl (S := fun _ => True) trivial (v_build rfl (T.build_25 ..)) ?_
  refine rl_k rfl (k_alloc hw T.zero_25 rfl rfl (fun bk1_1 w hw => ?_))
  first | (refine rl_k rfl (k_storeWhole hw T.agg_25_3 rfl rfl (by simp [Value.oneCell']) rfl (by (repeat (first | with_reducible exact Pick.here _ | apply Pick.there)); first | done | fail) rfl (fun w hw => ?_))) | (refine rl_k rfl (k_storeAgg hw T.agg_25_3 rfl rfl (by simp [Value.oneCell']) rfl (by (repeat (first | with_reducible exact Pick.here _ | apply Pick.there)); first | done | fail) rfl rfl (fun w hw => ?_))) | (refine rl_k rfl (k_storeOwnAgg hw T.agg_25_3 rfl rfl (by simp [Value.oneCell']) rfl (by (repeat (first | with_reducible exact Pick.here _ | apply Pick.there)); first | done | fail) (by assumption) (by omega) (fun w hw => ?_)))
  refine rl_nil (g_le (Fr.le_keep (Fr.le_skip rfl (Fr.le_refl _))) ?_)
  refine g_seq ?_
  refine g_region ?_
  refine rl_v rfl rfl rfl (S := fun _ => True) trivial (v_assign rfl) ?_
  refine rl_nil (g_le (Fr.le_keep (Fr.le_refl _)) ?_)
  refine g_seq (g_seq ?_)
  refine g_region ?_
  refine rl_v rfl rfl rfl (S := fun _ => True) trivial (v_move rfl) ?_
  refine rl_v rfl rfl rfl (S := fun _ => True) trivial (v_lenSlice T.sl_45_49_6 rfl) ?_
  refine rl_v rfl rfl rfl (S := fun _ => True) trivial (v_move rfl) ?_
  refine rl_nil (g_le (Fr.le_keep (Fr.le_keep (Fr.le_keep (Fr.le_refl _)))) ?_)
  refine g_block ?_
  refine g_loopC (σ := Int × Nd × Bool × Option Addr × Nat × Nat × Option Addr × Nat × Nat) (fun C x => (17, .int .i64 x.1) :: (9, .bool x.2.2.1) :: C) [(2, _), (4, _), (6, _), (7, _), (8, _), (15, _), (16, _)] (by repeat (first | exact Fr.le_nil _ | refine Fr.le_cons rfl ?_)) (fun z w => 0 ≤ z.1 ∧ z.1 ≤ l.length ∧ lastOf (l.take z.1.toNat) (done.take z.1.toNat) r = (z.2.1, z.2.2.1) ∧ rdNd g [.bool z.2.1.leaf, .slice z.2.2.2.1 z.2.2.2.2.1 z.2.2.2.2.2.1, .slice z.2.2.2.2.2.2.1 z.2.2.2.2.2.2.2.1 z.2.2.2.2.2.2.2.2] z.2.1 ∧ Sat E w (pt bk1_1 (.cells [.bool z.2.1.leaf, .slice z.2.2.2.1 z.2.2.2.2.1 z.2.2.2.2.2.1, .slice z.2.2.2.2.2.2.1 z.2.2.2.2.2.2.2.1 z.2.2.2.2.2.2.2.2].toArray 25 (0, 0)) :: pt bk0_1 (.cells [.bool false, .slice none 0 0, .slice none 0 0].toArray 25 (0, 0)) :: pt bk0_0 (.cells r.cells.toArray 34 (0, 0)) :: OwnSl 4 1 (.slice da dn dc) dn (done.map Value.bool) :: RO g :: L)) (fun z => (l.length - z.1).toNat) ?_ (0, ⟨false, [], []⟩, false, none, 0, 0, none, 0, 0) (by repeat (first | exact Fr.le_nil _ | refine Fr.le_cons rfl ?_)) ⟨by simp, by simp, rfl, ⟨_, _, _, rfl, rfl, rdSl_nil _, rdSl_nil _⟩, hw.sub (by (repeat (first | with_reducible exact Sub.refl _ | exact Sub.nil _ | (apply Sub.cons; focus ((repeat (first | with_reducible exact Pick.here _ | apply Pick.there)); (first | done | fail))) | with_reducible apply Sub.drop)); first | done | fail)⟩
  rintro ⟨i, p, b, ea, en, ec, ka, kn, kc⟩ w ⟨hi0, hi1, hlo, hnp, hw⟩ ih
  dsimp only at hi0 hi1 hlo hnp hw ⊢
  refine g_seq ?_
  refine g_region ?_
  first | (refine rl_v rfl rfl rfl (S := fun _ => True) trivial (v_lssT rfl rfl (by omega)) ?_) | (refine rl_v rfl rfl rfl (S := fun _ => True) trivial (v_lssF rfl rfl (by omega)) ?_) | (refine rl_v rfl rfl rfl (S := fun _ => True) trivial (v_lss rfl rfl) ?_)
  refine rl_nil (g_le (Fr.le_keep (Fr.le_refl _)) ?_)
  refine g_seq ?_
  refine g_cond rfl (fun h1 => ?_) (fun h1 => ?_)
  · try with_reducible exact ft_elim h1
    all_goals
      try replace h1 := of_decide_eq_true h1
      try (first | (exfalso; omega))
      all_goals
        refine g_skip (g_seq (g_block (g_seq ?_)))
        have hz := hw
        clear hw
        obtain ⟨gb, rfl⟩ := hda (by omega)
        obtain ⟨b4, o1, x, ecs, rfl, hx, hat1, hl1, hro⟩ := g1 i hi0 (by omega)
        obtain ⟨q0, q1, q2, q3, q4, q5, rfl, ⟨hd0, _⟩, ⟨hd1, _⟩, hnd, hrf⟩ := hro
        simp only [List.cons.injEq, and_true] at hd0 hd1
        subst hd0 hd1
        obtain ⟨n0, n1, n2, hq, hq0, hq1, hq2⟩ := id hnd
        simp only [List.cons.injEq, and_true] at hq
        obtain ⟨rfl, rfl, rfl⟩ := hq
        simp only [rdBool, List.cons.injEq, and_true] at hq0
        subst hq0
        obtain ⟨qa1, qn1, qk1, rfl⟩ := rdSl_shape hq1
        obtain ⟨qa2, qn2, qk2, rfl⟩ := rdSl_shape hq2
        obtain ⟨qa3, qn3, qk3, rfl⟩ := rdSl_shape hrf
        have hdl : i.toNat < done.length := by omega
        obtain ⟨d, hd1⟩ : ∃ d, done[i.toNat]? = some d := ⟨_, List.getElem?_eq_getElem hdl⟩
        have hd2 : (done.map Value.bool)[0 + i.toNat * 1]? = some (.bool d) := by rw [Nat.zero_add, Nat.mul_one, List.getElem?_map, hd1]; rfl
        have htk : lastOf (l.take (i + 1).toNat) (done.take (i + 1).toNat) r = if d = true then x.step r (p, b) else (p, b) := by rw [show (i + 1).toNat = i.toNat + 1 by omega, List.take_add_one, hx, List.take_add_one, hd1, ← hlo]; exact lastOf_snoc (by simp; omega)
        have hw := hz
        refine g_region ?_
        refine rl_v rfl rfl rfl (S := fun _ => True) trivial (v_move rfl) ?_
        refine rl_v rfl rfl rfl (S := fun _ => True) trivial (v_indexAddr T.sl_45_49_6 rfl rfl (by omega) (by omega)) ?_
        refine rl_v rfl rfl rfl (by first | exact sat_cells hw (by (repeat (first | with_reducible exact Pick.here _ | apply Pick.there)); first | done | fail) ⟨rfl, rfl, rfl, rfl, rfl, rfl, trivial⟩ | exact ro_ats hw (by (repeat (first | with_reducible exact Pick.here _ | apply Pick.there)); first | done | fail) (by assumption) | exact own_cells hw (by (repeat (first | with_reducible exact Pick.here _ | apply Pick.there)); first | done | fail) (by assumption) | exact old_cells hw (by (repeat (first | with_reducible exact Pick.here _ | apply Pick.there)); first | done | fail) (by assumption)) (v_loadAgg (vs := [_, _, _, _, _, _]) T.agg_49_6 rfl rfl) ?_
        refine rl_k rfl (k_alloc hw T.zero_49 rfl rfl (fun bk5_3 w hw => ?_))
        refine rl_v rfl rfl rfl (S := fun _ => True) trivial (v_assign rfl) ?_
        first | (refine rl_k rfl (k_storeWhole hw T.agg_49_6 rfl rfl (by simp [Value.oneCell']) rfl (by (repeat (first | with_reducible exact Pick.here _ | apply Pick.there)); first | done | fail) rfl (fun w hw => ?_))) | (refine rl_k rfl (k_storeAgg hw T.agg_49_6 rfl rfl (by simp [Value.oneCell']) rfl (by (repeat (first | with_reducible exact Pick.here _ | apply Pick.there)); first | done | fail) rfl rfl (fun w hw => ?_))) | (refine rl_k rfl (k_storeOwnAgg hw T.agg_49_6 rfl rfl (by simp [Value.oneCell']) rfl (by (repeat (first | with_reducible exact Pick.here _ | apply Pick.there)); first | done | fail) (by assumption) (by omega) (fun w hw => ?_)))
        refine rl_nil (g_le (Fr.le_keep (Fr.le_keep (Fr.le_keep (Fr.le_keep (Fr.le_keep (Fr.le_refl _)))))) ?_)
        refine g_seq (g_seq ?_)
        refine g_region ?_
        refine rl_v rfl rfl rfl (S := fun _ => True) trivial (v_move rfl) ?_
        refine rl_v rfl rfl rfl (S := fun _ => True) trivial (v_move rfl) ?_
        refine rl_v rfl rfl rfl (S := fun _ => True) trivial (v_indexAddr T.sl_60_4_1 rfl rfl (by omega) (by omega)) ?_
        refine rl_v rfl rfl rfl (by first | exact sat_cell hw (by (repeat (first | with_reducible exact Pick.here _ | apply Pick.there)); first | done | fail) rfl | exact own_cell hw (by (repeat (first | with_reducible exact Pick.here _ | apply Pick.there)); first | done | fail) (by first | rfl | assumption) | exact ro_at0 hw (by (repeat (first | with_reducible exact Pick.here _ | apply Pick.there)); first | done | fail) (by assumption) rfl | exact ro_at hw (by (repeat (first | with_reducible exact Pick.here _ | apply Pick.there)); first | done | fail) (by assumption) rfl | exact own_at0 hw (by (repeat (first | with_reducible exact Pick.here _ | apply Pick.there)); first | done | fail) (by assumption) rfl | exact own_at hw (by (repeat (first | with_reducible exact Pick.here _ | apply Pick.there)); first | done | fail) (by assumption) rfl | exact old_cell hw (by (repeat (first | with_reducible exact Pick.here _ | apply Pick.there)); first | done | fail) (by assumption) | assumption) (v_load T.scal_4 rfl) ?_
        refine rl_v rfl rfl rfl (S := fun _ => True) trivial (v_not rfl) ?_
        refine rl_nil (g_le (Fr.le_keep (Fr.le_keep (Fr.le_keep (Fr.le_keep (Fr.le_keep (Fr.le_refl _)))))) ?_)
        refine g_cond rfl (fun h2 => ?_) (fun h2 => ?_)
        · try with_reducible exact ft_elim h2
          all_goals
            try replace h2 := of_decide_eq_true h2
            have hd3 : d = false := by simpa using h2
            rw [if_neg (by simp [hd3])] at htk
            try (first | (exfalso; omega))
            all_goals
              refine g_exit rfl ?_
              refine g_region ?_
              first | (refine rl_v rfl rfl rfl (S := fun _ => True) trivial (v_add rfl rfl (by omega)) ?_) | (refine rl_v rfl rfl rfl (S := fun _ => True) trivial (v_addW rfl rfl) ?_)
              refine rl_v rfl rfl rfl (S := fun _ => True) trivial (v_move rfl) ?_
              refine rl_nil (g_le (Fr.le_keep (Fr.le_keep (Fr.le_refl _))) ?_)
              exact g_le (by repeat (first | exact Fr.le_nil _ | refine Fr.le_cons rfl ?_)) (ih (i + 1, p, b, ea, en, ec, ka, kn, kc) w ⟨by simp only; omega, by simp only; omega, htk, hnp, hw.sub (by (repeat (first | with_reducible exact Sub.refl _ | exact Sub.nil _ | (apply Sub.cons; focus ((repeat (first | with_reducible exact Pick.here _ | apply Pick.there)); (first | done | fail))) | with_reducible apply Sub.drop)); first | done | fail)⟩ (by simp only; omega))
        · try with_reducible exact tf_elim h2
          all_goals
            try replace h2 := of_decide_eq_false h2
            have hd3 : d = true := by simpa using h2
            rw [if_pos hd3] at htk
            try (first | (exfalso; omega))
            all_goals
              refine g_skip (g_seq (g_seq ?_))
              refine g_region ?_
              first | (refine rl_v rfl rfl rfl (S := fun _ => True) trivial (v_fieldAddr0 T.fld_49_0_0 rfl) ?_) | (refine rl_v rfl rfl rfl (S := fun _ => True) trivial (v_fieldAddr T.fld_49_0_0 rfl) ?_)
              refine rl_v rfl rfl rfl (by first | exact sat_cell hw (by (repeat (first | with_reducible exact Pick.here _ | apply Pick.there)); first | done | fail) rfl | exact own_cell hw (by (repeat (first | with_reducible exact Pick.here _ | apply Pick.there)); first | done | fail) (by first | rfl | assumption) | exact ro_at0 hw (by (repeat (first | with_reducible exact Pick.here _ | apply Pick.there)); first | done | fail) (by assumption) rfl | exact ro_at hw (by (repeat (first | with_reducible exact Pick.here _ | apply Pick.there)); first | done | fail) (by assumption) rfl | exact own_at0 hw (by (repeat (first | with_reducible exact Pick.here _ | apply Pick.there)); first | done | fail) (by assumption) rfl | exact own_at hw (by (repeat (first | with_reducible exact Pick.here _ | apply Pick.there)); first | done | fail) (by assumption) rfl | exact old_cell hw (by (repeat (first | with_reducible exact Pick.here _ | apply Pick.there)); first | done | fail) (by assumption) | assumption) (v_load T.scal_3 rfl) ?_
              first | (refine rl_v rfl rfl rfl (S := fun _ => True) trivial (v_eqlT rfl rfl (by first | omega | rfl)) ?_) | (refine rl_v rfl rfl rfl (S := fun _ => True) trivial (v_eqlF rfl rfl (by omega)) ?_) | (refine rl_v rfl rfl rfl (S := fun _ => True) trivial (v_eql rfl rfl) ?_)
              refine rl_nil (g_le (Fr.le_keep (Fr.le_keep (Fr.le_keep (Fr.le_refl _)))) ?_)
              refine g_cond rfl (fun h3 => ?_) (fun h3 => ?_)
              · try with_reducible exact ft_elim h3
                all_goals
                  try replace h3 := of_decide_eq_true h3
                  try (first | (exfalso; omega))
                  all_goals
                    refine g_region ?_
                    refine rl_v rfl rfl rfl (S := fun _ => True) trivial (v_assign rfl) ?_
                    refine rl_nil (g_le (Fr.le_keep (Fr.le_refl _)) ?_)
                    refine g_seq (g_seq ?_)
                    refine g_region ?_
                    first | (refine rl_v rfl rfl rfl (S := fun _ => True) trivial (v_fieldAddr0 T.fld_49_0_0 rfl) ?_) | (refine rl_v rfl rfl rfl (S := fun _ => True) trivial (v_fieldAddr T.fld_49_0_0 rfl) ?_)
                    refine rl_v rfl rfl rfl (by first | exact sat_cell hw (by (repeat (first | with_reducible exact Pick.here _ | apply Pick.there)); first | done | fail) rfl | exact own_cell hw (by (repeat (first | with_reducible exact Pick.here _ | apply Pick.there)); first | done | fail) (by first | rfl | assumption) | exact ro_at0 hw (by (repeat (first | with_reducible exact Pick.here _ | apply Pick.there)); first | done | fail) (by assumption) rfl | exact ro_at hw (by (repeat (first | with_reducible exact Pick.here _ | apply Pick.there)); first | done | fail) (by assumption) rfl | exact own_at0 hw (by (repeat (first | with_reducible exact Pick.here _ | apply Pick.there)); first | done | fail) (by assumption) rfl | exact own_at hw (by (repeat (first | with_reducible exact Pick.here _ | apply Pick.there)); first | done | fail) (by assumption) rfl | exact old_cell hw (by (repeat (first | with_reducible exact Pick.here _ | apply Pick.there)); first | done | fail) (by assumption) | assumption) (v_load T.scal_3 rfl) ?_
                    first | (refine rl_v rfl rfl rfl (S := fun _ => True) trivial (v_eqlT rfl rfl (by first | omega | rfl)) ?_) | (refine rl_v rfl rfl rfl (S := fun _ => True) trivial (v_eqlF rfl rfl (by omega)) ?_) | (refine rl_v rfl rfl rfl (S := fun _ => True) trivial (v_eql rfl rfl) ?_)
                    refine rl_nil (g_le (Fr.le_keep (Fr.le_keep (Fr.le_keep (Fr.le_refl _)))) ?_)
                    refine g_cond rfl (fun h4 => ?_) (fun h4 => ?_)
                    · try with_reducible exact ft_elim h4
                      all_goals
                        try replace h4 := of_decide_eq_true h4
                        try (first | (exfalso; omega))
                        all_goals
                          refine g_seq ?_
                          refine g_region ?_
                          first | (refine rl_v rfl rfl rfl (S := fun _ => True) trivial (v_fieldAddr0 T.fld_49_3_5 rfl) ?_) | (refine rl_v rfl rfl rfl (S := fun _ => True) trivial (v_fieldAddr T.fld_49_3_5 rfl) ?_)
                          refine rl_v rfl rfl rfl (by first | exact sat_cell hw (by (repeat (first | with_reducible exact Pick.here _ | apply Pick.there)); first | done | fail) rfl | exact own_cell hw (by (repeat (first | with_reducible exact Pick.here _ | apply Pick.there)); first | done | fail) (by first | rfl | assumption) | exact ro_at0 hw (by (repeat (first | with_reducible exact Pick.here _ | apply Pick.there)); first | done | fail) (by assumption) rfl | exact ro_at hw (by (repeat (first | with_reducible exact Pick.here _ | apply Pick.there)); first | done | fail) (by assumption) rfl | exact own_at0 hw (by (repeat (first | with_reducible exact Pick.here _ | apply Pick.there)); first | done | fail) (by assumption) rfl | exact own_at hw (by (repeat (first | with_reducible exact Pick.here _ | apply Pick.there)); first | done | fail) (by assumption) rfl | exact old_cell hw (by (repeat (first | with_reducible exact Pick.here _ | apply Pick.there)); first | done | fail) (by assumption) | assumption) (v_load T.scal_46 rfl) ?_
                          refine rl_k rfl (k_callf Try.func20 rfl rfl rfl rfl ?_)
                          refine Calls.mono (refs_calls hrf (hw.sub (by (repeat (first | with_reducible exact Sub.refl _ | exact Sub.nil _ | (apply Sub.cons; focus ((repeat (first | with_reducible exact Pick.here _ | apply Pick.there)); (first | done | fail))) | with_reducible apply Sub.drop)); first | done | fail))) ?_
                          rintro _ w ⟨g2, ra, rm, rk, hg2, rfl, hrs, hw⟩
                          obtain ⟨rfl, _, _, _, gg⟩ := rdSl_get hrs
                          have hrl := refsOf_len x.refs
                          refine ⟨_, rfl, ?_⟩
                          refine rl_v rfl rfl rfl (S := fun _ => True) trivial (v_lenSlice T.sl_53_34_4 rfl) ?_
                          refine rl_v rfl rfl rfl (S := fun _ => True) trivial (v_move rfl) ?_
                          refine rl_nil (g_le (Fr.le_keep (Fr.le_keep (Fr.le_keep (Fr.le_keep (Fr.le_keep (Fr.le_refl _)))))) ?_)
                          refine g_block ?_
                          refine g_loopC (σ := Int × Bool) (fun C x => (37, .int .i64 x.1) :: (9, .bool x.2) :: C) [(2, _), (4, _), (6, _), (7, _), (8, _), (10, _), (11, _), (15, _), (16, _), (17, _), (18, _), (19, _), (20, _), (21, _), (22, _), (23, _), (24, _), (25, _), (26, _), (27, _), (28, _), (29, _), (30, _), (31, _), (32, _), (33, _), (34, _), (35, _), (36, _)] (by repeat (first | exact Fr.le_nil _ | refine Fr.le_cons rfl ?_)) (fun z w => 0 ≤ z.1 ∧ z.1 ≤ (refsOf x.refs).length ∧ z.2 = (b && decide (r ∉ (refsOf x.refs).take z.1.toNat)) ∧ Sat E w (pt bk5_3 (.cells [Value.int .i64 x.do_, .int .i64 x.r, .bool x.n.leaf, .slice qa1 qn1 qk1, .slice qa2 qn2 qk2, .slice qa3 qn3 qk3].toArray 49 (0, 0)) :: pt bk1_1 (.cells [.bool p.leaf, .slice ea en ec, .slice ka kn kc].toArray 25 (0, 0)) :: pt bk0_1 (.cells [.bool false, .slice none 0 0, .slice none 0 0].toArray 25 (0, 0)) :: pt bk0_0 (.cells r.cells.toArray 34 (0, 0)) :: OwnSl 4 1 (.slice (some ⟨gb, 0, none⟩) dn dc) dn (done.map Value.bool) :: RO g2 :: L)) (fun z => ((refsOf x.refs).length - z.1).toNat) ?_ (0, b) (by repeat (first | exact Fr.le_nil _ | refine Fr.le_cons rfl ?_)) ⟨by simp, by simp, by simp, hw.sub (by (repeat (first | with_reducible exact Sub.refl _ | exact Sub.nil _ | (apply Sub.cons; focus ((repeat (first | with_reducible exact Pick.here _ | apply Pick.there)); (first | done | fail))) | with_reducible apply Sub.drop)); first | done | fail)⟩
                          rintro ⟨j, bb⟩ w ⟨hj0, hj1, hbb, hw⟩ ih2
                          dsimp only at hj0 hj1 hbb hw ⊢
                          refine g_seq ?_
                          refine g_region ?_
                          first | (refine rl_v rfl rfl rfl (S := fun _ => True) trivial (v_lssT rfl rfl (by omega)) ?_) | (refine rl_v rfl rfl rfl (S := fun _ => True) trivial (v_lssF rfl rfl (by omega)) ?_) | (refine rl_v rfl rfl rfl (S := fun _ => True) trivial (v_lss rfl rfl) ?_)
                          refine rl_nil (g_le (Fr.le_keep (Fr.le_refl _)) ?_)
                          refine g_seq ?_
                          refine g_cond rfl (fun h5 => ?_) (fun h5 => ?_)
                          · try with_reducible exact ft_elim h5
                            all_goals
                              try replace h5 := of_decide_eq_true h5
                              try (first | (exfalso; omega))
                              all_goals
                                refine g_skip (g_seq (g_block (g_seq ?_)))
                                have hz := hw
                                clear hw
                                obtain ⟨b5, o5, q, ecs5, rfl, hx5, hat5, hl5, rfl, hrok⟩ := gg j hj0 (by omega)
                                have hw := hz
                                have hq9 : (refsOf x.refs).take (j + 1).toNat = (refsOf x.refs).take j.toNat ++ [q] := by rw [show (j + 1).toNat = j.toNat + 1 by omega, List.take_add_one, hx5]; rfl
                                refine g_region ?_
                                refine rl_v rfl rfl rfl (S := fun _ => True) trivial (v_indexAddr T.sl_53_34_4 rfl rfl (by omega) (by omega)) ?_
                                refine rl_v rfl rfl rfl (by first | exact sat_cells hw (by (repeat (first | with_reducible exact Pick.here _ | apply Pick.there)); first | done | fail) ⟨rfl, rfl, rfl, rfl, trivial⟩ | exact ro_ats hw (by (repeat (first | with_reducible exact Pick.here _ | apply Pick.there)); first | done | fail) (by assumption) | exact own_cells hw (by (repeat (first | with_reducible exact Pick.here _ | apply Pick.there)); first | done | fail) (by assumption) | exact old_cells hw (by (repeat (first | with_reducible exact Pick.here _ | apply Pick.there)); first | done | fail) (by assumption)) (v_loadAgg (vs := [_, _, _, _]) T.agg_34_4 rfl rfl) ?_
                                refine rl_k rfl (k_alloc hw T.zero_34 rfl rfl (fun bk12_2 w hw => ?_))
                                first | (refine rl_k rfl (k_storeWhole hw T.agg_34_4 rfl rfl (by simp [Value.oneCell']) rfl (by (repeat (first | with_reducible exact Pick.here _ | apply Pick.there)); first | done | fail) rfl (fun w hw => ?_))) | (refine rl_k rfl (k_storeAgg hw T.agg_34_4 rfl rfl (by simp [Value.oneCell']) rfl (by (repeat (first | with_reducible exact Pick.here _ | apply Pick.there)); first | done | fail) rfl rfl (fun w hw => ?_))) | (refine rl_k rfl (k_storeOwnAgg hw T.agg_34_4 rfl rfl (by simp [Value.oneCell']) rfl (by (repeat (first | with_reducible exact Pick.here _ | apply Pick.there)); first | done | fail) (by assumption) (by omega) (fun w hw => ?_)))
                                refine rl_nil (g_le (Fr.le_keep (Fr.le_keep (Fr.le_keep (Fr.le_refl _)))) ?_)
                                refine g_region ?_
                                refine rl_v rfl rfl rfl (S := fun _ => True) trivial (v_move rfl) ?_
                                refine rl_v rfl rfl rfl (S := fun _ => True) trivial (v_move rfl) ?_
                                refine rl_split (s := 42) rfl (fun g13_1 => ?_) (fun g13_1 => ?_)
                                · try with_reducible exact ft_elim g13_1
                                  all_goals
                                    try replace g13_1 := of_decide_eq_true g13_1
                                    try (first | (exfalso; omega))
                                    all_goals
                                      refine rl_vg (met_on rfl rfl rfl rfl) rfl rfl (by first | exact sat_cells hw (by (repeat (first | with_reducible exact Pick.here _ | apply Pick.there)); first | done | fail) ⟨rfl, rfl, rfl, rfl, trivial⟩ | exact ro_ats hw (by (repeat (first | with_reducible exact Pick.here _ | apply Pick.there)); first | done | fail) (by assumption) | exact own_cells hw (by (repeat (first | with_reducible exact Pick.here _ | apply Pick.there)); first | done | fail) (by assumption) | exact old_cells hw (by (repeat (first | with_reducible exact Pick.here _ | apply Pick.there)); first | done | fail) (by assumption)) (v_loadAgg (vs := [_, _, _, _]) T.agg_34_4 rfl rfl) ?_
                                      refine rl_vg (met_on rfl rfl rfl rfl) rfl rfl (by first | exact sat_cells hw (by (repeat (first | with_reducible exact Pick.here _ | apply Pick.there)); first | done | fail) ⟨rfl, rfl, rfl, rfl, trivial⟩ | exact ro_ats hw (by (repeat (first | with_reducible exact Pick.here _ | apply Pick.there)); first | done | fail) (by assumption) | exact own_cells hw (by (repeat (first | with_reducible exact Pick.here _ | apply Pick.there)); first | done | fail) (by assumption) | exact old_cells hw (by (repeat (first | with_reducible exact Pick.here _ | apply Pick.there)); first | done | fail) (by assumption)) (v_loadAgg (vs := [_, _, _, _]) T.agg_34_4 rfl rfl) ?_
                                      refine rl_vg (met_on rfl rfl rfl rfl) rfl rfl (S := fun _ => True) trivial (v_neqAgg T.cmp_34_iiii rfl rfl rfl rfl (by first | exact eq_Rf _ _ | rfl)) ?_
                                      first | (refine rl_v rfl rfl rfl (S := fun _ => True) trivial (v_pick_true rfl rfl) ?_) | (refine rl_v rfl rfl rfl (S := fun _ => True) trivial (v_pick_false rfl rfl) ?_) | (refine rl_v rfl rfl rfl (S := fun _ => True) trivial (v_pick rfl rfl rfl) ?_)
                                      refine rl_v rfl rfl rfl (S := fun _ => True) trivial (v_assign rfl) ?_
                                      refine rl_nil (g_le (Fr.le_keep (Fr.le_keep (Fr.le_keep (Fr.le_keep (Fr.le_keep (Fr.le_keep (Fr.le_keep (Fr.le_keep (Fr.le_refl _))))))))) ?_)
                                      refine g_inBlock ?_
                                      refine g_region ?_
                                      first | (refine rl_v rfl rfl rfl (S := fun _ => True) trivial (v_add rfl rfl (by omega)) ?_) | (refine rl_v rfl rfl rfl (S := fun _ => True) trivial (v_addW rfl rfl) ?_)
                                      refine rl_v rfl rfl rfl (S := fun _ => True) trivial (v_move rfl) ?_
                                      refine rl_nil (g_le (Fr.le_keep (Fr.le_keep (Fr.le_refl _))) ?_)
                                      refine g_le (by repeat (first | exact Fr.le_nil _ | refine Fr.le_cons rfl ?_)) (ih2 (j + 1, !decide (q = r)) w ⟨by simp only; omega, by simp only; omega, ?_, hw.sub (by (repeat (first | with_reducible exact Sub.refl _ | exact Sub.nil _ | (apply Sub.cons; focus ((repeat (first | with_reducible exact Pick.here _ | apply Pick.there)); (first | done | fail))) | with_reducible apply Sub.drop)); first | done | fail)⟩ (by simp only; omega))
                                      dsimp only
                                      rw [hq9]
                                      have hb9 := hbb.symm.trans g13_1
                                      simp only [Bool.and_eq_true, decide_eq_true_eq] at hb9
                                      rw [hb9.1, Bool.true_and]
                                      by_cases hqr : q = r
                                      · subst hqr; simp
                                      · rw [decide_eq_false hqr]; symm; simp [hb9.2, Ne.symm hqr]
                                · try with_reducible exact tf_elim g13_1
                                  all_goals
                                    try replace g13_1 := of_decide_eq_false g13_1
                                    try (first | (exfalso; omega))
                                    all_goals
                                      refine rl_off (met_off rfl rfl rfl rfl rfl) rfl rfl ?_
                                      refine rl_off (met_off rfl rfl rfl rfl rfl) rfl rfl ?_
                                      refine rl_off (met_off rfl rfl rfl rfl rfl) rfl rfl ?_
                                      first | (refine rl_v rfl rfl rfl (S := fun _ => True) trivial (v_pick_true rfl rfl) ?_) | (refine rl_v rfl rfl rfl (S := fun _ => True) trivial (v_pick_false rfl rfl) ?_) | (refine rl_v rfl rfl rfl (S := fun _ => True) trivial (v_pick rfl rfl rfl) ?_)
                                      refine rl_v rfl rfl rfl (S := fun _ => True) trivial (v_assign rfl) ?_
                                      refine rl_nil (g_le (Fr.le_keep (Fr.le_keep (Fr.le_keep (Fr.le_keep (Fr.le_keep (Fr.le_keep (Fr.le_keep (Fr.le_keep (Fr.le_refl _))))))))) ?_)
                                      refine g_inBlock ?_
                                      refine g_region ?_
                                      first | (refine rl_v rfl rfl rfl (S := fun _ => True) trivial (v_add rfl rfl (by omega)) ?_) | (refine rl_v rfl rfl rfl (S := fun _ => True) trivial (v_addW rfl rfl) ?_)
                                      refine rl_v rfl rfl rfl (S := fun _ => True) trivial (v_move rfl) ?_
                                      refine rl_nil (g_le (Fr.le_keep (Fr.le_keep (Fr.le_refl _))) ?_)
                                      refine g_le (by repeat (first | exact Fr.le_nil _ | refine Fr.le_cons rfl ?_)) (ih2 (j + 1, false) w ⟨by simp only; omega, by simp only; omega, ?_, hw.sub (by (repeat (first | with_reducible exact Sub.refl _ | exact Sub.nil _ | (apply Sub.cons; focus ((repeat (first | with_reducible exact Pick.here _ | apply Pick.there)); (first | done | fail))) | with_reducible apply Sub.drop)); first | done | fail)⟩ (by simp only; omega))
                                      dsimp only
                                      rw [hq9]
                                      have hb9 := hbb.symm.trans g13_1
                                      cases b
                                      · rfl
                                      · symm; simp only [Bool.true_and, decide_eq_false_iff_not, List.mem_append, Decidable.not_not] at hb9 ⊢; exact Or.inl hb9
                          · try with_reducible exact tf_elim h5
                            all_goals
                              try replace h5 := of_decide_eq_false h5
                              have hw := (hw.pick .at5).shrink hg2
                              have hbb : bb = (b && decide (r ∉ refsOf x.refs)) := by rw [hbb, show j.toNat = (refsOf x.refs).length by omega, List.take_length]
                              try (first | (exfalso; omega))
                              all_goals
                                refine g_exit rfl (g_seq ?_)
                                refine g_drawR ord_f24_r15_C15l (by kernel_rfl) T.mixed hw (fun w hw => ?_)
                                first | (refine rs_kv 0 rfl rfl rfl rfl (S' := fun _ => True) trivial (v_fieldAddr0 T.fld_49_0_0 rfl) ?_) | (refine rs_kv 0 rfl rfl rfl rfl (S' := fun _ => True) trivial (v_fieldAddr T.fld_49_0_0 rfl) ?_)
                                refine rs_kv 1 rfl rfl rfl rfl (by first | exact sat_cell hw (by (repeat (first | with_reducible exact Pick.here _ | apply Pick.there)); first | done | fail) rfl | exact own_cell hw (by (repeat (first | with_reducible exact Pick.here _ | apply Pick.there)); first | done | fail) (by first | rfl | assumption) | exact ro_at0 hw (by (repeat (first | with_reducible exact Pick.here _ | apply Pick.there)); first | done | fail) (by assumption) rfl | exact ro_at hw (by (repeat (first | with_reducible exact Pick.here _ | apply Pick.there)); first | done | fail) (by assumption) rfl | exact own_at0 hw (by (repeat (first | with_reducible exact Pick.here _ | apply Pick.there)); first | done | fail) (by assumption) rfl | exact own_at hw (by (repeat (first | with_reducible exact Pick.here _ | apply Pick.there)); first | done | fail) (by assumption) rfl | exact old_cell hw (by (repeat (first | with_reducible exact Pick.here _ | apply Pick.there)); first | done | fail) (by assumption) | assumption) (v_load T.scal_3 rfl) ?_
                                first | (refine rs_kv 2 rfl rfl rfl rfl (S' := fun _ => True) trivial (v_lssT rfl rfl (by omega)) ?_) | (refine rs_kv 2 rfl rfl rfl rfl (S' := fun _ => True) trivial (v_lssF rfl rfl (by omega)) ?_) | (refine rs_kv 2 rfl rfl rfl rfl (S' := fun _ => True) trivial (v_lss rfl rfl) ?_)
                                refine rs_kv 3 rfl rfl rfl rfl (S' := fun _ => True) trivial (v_move rfl) ?_
                                refine rs_split (s := 51) rfl (fun g15_3 => ?_) (fun g15_3 => ?_)
                                · try with_reducible exact ft_elim g15_3
                                  all_goals
                                    try replace g15_3 := of_decide_eq_true g15_3
                                    try (first | (exfalso; omega))
                                    all_goals
                                      refine rs_koff 4 rfl (met_off rfl rfl rfl rfl rfl) rfl rfl ?_
                                      refine rs_koff 5 rfl (met_off rfl rfl rfl rfl rfl) rfl rfl ?_
                                      refine rs_koff 6 rfl (met_off rfl rfl rfl rfl rfl) rfl rfl ?_
                                      first | (refine rs_kv 7 rfl rfl rfl rfl (S' := fun _ => True) trivial (v_pick_true rfl rfl) ?_) | (refine rs_kv 7 rfl rfl rfl rfl (S' := fun _ => True) trivial (v_pick_false rfl rfl) ?_) | (refine rs_kv 7 rfl rfl rfl rfl (S' := fun _ => True) trivial (v_pick rfl rfl rfl) ?_)
                                      refine rs_kv 8 rfl rfl rfl rfl (S' := fun _ => True) trivial (v_move rfl) ?_
                                      first | (refine rs_ag 9 rfl (met_on rfl rfl rfl rfl) rfl rfl (v_fieldAddr0 T.fld_49_1_1 rfl) ?_) | (refine rs_ag 9 rfl (met_on rfl rfl rfl rfl) rfl rfl (v_fieldAddr T.fld_49_1_1 rfl) ?_)
                                      refine rs_vg 10 rfl (met_on rfl rfl rfl rfl) rfl rfl (OpV.mono (v_load T.scal_3 rfl) (fun w hw => by first | exact sat_cell hw (by (repeat (first | with_reducible exact Pick.here _ | apply Pick.there)); first | done | fail) rfl | exact own_cell hw (by (repeat (first | with_reducible exact Pick.here _ | apply Pick.there)); first | done | fail) (by first | rfl | assumption) | exact ro_at0 hw (by (repeat (first | with_reducible exact Pick.here _ | apply Pick.there)); first | done | fail) (by assumption) rfl | exact ro_at hw (by (repeat (first | with_reducible exact Pick.here _ | apply Pick.there)); first | done | fail) (by assumption) rfl | exact own_at0 hw (by (repeat (first | with_reducible exact Pick.here _ | apply Pick.there)); first | done | fail) (by assumption) rfl | exact own_at hw (by (repeat (first | with_reducible exact Pick.here _ | apply Pick.there)); first | done | fail) (by assumption) rfl | exact old_cell hw (by (repeat (first | with_reducible exact Pick.here _ | apply Pick.there)); first | done | fail) (by assumption) | assumption)) (by first | exact hw | exact Sat.sub hw (by (repeat (first | with_reducible exact Sub.refl _ | exact Sub.nil _ | (apply Sub.cons; focus ((repeat (first | with_reducible exact Pick.here _ | apply Pick.there)); (first | done | fail))) | with_reducible apply Sub.drop)); first | done | fail)) ?_
                                      refine rs_vg 12 rfl (met_on rfl rfl rfl rfl) rfl rfl (OpV.mono (v_loadAgg (vs := [_, _, _, _]) T.agg_34_4 rfl rfl) (fun w hw => by first | exact sat_cells hw (by (repeat (first | with_reducible exact Pick.here _ | apply Pick.there)); first | done | fail) ⟨rfl, rfl, rfl, rfl, trivial⟩ | exact ro_ats hw (by (repeat (first | with_reducible exact Pick.here _ | apply Pick.there)); first | done | fail) (by assumption) | exact own_cells hw (by (repeat (first | with_reducible exact Pick.here _ | apply Pick.there)); first | done | fail) (by assumption) | exact old_cells hw (by (repeat (first | with_reducible exact Pick.here _ | apply Pick.there)); first | done | fail) (by assumption))) (by first | exact hw | exact Sat.sub hw (by (repeat (first | with_reducible exact Sub.refl _ | exact Sub.nil _ | (apply Sub.cons; focus ((repeat (first | with_reducible exact Pick.here _ | apply Pick.there)); (first | done | fail))) | with_reducible apply Sub.drop)); first | done | fail)) ?_
                                      refine rs_kg 11 rfl (met_on rfl rfl rfl rfl) (k_callf Try.func11 rfl rfl rfl rfl ?_)
                                      refine Calls.mono (of_calls _ hw) ?_
                                      rintro _ w ⟨rfl, hw⟩
                                      refine ⟨_, rfl, ?_⟩
                                      refine ⟨fun _ => (by first | exact hw | exact Sat.sub hw (by (repeat (first | with_reducible exact Sub.refl _ | exact Sub.nil _ | (apply Sub.cons; focus ((repeat (first | with_reducible exact Pick.here _ | apply Pick.there)); (first | done | fail))) | with_reducible apply Sub.drop)); first | done | fail) | exact Sat.sub (Sat.shrink (Sat.pick hw (by (repeat (first | with_reducible exact Pick.here _ | apply Pick.there)); first | done | fail)) (by assumption)) (by (repeat (first | with_reducible exact Sub.refl _ | exact Sub.nil _ | (apply Sub.cons; focus ((repeat (first | with_reducible exact Pick.here _ | apply Pick.there)); (first | done | fail))) | with_reducible apply Sub.drop)); first | done | fail)), ?_⟩
                                      refine rs_kvg 13 rfl (met_on rfl rfl rfl rfl) rfl rfl (S' := fun _ => True) trivial (v_eqlAgg T.cmp_34_iiii rfl rfl rfl rfl (by first | exact eq_Rf _ _ | rfl)) ?_
                                      first | (refine rs_kv 14 rfl rfl rfl rfl (S' := fun _ => True) trivial (v_pick_true rfl rfl) ?_) | (refine rs_kv 14 rfl rfl rfl rfl (S' := fun _ => True) trivial (v_pick_false rfl rfl) ?_) | (refine rs_kv 14 rfl rfl rfl rfl (S' := fun _ => True) trivial (v_pick rfl rfl rfl) ?_)
                                      refine rs_done (g_le (Fr.le_keep (Fr.le_keep (Fr.le_keep (Fr.le_keep (Fr.le_keep (Fr.le_keep (Fr.le_keep (Fr.le_keep (Fr.le_keep (Fr.le_keep (Fr.le_keep (Fr.le_keep (Fr.le_keep (Fr.le_keep (Fr.le_keep (Fr.le_keep (Fr.le_refl _))))))))))))))))) ?_)
                                      refine g_cond rfl (fun h6 => ?_) (fun h6 => ?_)
                                      · try with_reducible exact ft_elim h6
                                        all_goals
                                          try replace h6 := of_decide_eq_true h6
                                          try (first | (exfalso; omega))
                                          all_goals
                                            refine g_seq ?_
                                            refine g_region ?_
                                            first | (refine rl_v rfl rfl rfl (S := fun _ => True) trivial (v_fieldAddr0 T.fld_49_2_2 rfl) ?_) | (refine rl_v rfl rfl rfl (S := fun _ => True) trivial (v_fieldAddr T.fld_49_2_2 rfl) ?_)
                                            refine rl_v rfl rfl rfl (by first | exact sat_cells hw (by (repeat (first | with_reducible exact Pick.here _ | apply Pick.there)); first | done | fail) ⟨rfl, rfl, rfl, trivial⟩ | exact ro_ats hw (by (repeat (first | with_reducible exact Pick.here _ | apply Pick.there)); first | done | fail) (by assumption) | exact own_cells hw (by (repeat (first | with_reducible exact Pick.here _ | apply Pick.there)); first | done | fail) (by assumption) | exact old_cells hw (by (repeat (first | with_reducible exact Pick.here _ | apply Pick.there)); first | done | fail) (by assumption)) (v_loadAgg (vs := [_, _, _]) T.agg_25_3 rfl rfl) ?_
                                            first | (refine rl_k rfl (k_storeWhole hw T.agg_25_3 rfl rfl (by simp [Value.oneCell']) rfl (by (repeat (first | with_reducible exact Pick.here _ | apply Pick.there)); first | done | fail) rfl (fun w hw => ?_))) | (refine rl_k rfl (k_storeAgg hw T.agg_25_3 rfl rfl (by simp [Value.oneCell']) rfl (by (repeat (first | with_reducible exact Pick.here _ | apply Pick.there)); first | done | fail) rfl rfl (fun w hw => ?_))) | (refine rl_k rfl (k_storeOwnAgg hw T.agg_25_3 rfl rfl (by simp [Value.oneCell']) rfl (by (repeat (first | with_reducible exact Pick.here _ | apply Pick.there)); first | done | fail) (by assumption) (by omega) (fun w hw => ?_)))
                                            refine rl_nil (g_le (Fr.le_keep (Fr.le_keep (Fr.le_refl _))) ?_)
                                            refine g_region ?_
                                            refine rl_v rfl rfl rfl (S := fun _ => True) trivial (v_assign rfl) ?_
                                            refine rl_nil (g_le (Fr.le_keep (Fr.le_refl _)) ?_)
                                            refine g_inBlock ?_
                                            refine g_region ?_
                                            first | (refine rl_v rfl rfl rfl (S := fun _ => True) trivial (v_add rfl rfl (by omega)) ?_) | (refine rl_v rfl rfl rfl (S := fun _ => True) trivial (v_addW rfl rfl) ?_)
                                            refine rl_v rfl rfl rfl (S := fun _ => True) trivial (v_move rfl) ?_
                                            refine rl_nil (g_le (Fr.le_keep (Fr.le_keep (Fr.le_refl _))) ?_)
                                            exact g_le (by repeat (first | exact Fr.le_nil _ | refine Fr.le_cons rfl ?_)) (ih (i + 1, x.n, true, qa1, qn1, qk1, qa2, qn2, qk2) w ⟨by simp only; omega, by simp only; omega, htk.trans (stepPut (by omega) h6), hnd, hw.sub (by (repeat (first | with_reducible exact Sub.refl _ | exact Sub.nil _ | (apply Sub.cons; focus ((repeat (first | with_reducible exact Pick.here _ | apply Pick.there)); (first | done | fail))) | with_reducible apply Sub.drop)); first | done | fail)⟩ (by simp only; omega))
                                      · try with_reducible exact tf_elim h6
                                        all_goals
                                          try replace h6 := of_decide_eq_false h6
                                          try (first | (exfalso; omega))
                                          all_goals
                                            refine g_skip (g_inBlock ?_)
                                            refine g_region ?_
                                            first | (refine rl_v rfl rfl rfl (S := fun _ => True) trivial (v_add rfl rfl (by omega)) ?_) | (refine rl_v rfl rfl rfl (S := fun _ => True) trivial (v_addW rfl rfl) ?_)
                                            refine rl_v rfl rfl rfl (S := fun _ => True) trivial (v_move rfl) ?_
                                            refine rl_nil (g_le (Fr.le_keep (Fr.le_keep (Fr.le_refl _))) ?_)
                                            first | exact g_le (by repeat (first | exact Fr.le_nil _ | refine Fr.le_cons rfl ?_)) (ih (i + 1, p, false, ea, en, ec, ka, kn, kc) w ⟨by simp only; omega, by simp only; omega, htk.trans (step5 h3), hnp, hw.sub (by (repeat (first | with_reducible exact Sub.refl _ | exact Sub.nil _ | (apply Sub.cons; focus ((repeat (first | with_reducible exact Pick.here _ | apply Pick.there)); (first | done | fail))) | with_reducible apply Sub.drop)); first | done | fail)⟩ (by simp only; omega)) | exact g_le (by repeat (first | exact Fr.le_nil _ | refine Fr.le_cons rfl ?_)) (ih (i + 1, p, bb, ea, en, ec, ka, kn, kc) w ⟨by simp only; omega, by simp only; omega, htk.trans (hbb ▸ step4 h4), hnp, hw.sub (by (repeat (first | with_reducible exact Sub.refl _ | exact Sub.nil _ | (apply Sub.cons; focus ((repeat (first | with_reducible exact Pick.here _ | apply Pick.there)); (first | done | fail))) | with_reducible apply Sub.drop)); first | done | fail)⟩ (by simp only; omega)) | exact g_le (by repeat (first | exact Fr.le_nil _ | refine Fr.le_cons rfl ?_)) (ih (i + 1, p, b, ea, en, ec, ka, kn, kc) w ⟨by simp only; omega, by simp only; omega, htk.trans (stepNo h3 h4 (fun hh => by first | exact h6 hh.2 | omega)), hnp, hw.sub (by (repeat (first | with_reducible exact Sub.refl _ | exact Sub.nil _ | (apply Sub.cons; focus ((repeat (first | with_reducible exact Pick.here _ | apply Pick.there)); (first | done | fail))) | with_reducible apply Sub.drop)); first | done | fail)⟩ (by simp only; omega))
                                · try with_reducible exact tf_elim g15_3
                                  all_goals
                                    try replace g15_3 := of_decide_eq_false g15_3
                                    try (first | (exfalso; omega))
                                    all_goals
                                      first | (refine rs_kvg 4 rfl (met_on rfl rfl rfl rfl) rfl rfl (S' := fun _ => True) trivial (v_fieldAddr0 T.fld_49_0_0 rfl) ?_) | (refine rs_kvg 4 rfl (met_on rfl rfl rfl rfl) rfl rfl (S' := fun _ => True) trivial (v_fieldAddr T.fld_49_0_0 rfl) ?_)
                                      refine rs_kvg 5 rfl (met_on rfl rfl rfl rfl) rfl rfl (by first | exact sat_cell hw (by (repeat (first | with_reducible exact Pick.here _ | apply Pick.there)); first | done | fail) rfl | exact own_cell hw (by (repeat (first | with_reducible exact Pick.here _ | apply Pick.there)); first | done | fail) (by first | rfl | assumption) | exact ro_at0 hw (by (repeat (first | with_reducible exact Pick.here _ | apply Pick.there)); first | done | fail) (by assumption) rfl | exact ro_at hw (by (repeat (first | with_reducible exact Pick.here _ | apply Pick.there)); first | done | fail) (by assumption) rfl | exact own_at0 hw (by (repeat (first | with_reducible exact Pick.here _ | apply Pick.there)); first | done | fail) (by assumption) rfl | exact own_at hw (by (repeat (first | with_reducible exact Pick.here _ | apply Pick.there)); first | done | fail) (by assumption) rfl | exact old_cell hw (by (repeat (first | with_reducible exact Pick.here _ | apply Pick.there)); first | done | fail) (by assumption) | assumption) (v_load T.scal_3 rfl) ?_
                                      first | (refine rs_kvg 6 rfl (met_on rfl rfl rfl rfl) rfl rfl (S' := fun _ => True) trivial (v_gtrT rfl rfl (by omega)) ?_) | (refine rs_kvg 6 rfl (met_on rfl rfl rfl rfl) rfl rfl (S' := fun _ => True) trivial (v_gtrF rfl rfl (by omega)) ?_) | (refine rs_kvg 6 rfl (met_on rfl rfl rfl rfl) rfl rfl (S' := fun _ => True) trivial (v_gtr rfl rfl) ?_)
                                      first | (refine rs_kv 7 rfl rfl rfl rfl (S' := fun _ => True) trivial (v_pick_true rfl rfl) ?_) | (refine rs_kv 7 rfl rfl rfl rfl (S' := fun _ => True) trivial (v_pick_false rfl rfl) ?_) | (refine rs_kv 7 rfl rfl rfl rfl (S' := fun _ => True) trivial (v_pick rfl rfl rfl) ?_)
                                      refine rs_kv 8 rfl rfl rfl rfl (S' := fun _ => True) trivial (v_move rfl) ?_
                                      refine rs_split (s := 56) rfl (fun g15_8 => ?_) (fun g15_8 => ?_)
                                      · try with_reducible exact ft_elim g15_8
                                        all_goals
                                          try replace g15_8 := of_decide_eq_true g15_8
                                          try (first | (exfalso; omega))
                                          all_goals
                                            first | (refine rs_ag 9 rfl (met_on rfl rfl rfl rfl) rfl rfl (v_fieldAddr0 T.fld_49_1_1 rfl) ?_) | (refine rs_ag 9 rfl (met_on rfl rfl rfl rfl) rfl rfl (v_fieldAddr T.fld_49_1_1 rfl) ?_)
                                            refine rs_vg 10 rfl (met_on rfl rfl rfl rfl) rfl rfl (OpV.mono (v_load T.scal_3 rfl) (fun w hw => by first | exact sat_cell hw (by (repeat (first | with_reducible exact Pick.here _ | apply Pick.there)); first | done | fail) rfl | exact own_cell hw (by (repeat (first | with_reducible exact Pick.here _ | apply Pick.there)); first | done | fail) (by first | rfl | assumption) | exact ro_at0 hw (by (repeat (first | with_reducible exact Pick.here _ | apply Pick.there)); first | done | fail) (by assumption) rfl | exact ro_at hw (by (repeat (first | with_reducible exact Pick.here _ | apply Pick.there)); first | done | fail) (by assumption) rfl | exact own_at0 hw (by (repeat (first | with_reducible exact Pick.here _ | apply Pick.there)); first | done | fail) (by assumption) rfl | exact own_at hw (by (repeat (first | with_reducible exact Pick.here _ | apply Pick.there)); first | done | fail) (by assumption) rfl | exact old_cell hw (by (repeat (first | with_reducible exact Pick.here _ | apply Pick.there)); first | done | fail) (by assumption) | assumption)) (by first | exact hw | exact Sat.sub hw (by (repeat (first | with_reducible exact Sub.refl _ | exact Sub.nil _ | (apply Sub.cons; focus ((repeat (first | with_reducible exact Pick.here _ | apply Pick.there)); (first | done | fail))) | with_reducible apply Sub.drop)); first | done | fail)) ?_
                                            refine rs_vg 12 rfl (met_on rfl rfl rfl rfl) rfl rfl (OpV.mono (v_loadAgg (vs := [_, _, _, _]) T.agg_34_4 rfl rfl) (fun w hw => by first | exact sat_cells hw (by (repeat (first | with_reducible exact Pick.here _ | apply Pick.there)); first | done | fail) ⟨rfl, rfl, rfl, rfl, trivial⟩ | exact ro_ats hw (by (repeat (first | with_reducible exact Pick.here _ | apply Pick.there)); first | done | fail) (by assumption) | exact own_cells hw (by (repeat (first | with_reducible exact Pick.here _ | apply Pick.there)); first | done | fail) (by assumption) | exact old_cells hw (by (repeat (first | with_reducible exact Pick.here _ | apply Pick.there)); first | done | fail) (by assumption))) (by first | exact hw | exact Sat.sub hw (by (repeat (first | with_reducible exact Sub.refl _ | exact Sub.nil _ | (apply Sub.cons; focus ((repeat (first | with_reducible exact Pick.here _ | apply Pick.there)); (first | done | fail))) | with_reducible apply Sub.drop)); first | done | fail)) ?_
                                            refine rs_kg 11 rfl (met_on rfl rfl rfl rfl) (k_callf Try.func11 rfl rfl rfl rfl ?_)
                                            refine Calls.mono (of_calls _ hw) ?_
                                            rintro _ w ⟨rfl, hw⟩
                                            refine ⟨_, rfl, ?_⟩
                                            refine ⟨fun _ => (by first | exact hw | exact Sat.sub hw (by (repeat (first | with_reducible exact Sub.refl _ | exact Sub.nil _ | (apply Sub.cons; focus ((repeat (first | with_reducible exact Pick.here _ | apply Pick.there)); (first | done | fail))) | with_reducible apply Sub.drop)); first | done | fail) | exact Sat.sub (Sat.shrink (Sat.pick hw (by (repeat (first | with_reducible exact Pick.here _ | apply Pick.there)); first | done | fail)) (by assumption)) (by (repeat (first | with_reducible exact Sub.refl _ | exact Sub.nil _ | (apply Sub.cons; focus ((repeat (first | with_reducible exact Pick.here _ | apply Pick.there)); (first | done | fail))) | with_reducible apply Sub.drop)); first | done | fail)), ?_⟩
                                            refine rs_kvg 13 rfl (met_on rfl rfl rfl rfl) rfl rfl (S' := fun _ => True) trivial (v_eqlAgg T.cmp_34_iiii rfl rfl rfl rfl (by first | exact eq_Rf _ _ | rfl)) ?_
                                            first | (refine rs_kv 14 rfl rfl rfl rfl (S' := fun _ => True) trivial (v_pick_true rfl rfl) ?_) | (refine rs_kv 14 rfl rfl rfl rfl (S' := fun _ => True) trivial (v_pick_false rfl rfl) ?_) | (refine rs_kv 14 rfl rfl rfl rfl (S' := fun _ => True) trivial (v_pick rfl rfl rfl) ?_)
                                            refine rs_done (g_le (Fr.le_keep (Fr.le_keep (Fr.le_keep (Fr.le_keep (Fr.le_keep (Fr.le_keep (Fr.le_keep (Fr.le_keep (Fr.le_keep (Fr.le_keep (Fr.le_keep (Fr.le_keep (Fr.le_keep (Fr.le_keep (Fr.le_keep (Fr.le_keep (Fr.le_keep (Fr.le_refl _)))))))))))))))))) ?_)
                                            refine g_cond rfl (fun h6 => ?_) (fun h6 => ?_)
                                            · try with_reducible exact ft_elim h6
                                              all_goals
                                                try replace h6 := of_decide_eq_true h6
                                                try (first | (exfalso; omega))
                                                all_goals
                                                  refine g_seq ?_
                                                  refine g_region ?_
                                                  first | (refine rl_v rfl rfl rfl (S := fun _ => True) trivial (v_fieldAddr0 T.fld_49_2_2 rfl) ?_) | (refine rl_v rfl rfl rfl (S := fun _ => True) trivial (v_fieldAddr T.fld_49_2_2 rfl) ?_)
                                                  refine rl_v rfl rfl rfl (by first | exact sat_cells hw (by (repeat (first | with_reducible exact Pick.here _ | apply Pick.there)); first | done | fail) ⟨rfl, rfl, rfl, trivial⟩ | exact ro_ats hw (by (repeat (first | with_reducible exact Pick.here _ | apply Pick.there)); first | done | fail) (by assumption) | exact own_cells hw (by (repeat (first | with_reducible exact Pick.here _ | apply Pick.there)); first | done | fail) (by assumption) | exact old_cells hw (by (repeat (first | with_reducible exact Pick.here _ | apply Pick.there)); first | done | fail) (by assumption)) (v_loadAgg (vs := [_, _, _]) T.agg_25_3 rfl rfl) ?_
                                                  first | (refine rl_k rfl (k_storeWhole hw T.agg_25_3 rfl rfl (by simp [Value.oneCell']) rfl (by (repeat (first | with_reducible exact Pick.here _ | apply Pick.there)); first | done | fail) rfl (fun w hw => ?_))) | (refine rl_k rfl (k_storeAgg hw T.agg_25_3 rfl rfl (by simp [Value.oneCell']) rfl (by (repeat (first | with_reducible exact Pick.here _ | apply Pick.there)); first | done | fail) rfl rfl (fun w hw => ?_))) | (refine rl_k rfl (k_storeOwnAgg hw T.agg_25_3 rfl rfl (by simp [Value.oneCell']) rfl (by (repeat (first | with_reducible exact Pick.here _ | apply Pick.there)); first | done | fail) (by assumption) (by omega) (fun w hw => ?_)))
                                                  refine rl_nil (g_le (Fr.le_keep (Fr.le_keep (Fr.le_refl _))) ?_)
                                                  refine g_region ?_
                                                  refine rl_v rfl rfl rfl (S := fun _ => True) trivial (v_assign rfl) ?_
                                                  refine rl_nil (g_le (Fr.le_keep (Fr.le_refl _)) ?_)
                                                  refine g_inBlock ?_
                                                  refine g_region ?_
                                                  first | (refine rl_v rfl rfl rfl (S := fun _ => True) trivial (v_add rfl rfl (by omega)) ?_) | (refine rl_v rfl rfl rfl (S := fun _ => True) trivial (v_addW rfl rfl) ?_)
                                                  refine rl_v rfl rfl rfl (S := fun _ => True) trivial (v_move rfl) ?_
                                                  refine rl_nil (g_le (Fr.le_keep (Fr.le_keep (Fr.le_refl _))) ?_)
                                                  exact g_le (by repeat (first | exact Fr.le_nil _ | refine Fr.le_cons rfl ?_)) (ih (i + 1, x.n, true, qa1, qn1, qk1, qa2, qn2, qk2) w ⟨by simp only; omega, by simp only; omega, htk.trans (stepPut (by omega) h6), hnd, hw.sub (by (repeat (first | with_reducible exact Sub.refl _ | exact Sub.nil _ | (apply Sub.cons; focus ((repeat (first | with_reducible exact Pick.here _ | apply Pick.there)); (first | done | fail))) | with_reducible apply Sub.drop)); first | done | fail)⟩ (by simp only; omega))
                                            · try with_reducible exact tf_elim h6
                                              all_goals
                                                try replace h6 := of_decide_eq_false h6
                                                try (first | (exfalso; omega))
                                                all_goals
                                                  refine g_skip (g_inBlock ?_)
                                                  refine g_region ?_
                                                  first | (refine rl_v rfl rfl rfl (S := fun _ => True) trivial (v_add rfl rfl (by omega)) ?_) | (refine rl_v rfl rfl rfl (S := fun _ => True) trivial (v_addW rfl rfl) ?_)
                                                  refine rl_v rfl rfl rfl (S := fun _ => True) trivial (v_move rfl) ?_
                                                  refine rl_nil (g_le (Fr.le_keep (Fr.le_keep (Fr.le_refl _))) ?_)
                                                  first | exact g_le (by repeat (first | exact Fr.le_nil _ | refine Fr.le_cons rfl ?_)) (ih (i + 1, p, false, ea, en, ec, ka, kn, kc) w ⟨by simp only; omega, by simp only; omega, htk.trans (step5 h3), hnp, hw.sub (by (repeat (first | with_reducible exact Sub.refl _ | exact Sub.nil _ | (apply Sub.cons; focus ((repeat (first | with_reducible exact Pick.here _ | apply Pick.there)); (first | done | fail))) | with_reducible apply Sub.drop)); first | done | fail)⟩ (by simp only; omega)) | exact g_le (by repeat (first | exact Fr.le_nil _ | refine Fr.le_cons rfl ?_)) (ih (i + 1, p, bb, ea, en, ec, ka, kn, kc) w ⟨by simp only; omega, by simp only; omega, htk.trans (hbb ▸ step4 h4), hnp, hw.sub (by (repeat (first | with_reducible exact Sub.refl _ | exact Sub.nil _ | (apply Sub.cons; focus ((repeat (first | with_reducible exact Pick.here _ | apply Pick.there)); (first | done | fail))) | with_reducible apply Sub.drop)); first | done | fail)⟩ (by simp only; omega)) | exact g_le (by repeat (first | exact Fr.le_nil _ | refine Fr.le_cons rfl ?_)) (ih (i + 1, p, b, ea, en, ec, ka, kn, kc) w ⟨by simp only; omega, by simp only; omega, htk.trans (stepNo h3 h4 (fun hh => by first | exact h6 hh.2 | omega)), hnp, hw.sub (by (repeat (first | with_reducible exact Sub.refl _ | exact Sub.nil _ | (apply Sub.cons; focus ((repeat (first | with_reducible exact Pick.here _ | apply Pick.there)); (first | done | fail))) | with_reducible apply Sub.drop)); first | done | fail)⟩ (by simp only; omega))
                                      · try with_reducible exact tf_elim g15_8
                                        all_goals
                                          try replace g15_8 := of_decide_eq_false g15_8
                                          try (first | (exfalso; omega))
                                          all_goals
                                            refine rs_aoff 9 rfl (met_off rfl rfl rfl rfl rfl) rfl rfl ?_
                                            refine rs_voff 10 rfl (met_off rfl rfl rfl rfl rfl) rfl rfl (by first | exact hw | exact Sat.sub hw (by (repeat (first | with_reducible exact Sub.refl _ | exact Sub.nil _ | (apply Sub.cons; focus ((repeat (first | with_reducible exact Pick.here _ | apply Pick.there)); (first | done | fail))) | with_reducible apply Sub.drop)); first | done | fail)) ?_
                                            refine rs_voff 12 rfl (met_off rfl rfl rfl rfl rfl) rfl rfl (by first | exact hw | exact Sat.sub hw (by (repeat (first | with_reducible exact Sub.refl _ | exact Sub.nil _ | (apply Sub.cons; focus ((repeat (first | with_reducible exact Pick.here _ | apply Pick.there)); (first | done | fail))) | with_reducible apply Sub.drop)); first | done | fail)) ?_
                                            refine rs_koff 11 rfl (met_off rfl rfl rfl rfl rfl) rfl rfl ?_
                                            refine rs_koff 13 rfl (met_off rfl rfl rfl rfl rfl) rfl rfl ?_
                                            first | (refine rs_kv 14 rfl rfl rfl rfl (S' := fun _ => True) trivial (v_pick_true rfl rfl) ?_) | (refine rs_kv 14 rfl rfl rfl rfl (S' := fun _ => True) trivial (v_pick_false rfl rfl) ?_) | (refine rs_kv 14 rfl rfl rfl rfl (S' := fun _ => True) trivial (v_pick rfl rfl rfl) ?_)
                                            refine rs_done (g_le (Fr.le_keep (Fr.le_keep (Fr.le_keep (Fr.le_keep (Fr.le_keep (Fr.le_keep (Fr.le_keep (Fr.le_keep (Fr.le_keep (Fr.le_keep (Fr.le_keep (Fr.le_keep (Fr.le_keep (Fr.le_keep (Fr.le_keep (Fr.le_keep (Fr.le_keep (Fr.le_refl _)))))))))))))))))) ?_)
                                            refine g_cond_false rfl ?_
                                            refine g_skip (g_inBlock ?_)
                                            refine g_region ?_
                                            first | (refine rl_v rfl rfl rfl (S := fun _ => True) trivial (v_add rfl rfl (by omega)) ?_) | (refine rl_v rfl rfl rfl (S := fun _ => True) trivial (v_addW rfl rfl) ?_)
                                            refine rl_v rfl rfl rfl (S := fun _ => True) trivial (v_move rfl) ?_
                                            refine rl_nil (g_le (Fr.le_keep (Fr.le_keep (Fr.le_refl _))) ?_)
                                            first | exact g_le (by repeat (first | exact Fr.le_nil _ | refine Fr.le_cons rfl ?_)) (ih (i + 1, p, false, ea, en, ec, ka, kn, kc) w ⟨by simp only; omega, by simp only; omega, htk.trans (step5 h3), hnp, hw.sub (by (repeat (first | with_reducible exact Sub.refl _ | exact Sub.nil _ | (apply Sub.cons; focus ((repeat (first | with_reducible exact Pick.here _ | apply Pick.there)); (first | done | fail))) | with_reducible apply Sub.drop)); first | done | fail)⟩ (by simp only; omega)) | exact g_le (by repeat (first | exact Fr.le_nil _ | refine Fr.le_cons rfl ?_)) (ih (i + 1, p, bb, ea, en, ec, ka, kn, kc) w ⟨by simp only; omega, by simp only; omega, htk.trans (hbb ▸ step4 h4), hnp, hw.sub (by (repeat (first | with_reducible exact Sub.refl _ | exact Sub.nil _ | (apply Sub.cons; focus ((repeat (first | with_reducible exact Pick.here _ | apply Pick.there)); (first | done | fail))) | with_reducible apply Sub.drop)); first | done | fail)⟩ (by simp only; omega)) | exact g_le (by repeat (first | exact Fr.le_nil _ | refine Fr.le_cons rfl ?_)) (ih (i + 1, p, b, ea, en, ec, ka, kn, kc) w ⟨by simp only; omega, by simp only; omega, htk.trans (stepNo h3 h4 (fun hh => by first | exact h6 hh.2 | omega)), hnp, hw.sub (by (repeat (first | with_reducible exact Sub.refl _ | exact Sub.nil _ | (apply Sub.cons; focus ((repeat (first | with_reducible exact Pick.here _ | apply Pick.there)); (first | done | fail))) | with_reducible apply Sub.drop)); first | done | fail)⟩ (by simp only; omega))
                    · try with_reducible exact tf_elim h4
                      all_goals
                        try replace h4 := of_decide_eq_false h4
                        try (first | (exfalso; omega))
                        all_goals
                          refine g_skip (g_seq ?_)
                          refine g_drawR ord_f24_r15_C15l (by kernel_rfl) T.mixed hw (fun w hw => ?_)
                          first | (refine rs_kv 0 rfl rfl rfl rfl (S' := fun _ => True) trivial (v_fieldAddr0 T.fld_49_0_0 rfl) ?_) | (refine rs_kv 0 rfl rfl rfl rfl (S' := fun _ => True) trivial (v_fieldAddr T.fld_49_0_0 rfl) ?_)
                          refine rs_kv 1 rfl rfl rfl rfl (by first | exact sat_cell hw (by (repeat (first | with_reducible exact Pick.here _ | apply Pick.there)); first | done | fail) rfl | exact own_cell hw (by (repeat (first | with_reducible exact Pick.here _ | apply Pick.there)); first | done | fail) (by first | rfl | assumption) | exact ro_at0 hw (by (repeat (first | with_reducible exact Pick.here _ | apply Pick.there)); first | done | fail) (by assumption) rfl | exact ro_at hw (by (repeat (first | with_reducible exact Pick.here _ | apply Pick.there)); first | done | fail) (by assumption) rfl | exact own_at0 hw (by (repeat (first | with_reducible exact Pick.here _ | apply Pick.there)); first | done | fail) (by assumption) rfl | exact own_at hw (by (repeat (first | with_reducible exact Pick.here _ | apply Pick.there)); first | done | fail) (by assumption) rfl | exact old_cell hw (by (repeat (first | with_reducible exact Pick.here _ | apply Pick.there)); first | done | fail) (by assumption) | assumption) (v_load T.scal_3 rfl) ?_
                          first | (refine rs_kv 2 rfl rfl rfl rfl (S' := fun _ => True) trivial (v_lssT rfl rfl (by omega)) ?_) | (refine rs_kv 2 rfl rfl rfl rfl (S' := fun _ => True) trivial (v_lssF rfl rfl (by omega)) ?_) | (refine rs_kv 2 rfl rfl rfl rfl (S' := fun _ => True) trivial (v_lss rfl rfl) ?_)
                          refine rs_kv 3 rfl rfl rfl rfl (S' := fun _ => True) trivial (v_move rfl) ?_
                          refine rs_split (s := 51) rfl (fun g15_3 => ?_) (fun g15_3 => ?_)
                          · try with_reducible exact ft_elim g15_3
                            all_goals
                              try replace g15_3 := of_decide_eq_true g15_3
                              try (first | (exfalso; omega))
                              all_goals
                                refine rs_koff 4 rfl (met_off rfl rfl rfl rfl rfl) rfl rfl ?_
                                refine rs_koff 5 rfl (met_off rfl rfl rfl rfl rfl) rfl rfl ?_
                                refine rs_koff 6 rfl (met_off rfl rfl rfl rfl rfl) rfl rfl ?_
                                first | (refine rs_kv 7 rfl rfl rfl rfl (S' := fun _ => True) trivial (v_pick_true rfl rfl) ?_) | (refine rs_kv 7 rfl rfl rfl rfl (S' := fun _ => True) trivial (v_pick_false rfl rfl) ?_) | (refine rs_kv 7 rfl rfl rfl rfl (S' := fun _ => True) trivial (v_pick rfl rfl rfl) ?_)
                                refine rs_kv 8 rfl rfl rfl rfl (S' := fun _ => True) trivial (v_move rfl) ?_
                                first | (refine rs_ag 9 rfl (met_on rfl rfl rfl rfl) rfl rfl (v_fieldAddr0 T.fld_49_1_1 rfl) ?_) | (refine rs_ag 9 rfl (met_on rfl rfl rfl rfl) rfl rfl (v_fieldAddr T.fld_49_1_1 rfl) ?_)
                                refine rs_vg 10 rfl (met_on rfl rfl rfl rfl) rfl rfl (OpV.mono (v_load T.scal_3 rfl) (fun w hw => by first | exact sat_cell hw (by (repeat (first | with_reducible exact Pick.here _ | apply Pick.there)); first | done | fail) rfl | exact own_cell hw (by (repeat (first | with_reducible exact Pick.here _ | apply Pick.there)); first | done | fail) (by first | rfl | assumption) | exact ro_at0 hw (by (repeat (first | with_reducible exact Pick.here _ | apply Pick.there)); first | done | fail) (by assumption) rfl | exact ro_at hw (by (repeat (first | with_reducible exact Pick.here _ | apply Pick.there)); first | done | fail) (by assumption) rfl | exact own_at0 hw (by (repeat (first | with_reducible exact Pick.here _ | apply Pick.there)); first | done | fail) (by assumption) rfl | exact own_at hw (by (repeat (first | with_reducible exact Pick.here _ | apply Pick.there)); first | done | fail) (by assumption) rfl | exact old_cell hw (by (repeat (first | with_reducible exact Pick.here _ | apply Pick.there)); first | done | fail) (by assumption) | assumption)) (by first | exact hw | exact Sat.sub hw (by (repeat (first | with_reducible exact Sub.refl _ | exact Sub.nil _ | (apply Sub.cons; focus ((repeat (first | with_reducible exact Pick.here _ | apply Pick.there)); (first | done | fail))) | with_reducible apply Sub.drop)); first | done | fail)) ?_
                                refine rs_vg 12 rfl (met_on rfl rfl rfl rfl) rfl rfl (OpV.mono (v_loadAgg (vs := [_, _, _, _]) T.agg_34_4 rfl rfl) (fun w hw => by first | exact sat_cells hw (by (repeat (first | with_reducible exact Pick.here _ | apply Pick.there)); first | done | fail) ⟨rfl, rfl, rfl, rfl, trivial⟩ | exact ro_ats hw (by (repeat (first | with_reducible exact Pick.here _ | apply Pick.there)); first | done | fail) (by assumption) | exact own_cells hw (by (repeat (first | with_reducible exact Pick.here _ | apply Pick.there)); first | done | fail) (by assumption) | exact old_cells hw (by (repeat (first | with_reducible exact Pick.here _ | apply Pick.there)); first | done | fail) (by assumption))) (by first | exact hw | exact Sat.sub hw (by (repeat (first | with_reducible exact Sub.refl _ | exact Sub.nil _ | (apply Sub.cons; focus ((repeat (first | with_reducible exact Pick.here _ | apply Pick.there)); (first | done | fail))) | with_reducible apply Sub.drop)); first | done | fail)) ?_
                                refine rs_kg 11 rfl (met_on rfl rfl rfl rfl) (k_callf Try.func11 rfl rfl rfl rfl ?_)
                                refine Calls.mono (of_calls _ hw) ?_
                                rintro _ w ⟨rfl, hw⟩
                                refine ⟨_, rfl, ?_⟩
                                refine ⟨fun _ => (by first | exact hw | exact Sat.sub hw (by (repeat (first | with_reducible exact Sub.refl _ | exact Sub.nil _ | (apply Sub.cons; focus ((repeat (first | with_reducible exact Pick.here _ | apply Pick.there)); (first | done | fail))) | with_reducible apply Sub.drop)); first | done | fail) | exact Sat.sub (Sat.shrink (Sat.pick hw (by (repeat (first | with_reducible exact Pick.here _ | apply Pick.there)); first | done | fail)) (by assumption)) (by (repeat (first | with_reducible exact Sub.refl _ | exact Sub.nil _ | (apply Sub.cons; focus ((repeat (first | with_reducible exact Pick.here _ | apply Pick.there)); (first | done | fail))) | with_reducible apply Sub.drop)); first | done | fail)), ?_⟩
                                refine rs_kvg 13 rfl (met_on rfl rfl rfl rfl) rfl rfl (S' := fun _ => True) trivial (v_eqlAgg T.cmp_34_iiii rfl rfl rfl rfl (by first | exact eq_Rf _ _ | rfl)) ?_
                                first | (refine rs_kv 14 rfl rfl rfl rfl (S' := fun _ => True) trivial (v_pick_true rfl rfl) ?_) | (refine rs_kv 14 rfl rfl rfl rfl (S' := fun _ => True) trivial (v_pick_false rfl rfl) ?_) | (refine rs_kv 14 rfl rfl rfl rfl (S' := fun _ => True) trivial (v_pick rfl rfl rfl) ?_)
                                refine rs_done (g_le (Fr.le_keep (Fr.le_keep (Fr.le_keep (Fr.le_keep (Fr.le_keep (Fr.le_keep (Fr.le_keep (Fr.le_keep (Fr.le_keep (Fr.le_keep (Fr.le_keep (Fr.le_keep (Fr.le_keep (Fr.le_keep (Fr.le_keep (Fr.le_keep (Fr.le_refl _))))))))))))))))) ?_)
                                refine g_cond rfl (fun h6 => ?_) (fun h6 => ?_)
                                · try with_reducible exact ft_elim h6
                                  all_goals
                                    try replace h6 := of_decide_eq_true h6
                                    try (first | (exfalso; omega))
                                    all_goals
                                      refine g_seq ?_
                                      refine g_region ?_
                                      first | (refine rl_v rfl rfl rfl (S := fun _ => True) trivial (v_fieldAddr0 T.fld_49_2_2 rfl) ?_) | (refine rl_v rfl rfl rfl (S := fun _ => True) trivial (v_fieldAddr T.fld_49_2_2 rfl) ?_)
                                      refine rl_v rfl rfl rfl (by first | exact sat_cells hw (by (repeat (first | with_reducible exact Pick.here _ | apply Pick.there)); first | done | fail) ⟨rfl, rfl, rfl, trivial⟩ | exact ro_ats hw (by (repeat (first | with_reducible exact Pick.here _ | apply Pick.there)); first | done | fail) (by assumption) | exact own_cells hw (by (repeat (first | with_reducible exact Pick.here _ | apply Pick.there)); first | done | fail) (by assumption) | exact old_cells hw (by (repeat (first | with_reducible exact Pick.here _ | apply Pick.there)); first | done | fail) (by assumption)) (v_loadAgg (vs := [_, _, _]) T.agg_25_3 rfl rfl) ?_
                                      first | (refine rl_k rfl (k_storeWhole hw T.agg_25_3 rfl rfl (by simp [Value.oneCell']) rfl (by (repeat (first | with_reducible exact Pick.here _ | apply Pick.there)); first | done | fail) rfl (fun w hw => ?_))) | (refine rl_k rfl (k_storeAgg hw T.agg_25_3 rfl rfl (by simp [Value.oneCell']) rfl (by (repeat (first | with_reducible exact Pick.here _ | apply Pick.there)); first | done | fail) rfl rfl (fun w hw => ?_))) | (refine rl_k rfl (k_storeOwnAgg hw T.agg_25_3 rfl rfl (by simp [Value.oneCell']) rfl (by (repeat (first | with_reducible exact Pick.here _ | apply Pick.there)); first | done | fail) (by assumption) (by omega) (fun w hw => ?_)))
                                      refine rl_nil (g_le (Fr.le_keep (Fr.le_keep (Fr.le_refl _))) ?_)
                                      refine g_region ?_
                                      refine rl_v rfl rfl rfl (S := fun _ => True) trivial (v_assign rfl) ?_
                                      refine rl_nil (g_le (Fr.le_keep (Fr.le_refl _)) ?_)
                                      refine g_inBlock ?_
                                      refine g_region ?_
                                      first | (refine rl_v rfl rfl rfl (S := fun _ => True) trivial (v_add rfl rfl (by omega)) ?_) | (refine rl_v rfl rfl rfl (S := fun _ => True) trivial (v_addW rfl rfl) ?_)
                                      refine rl_v rfl rfl rfl (S := fun _ => True) trivial (v_move rfl) ?_
                                      refine rl_nil (g_le (Fr.le_keep (Fr.le_keep (Fr.le_refl _))) ?_)
                                      exact g_le (by repeat (first | exact Fr.le_nil _ | refine Fr.le_cons rfl ?_)) (ih (i + 1, x.n, true, qa1, qn1, qk1, qa2, qn2, qk2) w ⟨by simp only; omega, by simp only; omega, htk.trans (stepPut (by omega) h6), hnd, hw.sub (by (repeat (first | with_reducible exact Sub.refl _ | exact Sub.nil _ | (apply Sub.cons; focus ((repeat (first | with_reducible exact Pick.here _ | apply Pick.there)); (first | done | fail))) | with_reducible apply Sub.drop)); first | done | fail)⟩ (by simp only; omega))
                                · try with_reducible exact tf_elim h6
                                  all_goals
                                    try replace h6 := of_decide_eq_false h6
                                    try (first | (exfalso; omega))
                                    all_goals
                                      refine g_skip (g_inBlock ?_)
                                      refine g_region ?_
                                      first | (refine rl_v rfl rfl rfl (S := fun _ => True) trivial (v_add rfl rfl (by omega)) ?_) | (refine rl_v rfl rfl rfl (S := fun _ => True) trivial (v_addW rfl rfl) ?_)
                                      refine rl_v rfl rfl rfl (S := fun _ => True) trivial (v_move rfl) ?_
                                      refine rl_nil (g_le (Fr.le_keep (Fr.le_keep (Fr.le_refl _))) ?_)
                                      first | exact g_le (by repeat (first | exact Fr.le_nil _ | refine Fr.le_cons rfl ?_)) (ih (i + 1, p, false, ea, en, ec, ka, kn, kc) w ⟨by simp only; omega, by simp only; omega, htk.trans (step5 h3), hnp, hw.sub (by (repeat (first | with_reducible exact Sub.refl _ | exact Sub.nil _ | (apply Sub.cons; focus ((repeat (first | with_reducible exact Pick.here _ | apply Pick.there)); (first | done | fail))) | with_reducible apply Sub.drop)); first | done | fail)⟩ (by simp only; omega)) | exact g_le (by repeat (first | exact Fr.le_nil _ | refine Fr.le_cons rfl ?_)) (ih (i + 1, p, bb, ea, en, ec, ka, kn, kc) w ⟨by simp only; omega, by simp only; omega, htk.trans (hbb ▸ step4 h4), hnp, hw.sub (by (repeat (first | with_reducible exact Sub.refl _ | exact Sub.nil _ | (apply Sub.cons; focus ((repeat (first | with_reducible exact Pick.here _ | apply Pick.there)); (first | done | fail))) | with_reducible apply Sub.drop)); first | done | fail)⟩ (by simp only; omega)) | exact g_le (by repeat (first | exact Fr.le_nil _ | refine Fr.le_cons rfl ?_)) (ih (i + 1, p, b, ea, en, ec, ka, kn, kc) w ⟨by simp only; omega, by simp only; omega, htk.trans (stepNo h3 h4 (fun hh => by first | exact h6 hh.2 | omega)), hnp, hw.sub (by (repeat (first | with_reducible exact Sub.refl _ | exact Sub.nil _ | (apply Sub.cons; focus ((repeat (first | with_reducible exact Pick.here _ | apply Pick.there)); (first | done | fail))) | with_reducible apply Sub.drop)); first | done | fail)⟩ (by simp only; omega))
                          · try with_reducible exact tf_elim g15_3
                            all_goals
                              try replace g15_3 := of_decide_eq_false g15_3
                              try (first | (exfalso; omega))
                              all_goals
                                first | (refine rs_kvg 4 rfl (met_on rfl rfl rfl rfl) rfl rfl (S' := fun _ => True) trivial (v_fieldAddr0 T.fld_49_0_0 rfl) ?_) | (refine rs_kvg 4 rfl (met_on rfl rfl rfl rfl) rfl rfl (S' := fun _ => True) trivial (v_fieldAddr T.fld_49_0_0 rfl) ?_)
                                refine rs_kvg 5 rfl (met_on rfl rfl rfl rfl) rfl rfl (by first | exact sat_cell hw (by (repeat (first | with_reducible exact Pick.here _ | apply Pick.there)); first | done | fail) rfl | exact own_cell hw (by (repeat (first | with_reducible exact Pick.here _ | apply Pick.there)); first | done | fail) (by first | rfl | assumption) | exact ro_at0 hw (by (repeat (first | with_reducible exact Pick.here _ | apply Pick.there)); first | done | fail) (by assumption) rfl | exact ro_at hw (by (repeat (first | with_reducible exact Pick.here _ | apply Pick.there)); first | done | fail) (by assumption) rfl | exact own_at0 hw (by (repeat (first | with_reducible exact Pick.here _ | apply Pick.there)); first | done | fail) (by assumption) rfl | exact own_at hw (by (repeat (first | with_reducible exact Pick.here _ | apply Pick.there)); first | done | fail) (by assumption) rfl | exact old_cell hw (by (repeat (first | with_reducible exact Pick.here _ | apply Pick.there)); first | done | fail) (by assumption) | assumption) (v_load T.scal_3 rfl) ?_
                                first | (refine rs_kvg 6 rfl (met_on rfl rfl rfl rfl) rfl rfl (S' := fun _ => True) trivial (v_gtrT rfl rfl (by omega)) ?_) | (refine rs_kvg 6 rfl (met_on rfl rfl rfl rfl) rfl rfl (S' := fun _ => True) trivial (v_gtrF rfl rfl (by omega)) ?_) | (refine rs_kvg 6 rfl (met_on rfl rfl rfl rfl) rfl rfl (S' := fun _ => True) trivial (v_gtr rfl rfl) ?_)
                                first | (refine rs_kv 7 rfl rfl rfl rfl (S' := fun _ => True) trivial (v_pick_true rfl rfl) ?_) | (refine rs_kv 7 rfl rfl rfl rfl (S' := fun _ => True) trivial (v_pick_false rfl rfl) ?_) | (refine rs_kv 7 rfl rfl rfl rfl (S' := fun _ => True) trivial (v_pick rfl rfl rfl) ?_)
                                refine rs_kv 8 rfl rfl rfl rfl (S' := fun _ => True) trivial (v_move rfl) ?_
                                refine rs_split (s := 56) rfl (fun g15_8 => ?_) (fun g15_8 => ?_)
                                · try with_reducible exact ft_elim g15_8
                                  all_goals
                                    try replace g15_8 := of_decide_eq_true g15_8
                                    try (first | (exfalso; omega))
                                    all_goals
                                      first | (refine rs_ag 9 rfl (met_on rfl rfl rfl rfl) rfl rfl (v_fieldAddr0 T.fld_49_1_1 rfl) ?_) | (refine rs_ag 9 rfl (met_on rfl rfl rfl rfl) rfl rfl (v_fieldAddr T.fld_49_1_1 rfl) ?_)
                                      refine rs_vg 10 rfl (met_on rfl rfl rfl rfl) rfl rfl (OpV.mono (v_load T.scal_3 rfl) (fun w hw => by first | exact sat_cell hw (by (repeat (first | with_reducible exact Pick.here _ | apply Pick.there)); first | done | fail) rfl | exact own_cell hw (by (repeat (first | with_reducible exact Pick.here _ | apply Pick.there)); first | done | fail) (by first | rfl | assumption) | exact ro_at0 hw (by (repeat (first | with_reducible exact Pick.here _ | apply Pick.there)); first | done | fail) (by assumption) rfl | exact ro_at hw (by (repeat (first | with_reducible exact Pick.here _ | apply Pick.there)); first | done | fail) (by assumption) rfl | exact own_at0 hw (by (repeat (first | with_reducible exact Pick.here _ | apply Pick.there)); first | done | fail) (by assumption) rfl | exact own_at hw (by (repeat (first | with_reducible exact Pick.here _ | apply Pick.there)); first | done | fail) (by assumption) rfl | exact old_cell hw (by (repeat (first | with_reducible exact Pick.here _ | apply Pick.there)); first | done | fail) (by assumption) | assumption)) (by first | exact hw | exact Sat.sub hw (by (repeat (first | with_reducible exact Sub.refl _ | exact Sub.nil _ | (apply Sub.cons; focus ((repeat (first | with_reducible exact Pick.here _ | apply Pick.there)); (first | done | fail))) | with_reducible apply Sub.drop)); first | done | fail)) ?_
                                      refine rs_vg 12 rfl (met_on rfl rfl rfl rfl) rfl rfl (OpV.mono (v_loadAgg (vs := [_, _, _, _]) T.agg_34_4 rfl rfl) (fun w hw => by first | exact sat_cells hw (by (repeat (first | with_reducible exact Pick.here _ | apply Pick.there)); first | done | fail) ⟨rfl, rfl, rfl, rfl, trivial⟩ | exact ro_ats hw (by (repeat (first | with_reducible exact Pick.here _ | apply Pick.there)); first | done | fail) (by assumption) | exact own_cells hw (by (repeat (first | with_reducible exact Pick.here _ | apply Pick.there)); first | done | fail) (by assumption) | exact old_cells hw (by (repeat (first | with_reducible exact Pick.here _ | apply Pick.there)); first | done | fail) (by assumption))) (by first | exact hw | exact Sat.sub hw (by (repeat (first | with_reducible exact Sub.refl _ | exact Sub.nil _ | (apply Sub.cons; focus ((repeat (first | with_reducible exact Pick.here _ | apply Pick.there)); (first | done | fail))) | with_reducible apply Sub.drop)); first | done | fail)) ?_
                                      refine rs_kg 11 rfl (met_on rfl rfl rfl rfl) (k_callf Try.func11 rfl rfl rfl rfl ?_)
                                      refine Calls.mono (of_calls _ hw) ?_
                                      rintro _ w ⟨rfl, hw⟩
                                      refine ⟨_, rfl, ?_⟩
                                      refine ⟨fun _ => (by first | exact hw | exact Sat.sub hw (by (repeat (first | with_reducible exact Sub.refl _ | exact Sub.nil _ | (apply Sub.cons; focus ((repeat (first | with_reducible exact Pick.here _ | apply Pick.there)); (first | done | fail))) | with_reducible apply Sub.drop)); first | done | fail) | exact Sat.sub (Sat.shrink (Sat.pick hw (by (repeat (first | with_reducible exact Pick.here _ | apply Pick.there)); first | done | fail)) (by assumption)) (by (repeat (first | with_reducible exact Sub.refl _ | exact Sub.nil _ | (apply Sub.cons; focus ((repeat (first | with_reducible exact Pick.here _ | apply Pick.there)); (first | done | fail))) | with_reducible apply Sub.drop)); first | done | fail)), ?_⟩
                                      refine rs_kvg 13 rfl (met_on rfl rfl rfl rfl) rfl rfl (S' := fun _ => True) trivial (v_eqlAgg T.cmp_34_iiii rfl rfl rfl rfl (by first | exact eq_Rf _ _ | rfl)) ?_
                                      first | (refine rs_kv 14 rfl rfl rfl rfl (S' := fun _ => True) trivial (v_pick_true rfl rfl) ?_) | (refine rs_kv 14 rfl rfl rfl rfl (S' := fun _ => True) trivial (v_pick_false rfl rfl) ?_) | (refine rs_kv 14 rfl rfl rfl rfl (S' := fun _ => True) trivial (v_pick rfl rfl rfl) ?_)
                                      refine rs_done (g_le (Fr.le_keep (Fr.le_keep (Fr.le_keep (Fr.le_keep (Fr.le_keep (Fr.le_keep (Fr.le_keep (Fr.le_keep (Fr.le_keep (Fr.le_keep (Fr.le_keep (Fr.le_keep (Fr.le_keep (Fr.le_keep (Fr.le_keep (Fr.le_keep (Fr.le_keep (Fr.le_refl _)))))))))))))))))) ?_)
                                      refine g_cond rfl (fun h6 => ?_) (fun h6 => ?_)
                                      · try with_reducible exact ft_elim h6
                                        all_goals
                                          try replace h6 := of_decide_eq_true h6
                                          try (first | (exfalso; omega))
                                          all_goals
                                            refine g_seq ?_
                                            refine g_region ?_
                                            first | (refine rl_v rfl rfl rfl (S := fun _ => True) trivial (v_fieldAddr0 T.fld_49_2_2 rfl) ?_) | (refine rl_v rfl rfl rfl (S := fun _ => True) trivial (v_fieldAddr T.fld_49_2_2 rfl) ?_)
                                            refine rl_v rfl rfl rfl (by first | exact sat_cells hw (by (repeat (first | with_reducible exact Pick.here _ | apply Pick.there)); first | done | fail) ⟨rfl, rfl, rfl, trivial⟩ | exact ro_ats hw (by (repeat (first | with_reducible exact Pick.here _ | apply Pick.there)); first | done | fail) (by assumption) | exact own_cells hw (by (repeat (first | with_reducible exact Pick.here _ | apply Pick.there)); first | done | fail) (by assumption) | exact old_cells hw (by (repeat (first | with_reducible exact Pick.here _ | apply Pick.there)); first | done | fail) (by assumption)) (v_loadAgg (vs := [_, _, _]) T.agg_25_3 rfl rfl) ?_
                                            first | (refine rl_k rfl (k_storeWhole hw T.agg_25_3 rfl rfl (by simp [Value.oneCell']) rfl (by (repeat (first | with_reducible exact Pick.here _ | apply Pick.there)); first | done | fail) rfl (fun w hw => ?_))) | (refine rl_k rfl (k_storeAgg hw T.agg_25_3 rfl rfl (by simp [Value.oneCell']) rfl (by (repeat (first | with_reducible exact Pick.here _ | apply Pick.there)); first | done | fail) rfl rfl (fun w hw => ?_))) | (refine rl_k rfl (k_storeOwnAgg hw T.agg_25_3 rfl rfl (by simp [Value.oneCell']) rfl (by (repeat (first | with_reducible exact Pick.here _ | apply Pick.there)); first | done | fail) (by assumption) (by omega) (fun w hw => ?_)))
                                            refine rl_nil (g_le (Fr.le_keep (Fr.le_keep (Fr.le_refl _))) ?_)
                                            refine g_region ?_
                                            refine rl_v rfl rfl rfl (S := fun _ => True) trivial (v_assign rfl) ?_
                                            refine rl_nil (g_le (Fr.le_keep (Fr.le_refl _)) ?_)
                                            refine g_inBlock ?_
                                            refine g_region ?_
                                            first | (refine rl_v rfl rfl rfl (S := fun _ => True) trivial (v_add rfl rfl (by omega)) ?_) | (refine rl_v rfl rfl rfl (S := fun _ => True) trivial (v_addW rfl rfl) ?_)
                                            refine rl_v rfl rfl rfl (S := fun _ => True) trivial (v_move rfl) ?_
                                            refine rl_nil (g_le (Fr.le_keep (Fr.le_keep (Fr.le_refl _))) ?_)
                                            exact g_le (by repeat (first | exact Fr.le_nil _ | refine Fr.le_cons rfl ?_)) (ih (i + 1, x.n, true, qa1, qn1, qk1, qa2, qn2, qk2) w ⟨by simp only; omega, by simp only; omega, htk.trans (stepPut (by omega) h6), hnd, hw.sub (by (repeat (first | with_reducible exact Sub.refl _ | exact Sub.nil _ | (apply Sub.cons; focus ((repeat (first | with_reducible exact Pick.here _ | apply Pick.there)); (first | done | fail))) | with_reducible apply Sub.drop)); first | done | fail)⟩ (by simp only; omega))
                                      · try with_reducible exact tf_elim h6
                                        all_goals
                                          try replace h6 := of_decide_eq_false h6
                                          try (first | (exfalso; omega))
                                          all_goals
                                            refine g_skip (g_inBlock ?_)
                                            refine g_region ?_
                                            first | (refine rl_v rfl rfl rfl (S := fun _ => True) trivial (v_add rfl rfl (by omega)) ?_) | (refine rl_v rfl rfl rfl (S := fun _ => True) trivial (v_addW rfl rfl) ?_)
                                            refine rl_v rfl rfl rfl (S := fun _ => True) trivial (v_move rfl) ?_
                                            refine rl_nil (g_le (Fr.le_keep (Fr.le_keep (Fr.le_refl _))) ?_)
                                            first | exact g_le (by repeat (first | exact Fr.le_nil _ | refine Fr.le_cons rfl ?_)) (ih (i + 1, p, false, ea, en, ec, ka, kn, kc) w ⟨by simp only; omega, by simp only; omega, htk.trans (step5 h3), hnp, hw.sub (by (repeat (first | with_reducible exact Sub.refl _ | exact Sub.nil _ | (apply Sub.cons; focus ((repeat (first | with_reducible exact Pick.here _ | apply Pick.there)); (first | done | fail))) | with_reducible apply Sub.drop)); first | done | fail)⟩ (by simp only; omega)) | exact g_le (by repeat (first | exact Fr.le_nil _ | refine Fr.le_cons rfl ?_)) (ih (i + 1, p, bb, ea, en, ec, ka, kn, kc) w ⟨by simp only; omega, by simp only; omega, htk.trans (hbb ▸ step4 h4), hnp, hw.sub (by (repeat (first | with_reducible exact Sub.refl _ | exact Sub.nil _ | (apply Sub.cons; focus ((repeat (first | with_reducible exact Pick.here _ | apply Pick.there)); (first | done | fail))) | with_reducible apply Sub.drop)); first | done | fail)⟩ (by simp only; omega)) | exact g_le (by repeat (first | exact Fr.le_nil _ | refine Fr.le_cons rfl ?_)) (ih (i + 1, p, b, ea, en, ec, ka, kn, kc) w ⟨by simp only; omega, by simp only; omega, htk.trans (stepNo h3 h4 (fun hh => by first | exact h6 hh.2 | omega)), hnp, hw.sub (by (repeat (first | with_reducible exact Sub.refl _ | exact Sub.nil _ | (apply Sub.cons; focus ((repeat (first | with_reducible exact Pick.here _ | apply Pick.there)); (first | done | fail))) | with_reducible apply Sub.drop)); first | done | fail)⟩ (by simp only; omega))
                                · try with_reducible exact tf_elim g15_8
                                  all_goals
                                    try replace g15_8 := of_decide_eq_false g15_8
                                    try (first | (exfalso; omega))
                                    all_goals
                                      refine rs_aoff 9 rfl (met_off rfl rfl rfl rfl rfl) rfl rfl ?_
                                      refine rs_voff 10 rfl (met_off rfl rfl rfl rfl rfl) rfl rfl (by first | exact hw | exact Sat.sub hw (by (repeat (first | with_reducible exact Sub.refl _ | exact Sub.nil _ | (apply Sub.cons; focus ((repeat (first | with_reducible exact Pick.here _ | apply Pick.there)); (first | done | fail))) | with_reducible apply Sub.drop)); first | done | fail)) ?_
                                      refine rs_voff 12 rfl (met_off rfl rfl rfl rfl rfl) rfl rfl (by first | exact hw | exact Sat.sub hw (by (repeat (first | with_reducible exact Sub.refl _ | exact Sub.nil _ | (apply Sub.cons; focus ((repeat (first | with_reducible exact Pick.here _ | apply Pick.there)); (first | done | fail))) | with_reducible apply Sub.drop)); first | done | fail)) ?_
                                      refine rs_koff 11 rfl (met_off rfl rfl rfl rfl rfl) rfl rfl ?_
                                      refine rs_koff 13 rfl (met_off rfl rfl rfl rfl rfl) rfl rfl ?_
                                      first | (refine rs_kv 14 rfl rfl rfl rfl (S' := fun _ => True) trivial (v_pick_true rfl rfl) ?_) | (refine rs_kv 14 rfl rfl rfl rfl (S' := fun _ => True) trivial (v_pick_false rfl rfl) ?_) | (refine rs_kv 14 rfl rfl rfl rfl (S' := fun _ => True) trivial (v_pick rfl rfl rfl) ?_)
                                      refine rs_done (g_le (Fr.le_keep (Fr.le_keep (Fr.le_keep (Fr.le_keep (Fr.le_keep (Fr.le_keep (Fr.le_keep (Fr.le_keep (Fr.le_keep (Fr.le_keep (Fr.le_keep (Fr.le_keep (Fr.le_keep (Fr.le_keep (Fr.le_keep (Fr.le_keep (Fr.le_keep (Fr.le_refl _)))))))))))))))))) ?_)
                                      refine g_cond_false rfl ?_
                                      refine g_skip (g_inBlock ?_)
                                      refine g_region ?_
                                      first | (refine rl_v rfl rfl rfl (S := fun _ => True) trivial (v_add rfl rfl (by omega)) ?_) | (refine rl_v rfl rfl rfl (S := fun _ => True) trivial (v_addW rfl rfl) ?_)
                                      refine rl_v rfl rfl rfl (S := fun _ => True) trivial (v_move rfl) ?_
                                      refine rl_nil (g_le (Fr.le_keep (Fr.le_keep (Fr.le_refl _))) ?_)
                                      first | exact g_le (by repeat (first | exact Fr.le_nil _ | refine Fr.le_cons rfl ?_)) (ih (i + 1, p, false, ea, en, ec, ka, kn, kc) w ⟨by simp only; omega, by simp only; omega, htk.trans (step5 h3), hnp, hw.sub (by (repeat (first | with_reducible exact Sub.refl _ | exact Sub.nil _ | (apply Sub.cons; focus ((repeat (first | with_reducible exact Pick.here _ | apply Pick.there)); (first | done | fail))) | with_reducible apply Sub.drop)); first | done | fail)⟩ (by simp only; omega)) | exact g_le (by repeat (first | exact Fr.le_nil _ | refine Fr.le_cons rfl ?_)) (ih (i + 1, p, bb, ea, en, ec, ka, kn, kc) w ⟨by simp only; omega, by simp only; omega, htk.trans (hbb ▸ step4 h4), hnp, hw.sub (by (repeat (first | with_reducible exact Sub.refl _ | exact Sub.nil _ | (apply Sub.cons; focus ((repeat (first | with_reducible exact Pick.here _ | apply Pick.there)); (first | done | fail))) | with_reducible apply Sub.drop)); first | done | fail)⟩ (by simp only; omega)) | exact g_le (by repeat (first | exact Fr.le_nil _ | refine Fr.le_cons rfl ?_)) (ih (i + 1, p, b, ea, en, ec, ka, kn, kc) w ⟨by simp only; omega, by simp only; omega, htk.trans (stepNo h3 h4 (fun hh => by first | exact h6 hh.2 | omega)), hnp, hw.sub (by (repeat (first | with_reducible exact Sub.refl _ | exact Sub.nil _ | (apply Sub.cons; focus ((repeat (first | with_reducible exact Pick.here _ | apply Pick.there)); (first | done | fail))) | with_reducible apply Sub.drop)); first | done | fail)⟩ (by simp only; omega))
              · try with_reducible exact tf_elim h3
                all_goals
                  try replace h3 := of_decide_eq_false h3
                  try (first | (exfalso; omega))
                  all_goals
                    refine g_skip (g_seq (g_seq ?_))
                    refine g_region ?_
                    first | (refine rl_v rfl rfl rfl (S := fun _ => True) trivial (v_fieldAddr0 T.fld_49_0_0 rfl) ?_) | (refine rl_v rfl rfl rfl (S := fun _ => True) trivial (v_fieldAddr T.fld_49_0_0 rfl) ?_)
                    refine rl_v rfl rfl rfl (by first | exact sat_cell hw (by (repeat (first | with_reducible exact Pick.here _ | apply Pick.there)); first | done | fail) rfl | exact own_cell hw (by (repeat (first | with_reducible exact Pick.here _ | apply Pick.there)); first | done | fail) (by first | rfl | assumption) | exact ro_at0 hw (by (repeat (first | with_reducible exact Pick.here _ | apply Pick.there)); first | done | fail) (by assumption) rfl | exact ro_at hw (by (repeat (first | with_reducible exact Pick.here _ | apply Pick.there)); first | done | fail) (by assumption) rfl | exact own_at0 hw (by (repeat (first | with_reducible exact Pick.here _ | apply Pick.there)); first | done | fail) (by assumption) rfl | exact own_at hw (by (repeat (first | with_reducible exact Pick.here _ | apply Pick.there)); first | done | fail) (by assumption) rfl | exact old_cell hw (by (repeat (first | with_reducible exact Pick.here _ | apply Pick.there)); first | done | fail) (by assumption) | assumption) (v_load T.scal_3 rfl) ?_
                    first | (refine rl_v rfl rfl rfl (S := fun _ => True) trivial (v_eqlT rfl rfl (by first | omega | rfl)) ?_) | (refine rl_v rfl rfl rfl (S := fun _ => True) trivial (v_eqlF rfl rfl (by omega)) ?_) | (refine rl_v rfl rfl rfl (S := fun _ => True) trivial (v_eql rfl rfl) ?_)
                    refine rl_nil (g_le (Fr.le_keep (Fr.le_keep (Fr.le_keep (Fr.le_refl _)))) ?_)
                    refine g_cond rfl (fun h4 => ?_) (fun h4 => ?_)
                    · try with_reducible exact ft_elim h4
                      all_goals
                        try replace h4 := of_decide_eq_true h4
                        try (first | (exfalso; omega))
                        all_goals
                          refine g_seq ?_
                          refine g_region ?_
                          first | (refine rl_v rfl rfl rfl (S := fun _ => True) trivial (v_fieldAddr0 T.fld_49_3_5 rfl) ?_) | (refine rl_v rfl rfl rfl (S := fun _ => True) trivial (v_fieldAddr T.fld_49_3_5 rfl) ?_)
                          refine rl_v rfl rfl rfl (by first | exact sat_cell hw (by (repeat (first | with_reducible exact Pick.here _ | apply Pick.there)); first | done | fail) rfl | exact own_cell hw (by (repeat (first | with_reducible exact Pick.here _ | apply Pick.there)); first | done | fail) (by first | rfl | assumption) | exact ro_at0 hw (by (repeat (first | with_reducible exact Pick.here _ | apply Pick.there)); first | done | fail) (by assumption) rfl | exact ro_at hw (by (repeat (first | with_reducible exact Pick.here _ | apply Pick.there)); first | done | fail) (by assumption) rfl | exact own_at0 hw (by (repeat (first | with_reducible exact Pick.here _ | apply Pick.there)); first | done | fail) (by assumption) rfl | exact own_at hw (by (repeat (first | with_reducible exact Pick.here _ | apply Pick.there)); first | done | fail) (by assumption) rfl | exact old_cell hw (by (repeat (first | with_reducible exact Pick.here _ | apply Pick.there)); first | done | fail) (by assumption) | assumption) (v_load T.scal_46 rfl) ?_
                          refine rl_k rfl (k_callf Try.func20 rfl rfl rfl rfl ?_)
                          refine Calls.mono (refs_calls hrf (hw.sub (by (repeat (first | with_reducible exact Sub.refl _ | exact Sub.nil _ | (apply Sub.cons; focus ((repeat (first | with_reducible exact Pick.here _ | apply Pick.there)); (first | done | fail))) | with_reducible apply Sub.drop)); first | done | fail))) ?_
                          rintro _ w ⟨g2, ra, rm, rk, hg2, rfl, hrs, hw⟩
                          obtain ⟨rfl, _, _, _, gg⟩ := rdSl_get hrs
                          have hrl := refsOf_len x.refs
                          refine ⟨_, rfl, ?_⟩
                          refine rl_v rfl rfl rfl (S := fun _ => True) trivial (v_lenSlice T.sl_53_34_4 rfl) ?_
                          refine rl_v rfl rfl rfl (S := fun _ => True) trivial (v_move rfl) ?_
                          refine rl_nil (g_le (Fr.le_keep (Fr.le_keep (Fr.le_keep (Fr.le_keep (Fr.le_keep (Fr.le_refl _)))))) ?_)
                          refine g_block ?_
                          refine g_loopC (σ := Int × Bool) (fun C x => (37, .int .i64 x.1) :: (9, .bool x.2) :: C) [(2, _), (4, _), (6, _), (7, _), (8, _), (10, _), (11, _), (15, _), (16, _), (17, _), (18, _), (19, _), (20, _), (21, _), (22, _), (23, _), (24, _), (25, _), (26, _), (27, _), (28, _), (29, _), (30, _), (31, _), (32, _), (33, _), (34, _), (35, _), (36, _)] (by repeat (first | exact Fr.le_nil _ | refine Fr.le_cons rfl ?_)) (fun z w => 0 ≤ z.1 ∧ z.1 ≤ (refsOf x.refs).length ∧ z.2 = (b && decide (r ∉ (refsOf x.refs).take z.1.toNat)) ∧ Sat E w (pt bk5_3 (.cells [Value.int .i64 x.do_, .int .i64 x.r, .bool x.n.leaf, .slice qa1 qn1 qk1, .slice qa2 qn2 qk2, .slice qa3 qn3 qk3].toArray 49 (0, 0)) :: pt bk1_1 (.cells [.bool p.leaf, .slice ea en ec, .slice ka kn kc].toArray 25 (0, 0)) :: pt bk0_1 (.cells [.bool false, .slice none 0 0, .slice none 0 0].toArray 25 (0, 0)) :: pt bk0_0 (.cells r.cells.toArray 34 (0, 0)) :: OwnSl 4 1 (.slice (some ⟨gb, 0, none⟩) dn dc) dn (done.map Value.bool) :: RO g2 :: L)) (fun z => ((refsOf x.refs).length - z.1).toNat) ?_ (0, b) (by repeat (first | exact Fr.le_nil _ | refine Fr.le_cons rfl ?_)) ⟨by simp, by simp, by simp, hw.sub (by (repeat (first | with_reducible exact Sub.refl _ | exact Sub.nil _ | (apply Sub.cons; focus ((repeat (first | with_reducible exact Pick.here _ | apply Pick.there)); (first | done | fail))) | with_reducible apply Sub.drop)); first | done | fail)⟩
                          rintro ⟨j, bb⟩ w ⟨hj0, hj1, hbb, hw⟩ ih2
                          dsimp only at hj0 hj1 hbb hw ⊢
                          refine g_seq ?_
                          refine g_region ?_
                          first | (refine rl_v rfl rfl rfl (S := fun _ => True) trivial (v_lssT rfl rfl (by omega)) ?_) | (refine rl_v rfl rfl rfl (S := fun _ => True) trivial (v_lssF rfl rfl (by omega)) ?_) | (refine rl_v rfl rfl rfl (S := fun _ => True) trivial (v_lss rfl rfl) ?_)
                          refine rl_nil (g_le (Fr.le_keep (Fr.le_refl _)) ?_)
                          refine g_seq ?_
                          refine g_cond rfl (fun h5 => ?_) (fun h5 => ?_)
                          · try with_reducible exact ft_elim h5
                            all_goals
                              try replace h5 := of_decide_eq_true h5
                              try (first | (exfalso; omega))
                              all_goals
                                refine g_skip (g_seq (g_block (g_seq ?_)))
                                have hz := hw
                                clear hw
                                obtain ⟨b5, o5, q, ecs5, rfl, hx5, hat5, hl5, rfl, hrok⟩ := gg j hj0 (by omega)
                                have hw := hz
                                have hq9 : (refsOf x.refs).take (j + 1).toNat = (refsOf x.refs).take j.toNat ++ [q] := by rw [show (j + 1).toNat = j.toNat + 1 by omega, List.take_add_one, hx5]; rfl
                                refine g_region ?_
                                refine rl_v rfl rfl rfl (S := fun _ => True) trivial (v_indexAddr T.sl_53_34_4 rfl rfl (by omega) (by omega)) ?_
                                refine rl_v rfl rfl rfl (by first | exact sat_cells hw (by (repeat (first | with_reducible exact Pick.here _ | apply Pick.there)); first | done | fail) ⟨rfl, rfl, rfl, rfl, trivial⟩ | exact ro_ats hw (by (repeat (first | with_reducible exact Pick.here _ | apply Pick.there)); first | done | fail) (by assumption) | exact own_cells hw (by (repeat (first | with_reducible exact Pick.here _ | apply Pick.there)); first | done | fail) (by assumption) | exact old_cells hw (by (repeat (first | with_reducible exact Pick.here _ | apply Pick.there)); first | done | fail) (by assumption)) (v_loadAgg (vs := [_, _, _, _]) T.agg_34_4 rfl rfl) ?_
                                refine rl_k rfl (k_alloc hw T.zero_34 rfl rfl (fun bk12_2 w hw => ?_))
                                first | (refine rl_k rfl (k_storeWhole hw T.agg_34_4 rfl rfl (by simp [Value.oneCell']) rfl (by (repeat (first | with_reducible exact Pick.here _ | apply Pick.there)); first | done | fail) rfl (fun w hw => ?_))) | (refine rl_k rfl (k_storeAgg hw T.agg_34_4 rfl rfl (by simp [Value.oneCell']) rfl (by (repeat (first | with_reducible exact Pick.here _ | apply Pick.there)); first | done | fail) rfl rfl (fun w hw => ?_))) | (refine rl_k rfl (k_storeOwnAgg hw T.agg_34_4 rfl rfl (by simp [Value.oneCell']) rfl (by (repeat (first | with_reducible exact Pick.here _ | apply Pick.there)); first | done | fail) (by assumption) (by omega) (fun w hw => ?_)))
                                refine rl_nil (g_le (Fr.le_keep (Fr.le_keep (Fr.le_keep (Fr.le_refl _)))) ?_)
                                refine g_region ?_
                                refine rl_v rfl rfl rfl (S := fun _ => True) trivial (v_move rfl) ?_
                                refine rl_v rfl rfl rfl (S := fun _ => True) trivial (v_move rfl) ?_
                                refine rl_split (s := 42) rfl (fun g13_1 => ?_) (fun g13_1 => ?_)
                                · try with_reducible exact ft_elim g13_1
                                  all_goals
                                    try replace g13_1 := of_decide_eq_true g13_1
                                    try (first | (exfalso; omega))
                                    all_goals
                                      refine rl_vg (met_on rfl rfl rfl rfl) rfl rfl (by first | exact sat_cells hw (by (repeat (first | with_reducible exact Pick.here _ | apply Pick.there)); first | done | fail) ⟨rfl, rfl, rfl, rfl, trivial⟩ | exact ro_ats hw (by (repeat (first | with_reducible exact Pick.here _ | apply Pick.there)); first | done | fail) (by assumption) | exact own_cells hw (by (repeat (first | with_reducible exact Pick.here _ | apply Pick.there)); first | done | fail) (by assumption) | exact old_cells hw (by (repeat (first | with_reducible exact Pick.here _ | apply Pick.there)); first | done | fail) (by assumption)) (v_loadAgg (vs := [_, _, _, _]) T.agg_34_4 rfl rfl) ?_
                                      refine rl_vg (met_on rfl rfl rfl rfl) rfl rfl (by first | exact sat_cells hw (by (repeat (first | with_reducible exact Pick.here _ | apply Pick.there)); first | done | fail) ⟨rfl, rfl, rfl, rfl, trivial⟩ | exact ro_ats hw (by (repeat (first | with_reducible exact Pick.here _ | apply Pick.there)); first | done | fail) (by assumption) | exact own_cells hw (by (repeat (first | with_reducible exact Pick.here _ | apply Pick.there)); first | done | fail) (by assumption) | exact old_cells hw (by (repeat (first | with_reducible exact Pick.here _ | apply Pick.there)); first | done | fail) (by assumption)) (v_loadAgg (vs := [_, _, _, _]) T.agg_34_4 rfl rfl) ?_
                                      refine rl_vg (met_on rfl rfl rfl rfl) rfl rfl (S := fun _ => True) trivial (v_neqAgg T.cmp_34_iiii rfl rfl rfl rfl (by first | exact eq_Rf _ _ | rfl)) ?_
                                      first | (refine rl_v rfl rfl rfl (S := fun _ => True) trivial (v_pick_true rfl rfl) ?_) | (refine rl_v rfl rfl rfl (S := fun _ => True) trivial (v_pick_false rfl rfl) ?_) | (refine rl_v rfl rfl rfl (S := fun _ => True) trivial (v_pick rfl rfl rfl) ?_)
                                      refine rl_v rfl rfl rfl (S := fun _ => True) trivial (v_assign rfl) ?_
                                      refine rl_nil (g_le (Fr.le_keep (Fr.le_keep (Fr.le_keep (Fr.le_keep (Fr.le_keep (Fr.le_keep (Fr.le_keep (Fr.le_keep (Fr.le_refl _))))))))) ?_)
                                      refine g_inBlock ?_
                                      refine g_region ?_
                                      first | (refine rl_v rfl rfl rfl (S := fun _ => True) trivial (v_add rfl rfl (by omega)) ?_) | (refine rl_v rfl rfl rfl (S := fun _ => True) trivial (v_addW rfl rfl) ?_)
                                      refine rl_v rfl rfl rfl (S := fun _ => True) trivial (v_move rfl) ?_
                                      refine rl_nil (g_le (Fr.le_keep (Fr.le_keep (Fr.le_refl _))) ?_)
                                      refine g_le (by repeat (first | exact Fr.le_nil _ | refine Fr.le_cons rfl ?_)) (ih2 (j + 1, !decide (q = r)) w ⟨by simp only; omega, by simp only; omega, ?_, hw.sub (by (repeat (first | with_reducible exact Sub.refl _ | exact Sub.nil _ | (apply Sub.cons; focus ((repeat (first | with_reducible exact Pick.here _ | apply Pick.there)); (first | done | fail))) | with_reducible apply Sub.drop)); first | done | fail)⟩ (by simp only; omega))
                                      dsimp only
                                      rw [hq9]
                                      have hb9 := hbb.symm.trans g13_1
                                      simp only [Bool.and_eq_true, decide_eq_true_eq] at hb9
                                      rw [hb9.1, Bool.true_and]
                                      by_cases hqr : q = r
                                      · subst hqr; simp
                                      · rw [decide_eq_false hqr]; symm; simp [hb9.2, Ne.symm hqr]
                                · try with_reducible exact tf_elim g13_1
                                  all_goals
                                    try replace g13_1 := of_decide_eq_false g13_1
                                    try (first | (exfalso; omega))
                                    all_goals
                                      refine rl_off (met_off rfl rfl rfl rfl rfl) rfl rfl ?_
                                      refine rl_off (met_off rfl rfl rfl rfl rfl) rfl rfl ?_
                                      refine rl_off (met_off rfl rfl rfl rfl rfl) rfl rfl ?_
                                      first | (refine rl_v rfl rfl rfl (S := fun _ => True) trivial (v_pick_true rfl rfl) ?_) | (refine rl_v rfl rfl rfl (S := fun _ => True) trivial (v_pick_false rfl rfl) ?_) | (refine rl_v rfl rfl rfl (S := fun _ => True) trivial (v_pick rfl rfl rfl) ?_)
                                      refine rl_v rfl rfl rfl (S := fun _ => True) trivial (v_assign rfl) ?_
                                      refine rl_nil (g_le (Fr.le_keep (Fr.le_keep (Fr.le_keep (Fr.le_keep (Fr.le_keep (Fr.le_keep (Fr.le_keep (Fr.le_keep (Fr.le_refl _))))))))) ?_)
                                      refine g_inBlock ?_
                                      refine g_region ?_
                                      first | (refine rl_v rfl rfl rfl (S := fun _ => True) trivial (v_add rfl rfl (by omega)) ?_) | (refine rl_v rfl rfl rfl (S := fun _ => True) trivial (v_addW rfl rfl) ?_)
                                      refine rl_v rfl rfl rfl (S := fun _ => True) trivial (v_move rfl) ?_
                                      refine rl_nil (g_le (Fr.le_keep (Fr.le_keep (Fr.le_refl _))) ?_)
                                      refine g_le (by repeat (first | exact Fr.le_nil _ | refine Fr.le_cons rfl ?_)) (ih2 (j + 1, false) w ⟨by simp only; omega, by simp only; omega, ?_, hw.sub (by (repeat (first | with_reducible exact Sub.refl _ | exact Sub.nil _ | (apply Sub.cons; focus ((repeat (first | with_reducible exact Pick.here _ | apply Pick.there)); (first | done | fail))) | with_reducible apply Sub.drop)); first | done | fail)⟩ (by simp only; omega))
                                      dsimp only
                                      rw [hq9]
                                      have hb9 := hbb.symm.trans g13_1
                                      cases b
                                      · rfl
                                      · symm; simp only [Bool.true_and, decide_eq_false_iff_not, List.mem_append, Decidable.not_not] at hb9 ⊢; exact Or.inl hb9
                          · try with_reducible exact tf_elim h5
                            all_goals
                              try replace h5 := of_decide_eq_false h5
                              have hw := (hw.pick .at5).shrink hg2
                              have hbb : bb = (b && decide (r ∉ refsOf x.refs)) := by rw [hbb, show j.toNat = (refsOf x.refs).length by omega, List.take_length]
                              try (first | (exfalso; omega))
                              all_goals
                                refine g_exit rfl (g_seq ?_)
                                refine g_drawR ord_f24_r15_C15l (by kernel_rfl) T.mixed hw (fun w hw => ?_)
                                first | (refine rs_kv 0 rfl rfl rfl rfl (S' := fun _ => True) trivial (v_fieldAddr0 T.fld_49_0_0 rfl) ?_) | (refine rs_kv 0 rfl rfl rfl rfl (S' := fun _ => True) trivial (v_fieldAddr T.fld_49_0_0 rfl) ?_)
                                refine rs_kv 1 rfl rfl rfl rfl (by first | exact sat_cell hw (by (repeat (first | with_reducible exact Pick.here _ | apply Pick.there)); first | done | fail) rfl | exact own_cell hw (by (repeat (first | with_reducible exact Pick.here _ | apply Pick.there)); first | done | fail) (by first | rfl | assumption) | exact ro_at0 hw (by (repeat (first | with_reducible exact Pick.here _ | apply Pick.there)); first | done | fail) (by assumption) rfl | exact ro_at hw (by (repeat (first | with_reducible exact Pick.here _ | apply Pick.there)); first | done | fail) (by assumption) rfl | exact own_at0 hw (by (repeat (first | with_reducible exact Pick.here _ | apply Pick.there)); first | done | fail) (by assumption) rfl | exact own_at hw (by (repeat (first | with_reducible exact Pick.here _ | apply Pick.there)); first | done | fail) (by assumption) rfl | exact old_cell hw (by (repeat (first | with_reducible exact Pick.here _ | apply Pick.there)); first | done | fail) (by assumption) | assumption) (v_load T.scal_3 rfl) ?_
                                first | (refine rs_kv 2 rfl rfl rfl rfl (S' := fun _ => True) trivial (v_lssT rfl rfl (by omega)) ?_) | (refine rs_kv 2 rfl rfl rfl rfl (S' := fun _ => True) trivial (v_lssF rfl rfl (by omega)) ?_) | (refine rs_kv 2 rfl rfl rfl rfl (S' := fun _ => True) trivial (v_lss rfl rfl) ?_)
                                refine rs_kv 3 rfl rfl rfl rfl (S' := fun _ => True) trivial (v_move rfl) ?_
                                refine rs_split (s := 51) rfl (fun g15_3 => ?_) (fun g15_3 => ?_)
                                · try with_reducible exact ft_elim g15_3
                                  all_goals
                                    try replace g15_3 := of_decide_eq_true g15_3
                                    try (first | (exfalso; omega))
                                    all_goals
                                      refine rs_koff 4 rfl (met_off rfl rfl rfl rfl rfl) rfl rfl ?_
                                      refine rs_koff 5 rfl (met_off rfl rfl rfl rfl rfl) rfl rfl ?_
                                      refine rs_koff 6 rfl (met_off rfl rfl rfl rfl rfl) rfl rfl ?_
                                      first | (refine rs_kv 7 rfl rfl rfl rfl (S' := fun _ => True) trivial (v_pick_true rfl rfl) ?_) | (refine rs_kv 7 rfl rfl rfl rfl (S' := fun _ => True) trivial (v_pick_false rfl rfl) ?_) | (refine rs_kv 7 rfl rfl rfl rfl (S' := fun _ => True) trivial (v_pick rfl rfl rfl) ?_)
                                      refine rs_kv 8 rfl rfl rfl rfl (S' := fun _ => True) trivial (v_move rfl) ?_
                                      first | (refine rs_ag 9 rfl (met_on rfl rfl rfl rfl) rfl rfl (v_fieldAddr0 T.fld_49_1_1 rfl) ?_) | (refine rs_ag 9 rfl (met_on rfl rfl rfl rfl) rfl rfl (v_fieldAddr T.fld_49_1_1 rfl) ?_)
                                      refine rs_vg 10 rfl (met_on rfl rfl rfl rfl) rfl rfl (OpV.mono (v_load T.scal_3 rfl) (fun w hw => by first | exact sat_cell hw (by (repeat (first | with_reducible exact Pick.here _ | apply Pick.there)); first | done | fail) rfl | exact own_cell hw (by (repeat (first | with_reducible exact Pick.here _ | apply Pick.there)); first | done | fail) (by first | rfl | assumption) | exact ro_at0 hw (by (repeat (first | with_reducible exact Pick.here _ | apply Pick.there)); first | done | fail) (by assumption) rfl | exact ro_at hw (by (repeat (first | with_reducible exact Pick.here _ | apply Pick.there)); first | done | fail) (by assumption) rfl | exact own_at0 hw (by (repeat (first | with_reducible exact Pick.here _ | apply Pick.there)); first | done | fail) (by assumption) rfl | exact own_at hw (by (repeat (first | with_reducible exact Pick.here _ | apply Pick.there)); first | done | fail) (by assumption) rfl | exact old_cell hw (by (repeat (first | with_reducible exact Pick.here _ | apply Pick.there)); first | done | fail) (by assumption) | assumption)) (by first | exact hw | exact Sat.sub hw (by (repeat (first | with_reducible exact Sub.refl _ | exact Sub.nil _ | (apply Sub.cons; focus ((repeat (first | with_reducible exact Pick.here _ | apply Pick.there)); (first | done | fail))) | with_reducible apply Sub.drop)); first | done | fail)) ?_
                                      refine rs_vg 12 rfl (met_on rfl rfl rfl rfl) rfl rfl (OpV.mono (v_loadAgg (vs := [_, _, _, _]) T.agg_34_4 rfl rfl) (fun w hw => by first | exact sat_cells hw (by (repeat (first | with_reducible exact Pick.here _ | apply Pick.there)); first | done | fail) ⟨rfl, rfl, rfl, rfl, trivial⟩ | exact ro_ats hw (by (repeat (first | with_reducible exact Pick.here _ | apply Pick.there)); first | done | fail) (by assumption) | exact own_cells hw (by (repeat (first | with_reducible exact Pick.here _ | apply Pick.there)); first | done | fail) (by assumption) | exact old_cells hw (by (repeat (first | with_reducible exact Pick.here _ | apply Pick.there)); first | done | fail) (by assumption))) (by first | exact hw | exact Sat.sub hw (by (repeat (first | with_reducible exact Sub.refl _ | exact Sub.nil _ | (apply Sub.cons; focus ((repeat (first | with_reducible exact Pick.here _ | apply Pick.there)); (first | done | fail))) | with_reducible apply Sub.drop)); first | done | fail)) ?_
                                      refine rs_kg 11 rfl (met_on rfl rfl rfl rfl) (k_callf Try.func11 rfl rfl rfl rfl ?_)
                                      refine Calls.mono (of_calls _ hw) ?_
                                      rintro _ w ⟨rfl, hw⟩
                                      refine ⟨_, rfl, ?_⟩
                                      refine ⟨fun _ => (by first | exact hw | exact Sat.sub hw (by (repeat (first | with_reducible exact Sub.refl _ | exact Sub.nil _ | (apply Sub.cons; focus ((repeat (first | with_reducible exact Pick.here _ | apply Pick.there)); (first | done | fail))) | with_reducible apply Sub.drop)); first | done | fail) | exact Sat.sub (Sat.shrink (Sat.pick hw (by (repeat (first | with_reducible exact Pick.here _ | apply Pick.there)); first | done | fail)) (by assumption)) (by (repeat (first | with_reducible exact Sub.refl _ | exact Sub.nil _ | (apply Sub.cons; focus ((repeat (first | with_reducible exact Pick.here _ | apply Pick.there)); (first | done | fail))) | with_reducible apply Sub.drop)); first | done | fail)), ?_⟩
                                      refine rs_kvg 13 rfl (met_on rfl rfl rfl rfl) rfl rfl (S' := fun _ => True) trivial (v_eqlAgg T.cmp_34_iiii rfl rfl rfl rfl (by first | exact eq_Rf _ _ | rfl)) ?_
                                      first | (refine rs_kv 14 rfl rfl rfl rfl (S' := fun _ => True) trivial (v_pick_true rfl rfl) ?_) | (refine rs_kv 14 rfl rfl rfl rfl (S' := fun _ => True) trivial (v_pick_false rfl rfl) ?_) | (refine rs_kv 14 rfl rfl rfl rfl (S' := fun _ => True) trivial (v_pick rfl rfl rfl) ?_)
                                      refine rs_done (g_le (Fr.le_keep (Fr.le_keep (Fr.le_keep (Fr.le_keep (Fr.le_keep (Fr.le_keep (Fr.le_keep (Fr.le_keep (Fr.le_keep (Fr.le_keep (Fr.le_keep (Fr.le_keep (Fr.le_keep (Fr.le_keep (Fr.le_keep (Fr.le_keep (Fr.le_refl _))))))))))))))))) ?_)
                                      refine g_cond rfl (fun h6 => ?_) (fun h6 => ?_)
                                      · try with_reducible exact ft_elim h6
                                        all_goals
                                          try replace h6 := of_decide_eq_true h6
                                          try (first | (exfalso; omega))
                                          all_goals
                                            refine g_seq ?_
                                            refine g_region ?_
                                            first | (refine rl_v rfl rfl rfl (S := fun _ => True) trivial (v_fieldAddr0 T.fld_49_2_2 rfl) ?_) | (refine rl_v rfl rfl rfl (S := fun _ => True) trivial (v_fieldAddr T.fld_49_2_2 rfl) ?_)
                                            refine rl_v rfl rfl rfl (by first | exact sat_cells hw (by (repeat (first | with_reducible exact Pick.here _ | apply Pick.there)); first | done | fail) ⟨rfl, rfl, rfl, trivial⟩ | exact ro_ats hw (by (repeat (first | with_reducible exact Pick.here _ | apply Pick.there)); first | done | fail) (by assumption) | exact own_cells hw (by (repeat (first | with_reducible exact Pick.here _ | apply Pick.there)); first | done | fail) (by assumption) | exact old_cells hw (by (repeat (first | with_reducible exact Pick.here _ | apply Pick.there)); first | done | fail) (by assumption)) (v_loadAgg (vs := [_, _, _]) T.agg_25_3 rfl rfl) ?_
                                            first | (refine rl_k rfl (k_storeWhole hw T.agg_25_3 rfl rfl (by simp [Value.oneCell']) rfl (by (repeat (first | with_reducible exact Pick.here _ | apply Pick.there)); first | done | fail) rfl (fun w hw => ?_))) | (refine rl_k rfl (k_storeAgg hw T.agg_25_3 rfl rfl (by simp [Value.oneCell']) rfl (by (repeat (first | with_reducible exact Pick.here _ | apply Pick.there)); first | done | fail) rfl rfl (fun w hw => ?_))) | (refine rl_k rfl (k_storeOwnAgg hw T.agg_25_3 rfl rfl (by simp [Value.oneCell']) rfl (by (repeat (first | with_reducible exact Pick.here _ | apply Pick.there)); first | done | fail) (by assumption) (by omega) (fun w hw => ?_)))
                                            refine rl_nil (g_le (Fr.le_keep (Fr.le_keep (Fr.le_refl _))) ?_)
                                            refine g_region ?_
                                            refine rl_v rfl rfl rfl (S := fun _ => True) trivial (v_assign rfl) ?_
                                            refine rl_nil (g_le (Fr.le_keep (Fr.le_refl _)) ?_)
                                            refine g_inBlock ?_
                                            refine g_region ?_
                                            first | (refine rl_v rfl rfl rfl (S := fun _ => True) trivial (v_add rfl rfl (by omega)) ?_) | (refine rl_v rfl rfl rfl (S := fun _ => True) trivial (v_addW rfl rfl) ?_)
                                            refine rl_v rfl rfl rfl (S := fun _ => True) trivial (v_move rfl) ?_
                                            refine rl_nil (g_le (Fr.le_keep (Fr.le_keep (Fr.le_refl _))) ?_)
                                            exact g_le (by repeat (first | exact Fr.le_nil _ | refine Fr.le_cons rfl ?_)) (ih (i + 1, x.n, true, qa1, qn1, qk1, qa2, qn2, qk2) w ⟨by simp only; omega, by simp only; omega, htk.trans (stepPut (by omega) h6), hnd, hw.sub (by (repeat (first | with_reducible exact Sub.refl _ | exact Sub.nil _ | (apply Sub.cons; focus ((repeat (first | with_reducible exact Pick.here _ | apply Pick.there)); (first | done | fail))) | with_reducible apply Sub.drop)); first | done | fail)⟩ (by simp only; omega))
                                      · try with_reducible exact tf_elim h6
                                        all_goals
                                          try replace h6 := of_decide_eq_false h6
                                          try (first | (exfalso; omega))
                                          all_goals
                                            refine g_skip (g_inBlock ?_)
                                            refine g_region ?_
                                            first | (refine rl_v rfl rfl rfl (S := fun _ => True) trivial (v_add rfl rfl (by omega)) ?_) | (refine rl_v rfl rfl rfl (S := fun _ => True) trivial (v_addW rfl rfl) ?_)
                                            refine rl_v rfl rfl rfl (S := fun _ => True) trivial (v_move rfl) ?_
                                            refine rl_nil (g_le (Fr.le_keep (Fr.le_keep (Fr.le_refl _))) ?_)
                                            first | exact g_le (by repeat (first | exact Fr.le_nil _ | refine Fr.le_cons rfl ?_)) (ih (i + 1, p, false, ea, en, ec, ka, kn, kc) w ⟨by simp only; omega, by simp only; omega, htk.trans (step5 h3), hnp, hw.sub (by (repeat (first | with_reducible exact Sub.refl _ | exact Sub.nil _ | (apply Sub.cons; focus ((repeat (first | with_reducible exact Pick.here _ | apply Pick.there)); (first | done | fail))) | with_reducible apply Sub.drop)); first | done | fail)⟩ (by simp only; omega)) | exact g_le (by repeat (first | exact Fr.le_nil _ | refine Fr.le_cons rfl ?_)) (ih (i + 1, p, bb, ea, en, ec, ka, kn, kc) w ⟨by simp only; omega, by simp only; omega, htk.trans (hbb ▸ step4 h4), hnp, hw.sub (by (repeat (first | with_reducible exact Sub.refl _ | exact Sub.nil _ | (apply Sub.cons; focus ((repeat (first | with_reducible exact Pick.here _ | apply Pick.there)); (first | done | fail))) | with_reducible apply Sub.drop)); first | done | fail)⟩ (by simp only; omega)) | exact g_le (by repeat (first | exact Fr.le_nil _ | refine Fr.le_cons rfl ?_)) (ih (i + 1, p, b, ea, en, ec, ka, kn, kc) w ⟨by simp only; omega, by simp only; omega, htk.trans (stepNo h3 h4 (fun hh => by first | exact h6 hh.2 | omega)), hnp, hw.sub (by (repeat (first | with_reducible exact Sub.refl _ | exact Sub.nil _ | (apply Sub.cons; focus ((repeat (first | with_reducible exact Pick.here _ | apply Pick.there)); (first | done | fail))) | with_reducible apply Sub.drop)); first | done | fail)⟩ (by simp only; omega))
                                · try with_reducible exact tf_elim g15_3
                                  all_goals
                                    try replace g15_3 := of_decide_eq_false g15_3
                                    try (first | (exfalso; omega))
                                    all_goals
                                      first | (refine rs_kvg 4 rfl (met_on rfl rfl rfl rfl) rfl rfl (S' := fun _ => True) trivial (v_fieldAddr0 T.fld_49_0_0 rfl) ?_) | (refine rs_kvg 4 rfl (met_on rfl rfl rfl rfl) rfl rfl (S' := fun _ => True) trivial (v_fieldAddr T.fld_49_0_0 rfl) ?_)
                                      refine rs_kvg 5 rfl (met_on rfl rfl rfl rfl) rfl rfl (by first | exact sat_cell hw (by (repeat (first | with_reducible exact Pick.here _ | apply Pick.there)); first | done | fail) rfl | exact own_cell hw (by (repeat (first | with_reducible exact Pick.here _ | apply Pick.there)); first | done | fail) (by first | rfl | assumption) | exact ro_at0 hw (by (repeat (first | with_reducible exact Pick.here _ | apply Pick.there)); first | done | fail) (by assumption) rfl | exact ro_at hw (by (repeat (first | with_reducible exact Pick.here _ | apply Pick.there)); first | done | fail) (by assumption) rfl | exact own_at0 hw (by (repeat (first | with_reducible exact Pick.here _ | apply Pick.there)); first | done | fail) (by assumption) rfl | exact own_at hw (by (repeat (first | with_reducible exact Pick.here _ | apply Pick.there)); first | done | fail) (by assumption) rfl | exact old_cell hw (by (repeat (first | with_reducible exact Pick.here _ | apply Pick.there)); first | done | fail) (by assumption) | assumption) (v_load T.scal_3 rfl) ?_
                                      first | (refine rs_kvg 6 rfl (met_on rfl rfl rfl rfl) rfl rfl (S' := fun _ => True) trivial (v_gtrT rfl rfl (by omega)) ?_) | (refine rs_kvg 6 rfl (met_on rfl rfl rfl rfl) rfl rfl (S' := fun _ => True) trivial (v_gtrF rfl rfl (by omega)) ?_) | (refine rs_kvg 6 rfl (met_on rfl rfl rfl rfl) rfl rfl (S' := fun _ => True) trivial (v_gtr rfl rfl) ?_)
                                      first | (refine rs_kv 7 rfl rfl rfl rfl (S' := fun _ => True) trivial (v_pick_true rfl rfl) ?_) | (refine rs_kv 7 rfl rfl rfl rfl (S' := fun _ => True) trivial (v_pick_false rfl rfl) ?_) | (refine rs_kv 7 rfl rfl rfl rfl (S' := fun _ => True) trivial (v_pick rfl rfl rfl) ?_)
                                      refine rs_kv 8 rfl rfl rfl rfl (S' := fun _ => True) trivial (v_move rfl) ?_
                                      refine rs_split (s := 56) rfl (fun g15_8 => ?_) (fun g15_8 => ?_)
                                      · try with_reducible exact ft_elim g15_8
                                        all_goals
                                          try replace g15_8 := of_decide_eq_true g15_8
                                          try (first | (exfalso; omega))
                                          all_goals
                                            first | (refine rs_ag 9 rfl (met_on rfl rfl rfl rfl) rfl rfl (v_fieldAddr0 T.fld_49_1_1 rfl) ?_) | (refine rs_ag 9 rfl (met_on rfl rfl rfl rfl) rfl rfl (v_fieldAddr T.fld_49_1_1 rfl) ?_)
                                            refine rs_vg 10 rfl (met_on rfl rfl rfl rfl) rfl rfl (OpV.mono (v_load T.scal_3 rfl) (fun w hw => by first | exact sat_cell hw (by (repeat (first | with_reducible exact Pick.here _ | apply Pick.there)); first | done | fail) rfl | exact own_cell hw (by (repeat (first | with_reducible exact Pick.here _ | apply Pick.there)); first | done | fail) (by first | rfl | assumption) | exact ro_at0 hw (by (repeat (first | with_reducible exact Pick.here _ | apply Pick.there)); first | done | fail) (by assumption) rfl | exact ro_at hw (by (repeat (first | with_reducible exact Pick.here _ | apply Pick.there)); first | done | fail) (by assumption) rfl | exact own_at0 hw (by (repeat (first | with_reducible exact Pick.here _ | apply Pick.there)); first | done | fail) (by assumption) rfl | exact own_at hw (by (repeat (first | with_reducible exact Pick.here _ | apply Pick.there)); first | done | fail) (by assumption) rfl | exact old_cell hw (by (repeat (first | with_reducible exact Pick.here _ | apply Pick.there)); first | done | fail) (by assumption) | assumption)) (by first | exact hw | exact Sat.sub hw (by (repeat (first | with_reducible exact Sub.refl _ | exact Sub.nil _ | (apply Sub.cons; focus ((repeat (first | with_reducible exact Pick.here _ | apply Pick.there)); (first | done | fail))) | with_reducible apply Sub.drop)); first | done | fail)) ?_
                                            refine rs_vg 12 rfl (met_on rfl rfl rfl rfl) rfl rfl (OpV.mono (v_loadAgg (vs := [_, _, _, _]) T.agg_34_4 rfl rfl) (fun w hw => by first | exact sat_cells hw (by (repeat (first | with_reducible exact Pick.here _ | apply Pick.there)); first | done | fail) ⟨rfl, rfl, rfl, rfl, trivial⟩ | exact ro_ats hw (by (repeat (first | with_reducible exact Pick.here _ | apply Pick.there)); first | done | fail) (by assumption) | exact own_cells hw (by (repeat (first | with_reducible exact Pick.here _ | apply Pick.there)); first | done | fail) (by assumption) | exact old_cells hw (by (repeat (first | with_reducible exact Pick.here _ | apply Pick.there)); first | done | fail) (by assumption))) (by first | exact hw | exact Sat.sub hw (by (repeat (first | with_reducible exact Sub.refl _ | exact Sub.nil _ | (apply Sub.cons; focus ((repeat (first | with_reducible exact Pick.here _ | apply Pick.there)); (first | done | fail))) | with_reducible apply Sub.drop)); first | done | fail)) ?_
                                            refine rs_kg 11 rfl (met_on rfl rfl rfl rfl) (k_callf Try.func11 rfl rfl rfl rfl ?_)
                                            refine Calls.mono (of_calls _ hw) ?_
                                            rintro _ w ⟨rfl, hw⟩
                                            refine ⟨_, rfl, ?_⟩
                                            refine ⟨fun _ => (by first | exact hw | exact Sat.sub hw (by (repeat (first | with_reducible exact Sub.refl _ | exact Sub.nil _ | (apply Sub.cons; focus ((repeat (first | with_reducible exact Pick.here _ | apply Pick.there)); (first | done | fail))) | with_reducible apply Sub.drop)); first | done | fail) | exact Sat.sub (Sat.shrink (Sat.pick hw (by (repeat (first | with_reducible exact Pick.here _ | apply Pick.there)); first | done | fail)) (by assumption)) (by (repeat (first | with_reducible exact Sub.refl _ | exact Sub.nil _ | (apply Sub.cons; focus ((repeat (first | with_reducible exact Pick.here _ | apply Pick.there)); (first | done | fail))) | with_reducible apply Sub.drop)); first | done | fail)), ?_⟩
                                            refine rs_kvg 13 rfl (met_on rfl rfl rfl rfl) rfl rfl (S' := fun _ => True) trivial (v_eqlAgg T.cmp_34_iiii rfl rfl rfl rfl (by first | exact eq_Rf _ _ | rfl)) ?_
                                            first | (refine rs_kv 14 rfl rfl rfl rfl (S' := fun _ => True) trivial (v_pick_true rfl rfl) ?_) | (refine rs_kv 14 rfl rfl rfl rfl (S' := fun _ => True) trivial (v_pick_false rfl rfl) ?_) | (refine rs_kv 14 rfl rfl rfl rfl (S' := fun _ => True) trivial (v_pick rfl rfl rfl) ?_)
                                            refine rs_done (g_le (Fr.le_keep (Fr.le_keep (Fr.le_keep (Fr.le_keep (Fr.le_keep (Fr.le_keep (Fr.le_keep (Fr.le_keep (Fr.le_keep (Fr.le_keep (Fr.le_keep (Fr.le_keep (Fr.le_keep (Fr.le_keep (Fr.le_keep (Fr.le_keep (Fr.le_keep (Fr.le_refl _)))))))))))))))))) ?_)
                                            refine g_cond rfl (fun h6 => ?_) (fun h6 => ?_)
                                            · try with_reducible exact ft_elim h6
                                              all_goals
                                                try replace h6 := of_decide_eq_true h6
                                                try (first | (exfalso; omega))
                                                all_goals
                                                  refine g_seq ?_
                                                  refine g_region ?_
                                                  first | (refine rl_v rfl rfl rfl (S := fun _ => True) trivial (v_fieldAddr0 T.fld_49_2_2 rfl) ?_) | (refine rl_v rfl rfl rfl (S := fun _ => True) trivial (v_fieldAddr T.fld_49_2_2 rfl) ?_)
                                                  refine rl_v rfl rfl rfl (by first | exact sat_cells hw (by (repeat (first | with_reducible exact Pick.here _ | apply Pick.there)); first | done | fail) ⟨rfl, rfl, rfl, trivial⟩ | exact ro_ats hw (by (repeat (first | with_reducible exact Pick.here _ | apply Pick.there)); first | done | fail) (by assumption) | exact own_cells hw (by (repeat (first | with_reducible exact Pick.here _ | apply Pick.there)); first | done | fail) (by assumption) | exact old_cells hw (by (repeat (first | with_reducible exact Pick.here _ | apply Pick.there)); first | done | fail) (by assumption)) (v_loadAgg (vs := [_, _, _]) T.agg_25_3 rfl rfl) ?_
                                                  first | (refine rl_k rfl (k_storeWhole hw T.agg_25_3 rfl rfl (by simp [Value.oneCell']) rfl (by (repeat (first | with_reducible exact Pick.here _ | apply Pick.there)); first | done | fail) rfl (fun w hw => ?_))) | (refine rl_k rfl (k_storeAgg hw T.agg_25_3 rfl rfl (by simp [Value.oneCell']) rfl (by (repeat (first | with_reducible exact Pick.here _ | apply Pick.there)); first | done | fail) rfl rfl (fun w hw => ?_))) | (refine rl_k rfl (k_storeOwnAgg hw T.agg_25_3 rfl rfl (by simp [Value.oneCell']) rfl (by (repeat (first | with_reducible exact Pick.here _ | apply Pick.there)); first | done | fail) (by assumption) (by omega) (fun w hw => ?_)))
                                                  refine rl_nil (g_le (Fr.le_keep (Fr.le_keep (Fr.le_refl _))) ?_)
                                                  refine g_region ?_
                                                  refine rl_v rfl rfl rfl (S := fun _ => True) trivial (v_assign rfl) ?_
                                                  refine rl_nil (g_le (Fr.le_keep (Fr.le_refl _)) ?_)
                                                  refine g_inBlock ?_
                                                  refine g_region ?_
                                                  first | (refine rl_v rfl rfl rfl (S := fun _ => True) trivial (v_add rfl rfl (by omega)) ?_) | (refine rl_v rfl rfl rfl (S := fun _ => True) trivial (v_addW rfl rfl) ?_)
                                                  refine rl_v rfl rfl rfl (S := fun _ => True) trivial (v_move rfl) ?_
                                                  refine rl_nil (g_le (Fr.le_keep (Fr.le_keep (Fr.le_refl _))) ?_)
                                                  exact g_le (by repeat (first | exact Fr.le_nil _ | refine Fr.le_cons rfl ?_)) (ih (i + 1, x.n, true, qa1, qn1, qk1, qa2, qn2, qk2) w ⟨by simp only; omega, by simp only; omega, htk.trans (stepPut (by omega) h6), hnd, hw.sub (by (repeat (first | with_reducible exact Sub.refl _ | exact Sub.nil _ | (apply Sub.cons; focus ((repeat (first | with_reducible exact Pick.here _ | apply Pick.there)); (first | done | fail))) | with_reducible apply Sub.drop)); first | done | fail)⟩ (by simp only; omega))
                                            · try with_reducible exact tf_elim h6
                                              all_goals
                                                try replace h6 := of_decide_eq_false h6
                                                try (first | (exfalso; omega))
                                                all_goals
                                                  refine g_skip (g_inBlock ?_)
                                                  refine g_region ?_
                                                  first | (refine rl_v rfl rfl rfl (S := fun _ => True) trivial (v_add rfl rfl (by omega)) ?_) | (refine rl_v rfl rfl rfl (S := fun _ => True) trivial (v_addW rfl rfl) ?_)
                                                  refine rl_v rfl rfl rfl (S := fun _ => True) trivial (v_move rfl) ?_
                                                  refine rl_nil (g_le (Fr.le_keep (Fr.le_keep (Fr.le_refl _))) ?_)
                                                  first | exact g_le (by repeat (first | exact Fr.le_nil _ | refine Fr.le_cons rfl ?_)) (ih (i + 1, p, false, ea, en, ec, ka, kn, kc) w ⟨by simp only; omega, by simp only; omega, htk.trans (step5 h3), hnp, hw.sub (by (repeat (first | with_reducible exact Sub.refl _ | exact Sub.nil _ | (apply Sub.cons; focus ((repeat (first | with_reducible exact Pick.here _ | apply Pick.there)); (first | done | fail))) | with_reducible apply Sub.drop)); first | done | fail)⟩ (by simp only; omega)) | exact g_le (by repeat (first | exact Fr.le_nil _ | refine Fr.le_cons rfl ?_)) (ih (i + 1, p, bb, ea, en, ec, ka, kn, kc) w ⟨by simp only; omega, by simp only; omega, htk.trans (hbb ▸ step4 h4), hnp, hw.sub (by (repeat (first | with_reducible exact Sub.refl _ | exact Sub.nil _ | (apply Sub.cons; focus ((repeat (first | with_reducible exact Pick.here _ | apply Pick.there)); (first | done | fail))) | with_reducible apply Sub.drop)); first | done | fail)⟩ (by simp only; omega)) | exact g_le (by repeat (first | exact Fr.le_nil _ | refine Fr.le_cons rfl ?_)) (ih (i + 1, p, b, ea, en, ec, ka, kn, kc) w ⟨by simp only; omega, by simp only; omega, htk.trans (stepNo h3 h4 (fun hh => by first | exact h6 hh.2 | omega)), hnp, hw.sub (by (repeat (first | with_reducible exact Sub.refl _ | exact Sub.nil _ | (apply Sub.cons; focus ((repeat (first | with_reducible exact Pick.here _ | apply Pick.there)); (first | done | fail))) | with_reducible apply Sub.drop)); first | done | fail)⟩ (by simp only; omega))
                                      · try with_reducible exact tf_elim g15_8
                                        all_goals
                                          try replace g15_8 := of_decide_eq_false g15_8
                                          try (first | (exfalso; omega))
                                          all_goals
                                            refine rs_aoff 9 rfl (met_off rfl rfl rfl rfl rfl) rfl rfl ?_
                                            refine rs_voff 10 rfl (met_off rfl rfl rfl rfl rfl) rfl rfl (by first | exact hw | exact Sat.sub hw (by (repeat (first | with_reducible exact Sub.refl _ | exact Sub.nil _ | (apply Sub.cons; focus ((repeat (first | with_reducible exact Pick.here _ | apply Pick.there)); (first | done | fail))) | with_reducible apply Sub.drop)); first | done | fail)) ?_
                                            refine rs_voff 12 rfl (met_off rfl rfl rfl rfl rfl) rfl rfl (by first | exact hw | exact Sat.sub hw (by (repeat (first | with_reducible exact Sub.refl _ | exact Sub.nil _ | (apply Sub.cons; focus ((repeat (first | with_reducible exact Pick.here _ | apply Pick.there)); (first | done | fail))) | with_reducible apply Sub.drop)); first | done | fail)) ?_
                                            refine rs_koff 11 rfl (met_off rfl rfl rfl rfl rfl) rfl rfl ?_
                                            refine rs_koff 13 rfl (met_off rfl rfl rfl rfl rfl) rfl rfl ?_
                                            first | (refine rs_kv 14 rfl rfl rfl rfl (S' := fun _ => True) trivial (v_pick_true rfl rfl) ?_) | (refine rs_kv 14 rfl rfl rfl rfl (S' := fun _ => True) trivial (v_pick_false rfl rfl) ?_) | (refine rs_kv 14 rfl rfl rfl rfl (S' := fun _ => True) trivial (v_pick rfl rfl rfl) ?_)
                                            refine rs_done (g_le (Fr.le_keep (Fr.le_keep (Fr.le_keep (Fr.le_keep (Fr.le_keep (Fr.le_keep (Fr.le_keep (Fr.le_keep (Fr.le_keep (Fr.le_keep (Fr.le_keep (Fr.le_keep (Fr.le_keep (Fr.le_keep (Fr.le_keep (Fr.le_keep (Fr.le_keep (Fr.le_refl _)))))))))))))))))) ?_)
                                            refine g_cond_false rfl ?_
                                            refine g_skip (g_inBlock ?_)
                                            refine g_region ?_
                                            first | (refine rl_v rfl rfl rfl (S := fun _ => True) trivial (v_add rfl rfl (by omega)) ?_) | (refine rl_v rfl rfl rfl (S := fun _ => True) trivial (v_addW rfl rfl) ?_)
                                            refine rl_v rfl rfl rfl (S := fun _ => True) trivial (v_move rfl) ?_
                                            refine rl_nil (g_le (Fr.le_keep (Fr.le_keep (Fr.le_refl _))) ?_)
                                            first | exact g_le (by repeat (first | exact Fr.le_nil _ | refine Fr.le_cons rfl ?_)) (ih (i + 1, p, false, ea, en, ec, ka, kn, kc) w ⟨by simp only; omega, by simp only; omega, htk.trans (step5 h3), hnp, hw.sub (by (repeat (first | with_reducible exact Sub.refl _ | exact Sub.nil _ | (apply Sub.cons; focus ((repeat (first | with_reducible exact Pick.here _ | apply Pick.there)); (first | done | fail))) | with_reducible apply Sub.drop)); first | done | fail)⟩ (by simp only; omega)) | exact g_le (by repeat (first | exact Fr.le_nil _ | refine Fr.le_cons rfl ?_)) (ih (i + 1, p, bb, ea, en, ec, ka, kn, kc) w ⟨by simp only; omega, by simp only; omega, htk.trans (hbb ▸ step4 h4), hnp, hw.sub (by (repeat (first | with_reducible exact Sub.refl _ | exact Sub.nil _ | (apply Sub.cons; focus ((repeat (first | with_reducible exact Pick.here _ | apply Pick.there)); (first | done | fail))) | with_reducible apply Sub.drop)); first | done | fail)⟩ (by simp only; omega)) | exact g_le (by repeat (first | exact Fr.le_nil _ | refine Fr.le_cons rfl ?_)) (ih (i + 1, p, b, ea, en, ec, ka, kn, kc) w ⟨by simp only; omega, by simp only; omega, htk.trans (stepNo h3 h4 (fun hh => by first | exact h6 hh.2 | omega)), hnp, hw.sub (by (repeat (first | with_reducible exact Sub.refl _ | exact Sub.nil _ | (apply Sub.cons; focus ((repeat (first | with_reducible exact Pick.here _ | apply Pick.there)); (first | done | fail))) | with_reducible apply Sub.drop)); first | done | fail)⟩ (by simp only; omega))
                    · try with_reducible exact tf_elim h4
                      all_goals
                        try replace h4 := of_decide_eq_false h4
                        try (first | (exfalso; omega))
                        all_goals
                          refine g_skip (g_seq ?_)
                          refine g_drawR ord_f24_r15_C15l (by kernel_rfl) T.mixed hw (fun w hw => ?_)
                          first | (refine rs_kv 0 rfl rfl rfl rfl (S' := fun _ => True) trivial (v_fieldAddr0 T.fld_49_0_0 rfl) ?_) | (refine rs_kv 0 rfl rfl rfl rfl (S' := fun _ => True) trivial (v_fieldAddr T.fld_49_0_0 rfl) ?_)
                          refine rs_kv 1 rfl rfl rfl rfl (by first | exact sat_cell hw (by (repeat (first | with_reducible exact Pick.here _ | apply Pick.there)); first | done | fail) rfl | exact own_cell hw (by (repeat (first | with_reducible exact Pick.here _ | apply Pick.there)); first | done | fail) (by first | rfl | assumption) | exact ro_at0 hw (by (repeat (first | with_reducible exact Pick.here _ | apply Pick.there)); first | done | fail) (by assumption) rfl | exact ro_at hw (by (repeat (first | with_reducible exact Pick.here _ | apply Pick.there)); first | done | fail) (by assumption) rfl | exact own_at0 hw (by (repeat (first | with_reducible exact Pick.here _ | apply Pick.there)); first | done | fail) (by assumption) rfl | exact own_at hw (by (repeat (first | with_reducible exact Pick.here _ | apply Pick.there)); first | done | fail) (by assumption) rfl | exact old_cell hw (by (repeat (first | with_reducible exact Pick.here _ | apply Pick.there)); first | done | fail) (by assumption) | assumption) (v_load T.scal_3 rfl) ?_
                          first | (refine rs_kv 2 rfl rfl rfl rfl (S' := fun _ => True) trivial (v_lssT rfl rfl (by omega)) ?_) | (refine rs_kv 2 rfl rfl rfl rfl (S' := fun _ => True) trivial (v_lssF rfl rfl (by omega)) ?_) | (refine rs_kv 2 rfl rfl rfl rfl (S' := fun _ => True) trivial (v_lss rfl rfl) ?_)
                          refine rs_kv 3 rfl rfl rfl rfl (S' := fun _ => True) trivial (v_move rfl) ?_
                          refine rs_split (s := 51) rfl (fun g15_3 => ?_) (fun g15_3 => ?_)
                          · try with_reducible exact ft_elim g15_3
                            all_goals
                              try replace g15_3 := of_decide_eq_true g15_3
                              try (first | (exfalso; omega))
                              all_goals
                                refine rs_koff 4 rfl (met_off rfl rfl rfl rfl rfl) rfl rfl ?_
                                refine rs_koff 5 rfl (met_off rfl rfl rfl rfl rfl) rfl rfl ?_
                                refine rs_koff 6 rfl (met_off rfl rfl rfl rfl rfl) rfl rfl ?_
                                first | (refine rs_kv 7 rfl rfl rfl rfl (S' := fun _ => True) trivial (v_pick_true rfl rfl) ?_) | (refine rs_kv 7 rfl rfl rfl rfl (S' := fun _ => True) trivial (v_pick_false rfl rfl) ?_) | (refine rs_kv 7 rfl rfl rfl rfl (S' := fun _ => True) trivial (v_pick rfl rfl rfl) ?_)
                                refine rs_kv 8 rfl rfl rfl rfl (S' := fun _ => True) trivial (v_move rfl) ?_
                                first | (refine rs_ag 9 rfl (met_on rfl rfl rfl rfl) rfl rfl (v_fieldAddr0 T.fld_49_1_1 rfl) ?_) | (refine rs_ag 9 rfl (met_on rfl rfl rfl rfl) rfl rfl (v_fieldAddr T.fld_49_1_1 rfl) ?_)
                                refine rs_vg 10 rfl (met_on rfl rfl rfl rfl) rfl rfl (OpV.mono (v_load T.scal_3 rfl) (fun w hw => by first | exact sat_cell hw (by (repeat (first | with_reducible exact Pick.here _ | apply Pick.there)); first | done | fail) rfl | exact own_cell hw (by (repeat (first | with_reducible exact Pick.here _ | apply Pick.there)); first | done | fail) (by first | rfl | assumption) | exact ro_at0 hw (by (repeat (first | with_reducible exact Pick.here _ | apply Pick.there)); first | done | fail) (by assumption) rfl | exact ro_at hw (by (repeat (first | with_reducible exact Pick.here _ | apply Pick.there)); first | done | fail) (by assumption) rfl | exact own_at0 hw (by (repeat (first | with_reducible exact Pick.here _ | apply Pick.there)); first | done | fail) (by assumption) rfl | exact own_at hw (by (repeat (first | with_reducible exact Pick.here _ | apply Pick.there)); first | done | fail) (by assumption) rfl | exact old_cell hw (by (repeat (first | with_reducible exact Pick.here _ | apply Pick.there)); first | done | fail) (by assumption) | assumption)) (by first | exact hw | exact Sat.sub hw (by (repeat (first | with_reducible exact Sub.refl _ | exact Sub.nil _ | (apply Sub.cons; focus ((repeat (first | with_reducible exact Pick.here _ | apply Pick.there)); (first | done | fail))) | with_reducible apply Sub.drop)); first | done | fail)) ?_
                                refine rs_vg 12 rfl (met_on rfl rfl rfl rfl) rfl rfl (OpV.mono (v_loadAgg (vs := [_, _, _, _]) T.agg_34_4 rfl rfl) (fun w hw => by first | exact sat_cells hw (by (repeat (first | with_reducible exact Pick.here _ | apply Pick.there)); first | done | fail) ⟨rfl, rfl, rfl, rfl, trivial⟩ | exact ro_ats hw (by (repeat (first | with_reducible exact Pick.here _ | apply Pick.there)); first | done | fail) (by assumption) | exact own_cells hw (by (repeat (first | with_reducible exact Pick.here _ | apply Pick.there)); first | done | fail) (by assumption) | exact old_cells hw (by (repeat (first | with_reducible exact Pick.here _ | apply Pick.there)); first | done | fail) (by assumption))) (by first | exact hw | exact Sat.sub hw (by (repeat (first | with_reducible exact Sub.refl _ | exact Sub.nil _ | (apply Sub.cons; focus ((repeat (first | with_reducible exact Pick.here _ | apply Pick.there)); (first | done | fail))) | with_reducible apply Sub.drop)); first | done | fail)) ?_
                                refine rs_kg 11 rfl (met_on rfl rfl rfl rfl) (k_callf Try.func11 rfl rfl rfl rfl ?_)
                                refine Calls.mono (of_calls _ hw) ?_
                                rintro _ w ⟨rfl, hw⟩
                                refine ⟨_, rfl, ?_⟩
                                refine ⟨fun _ => (by first | exact hw | exact Sat.sub hw (by (repeat (first | with_reducible exact Sub.refl _ | exact Sub.nil _ | (apply Sub.cons; focus ((repeat (first | with_reducible exact Pick.here _ | apply Pick.there)); (first | done | fail))) | with_reducible apply Sub.drop)); first | done | fail) | exact Sat.sub (Sat.shrink (Sat.pick hw (by (repeat (first | with_reducible exact Pick.here _ | apply Pick.there)); first | done | fail)) (by assumption)) (by (repeat (first | with_reducible exact Sub.refl _ | exact Sub.nil _ | (apply Sub.cons; focus ((repeat (first | with_reducible exact Pick.here _ | apply Pick.there)); (first | done | fail))) | with_reducible apply Sub.drop)); first | done | fail)), ?_⟩
                                refine rs_kvg 13 rfl (met_on rfl rfl rfl rfl) rfl rfl (S' := fun _ => True) trivial (v_eqlAgg T.cmp_34_iiii rfl rfl rfl rfl (by first | exact eq_Rf _ _ | rfl)) ?_
                                first | (refine rs_kv 14 rfl rfl rfl rfl (S' := fun _ => True) trivial (v_pick_true rfl rfl) ?_) | (refine rs_kv 14 rfl rfl rfl rfl (S' := fun _ => True) trivial (v_pick_false rfl rfl) ?_) | (refine rs_kv 14 rfl rfl rfl rfl (S' := fun _ => True) trivial (v_pick rfl rfl rfl) ?_)
                                refine rs_done (g_le (Fr.le_keep (Fr.le_keep (Fr.le_keep (Fr.le_keep (Fr.le_keep (Fr.le_keep (Fr.le_keep (Fr.le_keep (Fr.le_keep (Fr.le_keep (Fr.le_keep (Fr.le_keep (Fr.le_keep (Fr.le_keep (Fr.le_keep (Fr.le_keep (Fr.le_refl _))))))))))))))))) ?_)
                                refine g_cond rfl (fun h6 => ?_) (fun h6 => ?_)
                                · try with_reducible exact ft_elim h6
                                  all_goals
                                    try replace h6 := of_decide_eq_true h6
                                    try (first | (exfalso; omega))
                                    all_goals
                                      refine g_seq ?_
                                      refine g_region ?_
                                      first | (refine rl_v rfl rfl rfl (S := fun _ => True) trivial (v_fieldAddr0 T.fld_49_2_2 rfl) ?_) | (refine rl_v rfl rfl rfl (S := fun _ => True) trivial (v_fieldAddr T.fld_49_2_2 rfl) ?_)
                                      refine rl_v rfl rfl rfl (by first | exact sat_cells hw (by (repeat (first | with_reducible exact Pick.here _ | apply Pick.there)); first | done | fail) ⟨rfl, rfl, rfl, trivial⟩ | exact ro_ats hw (by (repeat (first | with_reducible exact Pick.here _ | apply Pick.there)); first | done | fail) (by assumption) | exact own_cells hw (by (repeat (first | with_reducible exact Pick.here _ | apply Pick.there)); first | done | fail) (by assumption) | exact old_cells hw (by (repeat (first | with_reducible exact Pick.here _ | apply Pick.there)); first | done | fail) (by assumption)) (v_loadAgg (vs := [_, _, _]) T.agg_25_3 rfl rfl) ?_
                                      first | (refine rl_k rfl (k_storeWhole hw T.agg_25_3 rfl rfl (by simp [Value.oneCell']) rfl (by (repeat (first | with_reducible exact Pick.here _ | apply Pick.there)); first | done | fail) rfl (fun w hw => ?_))) | (refine rl_k rfl (k_storeAgg hw T.agg_25_3 rfl rfl (by simp [Value.oneCell']) rfl (by (repeat (first | with_reducible exact Pick.here _ | apply Pick.there)); first | done | fail) rfl rfl (fun w hw => ?_))) | (refine rl_k rfl (k_storeOwnAgg hw T.agg_25_3 rfl rfl (by simp [Value.oneCell']) rfl (by (repeat (first | with_reducible exact Pick.here _ | apply Pick.there)); first | done | fail) (by assumption) (by omega) (fun w hw => ?_)))
                                      refine rl_nil (g_le (Fr.le_keep (Fr.le_keep (Fr.le_refl _))) ?_)
                                      refine g_region ?_
                                      refine rl_v rfl rfl rfl (S := fun _ => True) trivial (v_assign rfl) ?_
                                      refine rl_nil (g_le (Fr.le_keep (Fr.le_refl _)) ?_)
                                      refine g_inBlock ?_
                                      refine g_region ?_
                                      first | (refine rl_v rfl rfl rfl (S := fun _ => True) trivial (v_add rfl rfl (by omega)) ?_) | (refine rl_v rfl rfl rfl (S := fun _ => True) trivial (v_addW rfl rfl) ?_)
                                      refine rl_v rfl rfl rfl (S := fun _ => True) trivial (v_move rfl) ?_
                                      refine rl_nil (g_le (Fr.le_keep (Fr.le_keep (Fr.le_refl _))) ?_)
                                      exact g_le (by repeat (first | exact Fr.le_nil _ | refine Fr.le_cons rfl ?_)) (ih (i + 1, x.n, true, qa1, qn1, qk1, qa2, qn2, qk2) w ⟨by simp only; omega, by simp only; omega, htk.trans (stepPut (by omega) h6), hnd, hw.sub (by (repeat (first | with_reducible exact Sub.refl _ | exact Sub.nil _ | (apply Sub.cons; focus ((repeat (first | with_reducible exact Pick.here _ | apply Pick.there)); (first | done | fail))) | with_reducible apply Sub.drop)); first | done | fail)⟩ (by simp only; omega))
                                · try with_reducible exact tf_elim h6
                                  all_goals
                                    try replace h6 := of_decide_eq_false h6
                                    try (first | (exfalso; omega))
                                    all_goals
                                      refine g_skip (g_inBlock ?_)
                                      refine g_region ?_
                                      first | (refine rl_v rfl rfl rfl (S := fun _ => True) trivial (v_add rfl rfl (by omega)) ?_) | (refine rl_v rfl rfl rfl (S := fun _ => True) trivial (v_addW rfl rfl) ?_)
                                      refine rl_v rfl rfl rfl (S := fun _ => True) trivial (v_move rfl) ?_
                                      refine rl_nil (g_le (Fr.le_keep (Fr.le_keep (Fr.le_refl _))) ?_)
                                      first | exact g_le (by repeat (first | exact Fr.le_nil _ | refine Fr.le_cons rfl ?_)) (ih (i + 1, p, false, ea, en, ec, ka, kn, kc) w ⟨by simp only; omega, by simp only; omega, htk.trans (step5 h3), hnp, hw.sub (by (repeat (first | with_reducible exact Sub.refl _ | exact Sub.nil _ | (apply Sub.cons; focus ((repeat (first | with_reducible exact Pick.here _ | apply Pick.there)); (first | done | fail))) | with_reducible apply Sub.drop)); first | done | fail)⟩ (by simp only; omega)) | exact g_le (by repeat (first | exact Fr.le_nil _ | refine Fr.le_cons rfl ?_)) (ih (i + 1, p, bb, ea, en, ec, ka, kn, kc) w ⟨by simp only; omega, by simp only; omega, htk.trans (hbb ▸ step4 h4), hnp, hw.sub (by (repeat (first | with_reducible exact Sub.refl _ | exact Sub.nil _ | (apply Sub.cons; focus ((repeat (first | with_reducible exact Pick.here _ | apply Pick.there)); (first | done | fail))) | with_reducible apply Sub.drop)); first | done | fail)⟩ (by simp only; omega)) | exact g_le (by repeat (first | exact Fr.le_nil _ | refine Fr.le_cons rfl ?_)) (ih (i + 1, p, b, ea, en, ec, ka, kn, kc) w ⟨by simp only; omega, by simp only; omega, htk.trans (stepNo h3 h4 (fun hh => by first | exact h6 hh.2 | omega)), hnp, hw.sub (by (repeat (first | with_reducible exact Sub.refl _ | exact Sub.nil _ | (apply Sub.cons; focus ((repeat (first | with_reducible exact Pick.here _ | apply Pick.there)); (first | done | fail))) | with_reducible apply Sub.drop)); first | done | fail)⟩ (by simp only; omega))
                          · try with_reducible exact tf_elim g15_3
                            all_goals
                              try replace g15_3 := of_decide_eq_false g15_3
                              try (first | (exfalso; omega))
                              all_goals
                                first | (refine rs_kvg 4 rfl (met_on rfl rfl rfl rfl) rfl rfl (S' := fun _ => True) trivial (v_fieldAddr0 T.fld_49_0_0 rfl) ?_) | (refine rs_kvg 4 rfl (met_on rfl rfl rfl rfl) rfl rfl (S' := fun _ => True) trivial (v_fieldAddr T.fld_49_0_0 rfl) ?_)
                                refine rs_kvg 5 rfl (met_on rfl rfl rfl rfl) rfl rfl (by first | exact sat_cell hw (by (repeat (first | with_reducible exact Pick.here _ | apply Pick.there)); first | done | fail) rfl | exact own_cell hw (by (repeat (first | with_reducible exact Pick.here _ | apply Pick.there)); first | done | fail) (by first | rfl | assumption) | exact ro_at0 hw (by (repeat (first | with_reducible exact Pick.here _ | apply Pick.there)); first | done | fail) (by assumption) rfl | exact ro_at hw (by (repeat (first | with_reducible exact Pick.here _ | apply Pick.there)); first | done | fail) (by assumption) rfl | exact own_at0 hw (by (repeat (first | with_reducible exact Pick.here _ | apply Pick.there)); first | done | fail) (by assumption) rfl | exact own_at hw (by (repeat (first | with_reducible exact Pick.here _ | apply Pick.there)); first | done | fail) (by assumption) rfl | exact old_cell hw (by (repeat (first | with_reducible exact Pick.here _ | apply Pick.there)); first | done | fail) (by assumption) | assumption) (v_load T.scal_3 rfl) ?_
                                first | (refine rs_kvg 6 rfl (met_on rfl rfl rfl rfl) rfl rfl (S' := fun _ => True) trivial (v_gtrT rfl rfl (by omega)) ?_) | (refine rs_kvg 6 rfl (met_on rfl rfl rfl rfl) rfl rfl (S' := fun _ => True) trivial (v_gtrF rfl rfl (by omega)) ?_) | (refine rs_kvg 6 rfl (met_on rfl rfl rfl rfl) rfl rfl (S' := fun _ => True) trivial (v_gtr rfl rfl) ?_)
                                first | (refine rs_kv 7 rfl rfl rfl rfl (S' := fun _ => True) trivial (v_pick_true rfl rfl) ?_) | (refine rs_kv 7 rfl rfl rfl rfl (S' := fun _ => True) trivial (v_pick_false rfl rfl) ?_) | (refine rs_kv 7 rfl rfl rfl rfl (S' := fun _ => True) trivial (v_pick rfl rfl rfl) ?_)
                                refine rs_kv 8 rfl rfl rfl rfl (S' := fun _ => True) trivial (v_move rfl) ?_
                                refine rs_split (s := 56) rfl (fun g15_8 => ?_) (fun g15_8 => ?_)
                                · try with_reducible exact ft_elim g15_8
                                  all_goals
                                    try replace g15_8 := of_decide_eq_true g15_8
                                    try (first | (exfalso; omega))
                                    all_goals
                                      first | (refine rs_ag 9 rfl (met_on rfl rfl rfl rfl) rfl rfl (v_fieldAddr0 T.fld_49_1_1 rfl) ?_) | (refine rs_ag 9 rfl (met_on rfl rfl rfl rfl) rfl rfl (v_fieldAddr T.fld_49_1_1 rfl) ?_)
                                      refine rs_vg 10 rfl (met_on rfl rfl rfl rfl) rfl rfl (OpV.mono (v_load T.scal_3 rfl) (fun w hw => by first | exact sat_cell hw (by (repeat (first | with_reducible exact Pick.here _ | apply Pick.there)); first | done | fail) rfl | exact own_cell hw (by (repeat (first | with_reducible exact Pick.here _ | apply Pick.there)); first | done | fail) (by first | rfl | assumption) | exact ro_at0 hw (by (repeat (first | with_reducible exact Pick.here _ | apply Pick.there)); first | done | fail) (by assumption) rfl | exact ro_at hw (by (repeat (first | with_reducible exact Pick.here _ | apply Pick.there)); first | done | fail) (by assumption) rfl | exact own_at0 hw (by (repeat (first | with_reducible exact Pick.here _ | apply Pick.there)); first | done | fail) (by assumption) rfl | exact own_at hw (by (repeat (first | with_reducible exact Pick.here _ | apply Pick.there)); first | done | fail) (by assumption) rfl | exact old_cell hw (by (repeat (first | with_reducible exact Pick.here _ | apply Pick.there)); first | done | fail) (by assumption) | assumption)) (by first | exact hw | exact Sat.sub hw (by (repeat (first | with_reducible exact Sub.refl _ | exact Sub.nil _ | (apply Sub.cons; focus ((repeat (first | with_reducible exact Pick.here _ | apply Pick.there)); (first | done | fail))) | with_reducible apply Sub.drop)); first | done | fail)) ?_
                                      refine rs_vg 12 rfl (met_on rfl rfl rfl rfl) rfl rfl (OpV.mono (v_loadAgg (vs := [_, _, _, _]) T.agg_34_4 rfl rfl) (fun w hw => by first | exact sat_cells hw (by (repeat (first | with_reducible exact Pick.here _ | apply Pick.there)); first | done | fail) ⟨rfl, rfl, rfl, rfl, trivial⟩ | exact ro_ats hw (by (repeat (first | with_reducible exact Pick.here _ | apply Pick.there)); first | done | fail) (by assumption) | exact own_cells hw (by (repeat (first | with_reducible exact Pick.here _ | apply Pick.there)); first | done | fail) (by assumption) | exact old_cells hw (by (repeat (first | with_reducible exact Pick.here _ | apply Pick.there)); first | done | fail) (by assumption))) (by first | exact hw | exact Sat.sub hw (by (repeat (first | with_reducible exact Sub.refl _ | exact Sub.nil _ | (apply Sub.cons; focus ((repeat (first | with_reducible exact Pick.here _ | apply Pick.there)); (first | done | fail))) | with_reducible apply Sub.drop)); first | done | fail)) ?_
                                      refine rs_kg 11 rfl (met_on rfl rfl rfl rfl) (k_callf Try.func11 rfl rfl rfl rfl ?_)
                                      refine Calls.mono (of_calls _ hw) ?_
                                      rintro _ w ⟨rfl, hw⟩
                                      refine ⟨_, rfl, ?_⟩
                                      refine ⟨fun _ => (by first | exact hw | exact Sat.sub hw (by (repeat (first | with_reducible exact Sub.refl _ | exact Sub.nil _ | (apply Sub.cons; focus ((repeat (first | with_reducible exact Pick.here _ | apply Pick.there)); (first | done | fail))) | with_reducible apply Sub.drop)); first | done | fail) | exact Sat.sub (Sat.shrink (Sat.pick hw (by (repeat (first | with_reducible exact Pick.here _ | apply Pick.there)); first | done | fail)) (by assumption)) (by (repeat (first | with_reducible exact Sub.refl _ | exact Sub.nil _ | (apply Sub.cons; focus ((repeat (first | with_reducible exact Pick.here _ | apply Pick.there)); (first | done | fail))) | with_reducible apply Sub.drop)); first | done | fail)), ?_⟩
                                      refine rs_kvg 13 rfl (met_on rfl rfl rfl rfl) rfl rfl (S' := fun _ => True) trivial (v_eqlAgg T.cmp_34_iiii rfl rfl rfl rfl (by first | exact eq_Rf _ _ | rfl)) ?_
                                      first | (refine rs_kv 14 rfl rfl rfl rfl (S' := fun _ => True) trivial (v_pick_true rfl rfl) ?_) | (refine rs_kv 14 rfl rfl rfl rfl (S' := fun _ => True) trivial (v_pick_false rfl rfl) ?_) | (refine rs_kv 14 rfl rfl rfl rfl (S' := fun _ => True) trivial (v_pick rfl rfl rfl) ?_)
                                      refine rs_done (g_le (Fr.le_keep (Fr.le_keep (Fr.le_keep (Fr.le_keep (Fr.le_keep (Fr.le_keep (Fr.le_keep (Fr.le_keep (Fr.le_keep (Fr.le_keep (Fr.le_keep (Fr.le_keep (Fr.le_keep (Fr.le_keep (Fr.le_keep (Fr.le_keep (Fr.le_keep (Fr.le_refl _)))))))))))))))))) ?_)
                                      refine g_cond rfl (fun h6 => ?_) (fun h6 => ?_)
                                      · try with_reducible exact ft_elim h6
                                        all_goals
                                          try replace h6 := of_decide_eq_true h6
                                          try (first | (exfalso; omega))
                                          all_goals
                                            refine g_seq ?_
                                            refine g_region ?_
                                            first | (refine rl_v rfl rfl rfl (S := fun _ => True) trivial (v_fieldAddr0 T.fld_49_2_2 rfl) ?_) | (refine rl_v rfl rfl rfl (S := fun _ => True) trivial (v_fieldAddr T.fld_49_2_2 rfl) ?_)
                                            refine rl_v rfl rfl rfl (by first | exact sat_cells hw (by (repeat (first | with_reducible exact Pick.here _ | apply Pick.there)); first | done | fail) ⟨rfl, rfl, rfl, trivial⟩ | exact ro_ats hw (by (repeat (first | with_reducible exact Pick.here _ | apply Pick.there)); first | done | fail) (by assumption) | exact own_cells hw (by (repeat (first | with_reducible exact Pick.here _ | apply Pick.there)); first | done | fail) (by assumption) | exact old_cells hw (by (repeat (first | with_reducible exact Pick.here _ | apply Pick.there)); first | done | fail) (by assumption)) (v_loadAgg (vs := [_, _, _]) T.agg_25_3 rfl rfl) ?_
                                            first | (refine rl_k rfl (k_storeWhole hw T.agg_25_3 rfl rfl (by simp [Value.oneCell']) rfl (by (repeat (first | with_reducible exact Pick.here _ | apply Pick.there)); first | done | fail) rfl (fun w hw => ?_))) | (refine rl_k rfl (k_storeAgg hw T.agg_25_3 rfl rfl (by simp [Value.oneCell']) rfl (by (repeat (first | with_reducible exact Pick.here _ | apply Pick.there)); first | done | fail) rfl rfl (fun w hw => ?_))) | (refine rl_k rfl (k_storeOwnAgg hw T.agg_25_3 rfl rfl (by simp [Value.oneCell']) rfl (by (repeat (first | with_reducible exact Pick.here _ | apply Pick.there)); first | done | fail) (by assumption) (by omega) (fun w hw => ?_)))
                                            refine rl_nil (g_le (Fr.le_keep (Fr.le_keep (Fr.le_refl _))) ?_)
                                            refine g_region ?_
                                            refine rl_v rfl rfl rfl (S := fun _ => True) trivial (v_assign rfl) ?_
                                            refine rl_nil (g_le (Fr.le_keep (Fr.le_refl _)) ?_)
                                            refine g_inBlock ?_
                                            refine g_region ?_
                                            first | (refine rl_v rfl rfl rfl (S := fun _ => True) trivial (v_add rfl rfl (by omega)) ?_) | (refine rl_v rfl rfl rfl (S := fun _ => True) trivial (v_addW rfl rfl) ?_)
                                            refine rl_v rfl rfl rfl (S := fun _ => True) trivial (v_move rfl) ?_
                                            refine rl_nil (g_le (Fr.le_keep (Fr.le_keep (Fr.le_refl _))) ?_)
                                            exact g_le (by repeat (first | exact Fr.le_nil _ | refine Fr.le_cons rfl ?_)) (ih (i + 1, x.n, true, qa1, qn1, qk1, qa2, qn2, qk2) w ⟨by simp only; omega, by simp only; omega, htk.trans (stepPut (by omega) h6), hnd, hw.sub (by (repeat (first | with_reducible exact Sub.refl _ | exact Sub.nil _ | (apply Sub.cons; focus ((repeat (first | with_reducible exact Pick.here _ | apply Pick.there)); (first | done | fail))) | with_reducible apply Sub.drop)); first | done | fail)⟩ (by simp only; omega))
                                      · try with_reducible exact tf_elim h6
                                        all_goals
                                          try replace h6 := of_decide_eq_false h6
                                          try (first | (exfalso; omega))
                                          all_goals
                                            refine g_skip (g_inBlock ?_)
                                            refine g_region ?_
                                            first | (refine rl_v rfl rfl rfl (S := fun _ => True) trivial (v_add rfl rfl (by omega)) ?_) | (refine rl_v rfl rfl rfl (S := fun _ => True) trivial (v_addW rfl rfl) ?_)
                                            refine rl_v rfl rfl rfl (S := fun _ => True) trivial (v_move rfl) ?_
                                            refine rl_nil (g_le (Fr.le_keep (Fr.le_keep (Fr.le_refl _))) ?_)
                                            first | exact g_le (by repeat (first | exact Fr.le_nil _ | refine Fr.le_cons rfl ?_)) (ih (i + 1, p, false, ea, en, ec, ka, kn, kc) w ⟨by simp only; omega, by simp only; omega, htk.trans (step5 h3), hnp, hw.sub (by (repeat (first | with_reducible exact Sub.refl _ | exact Sub.nil _ | (apply Sub.cons; focus ((repeat (first | with_reducible exact Pick.here _ | apply Pick.there)); (first | done | fail))) | with_reducible apply Sub.drop)); first | done | fail)⟩ (by simp only; omega)) | exact g_le (by repeat (first | exact Fr.le_nil _ | refine Fr.le_cons rfl ?_)) (ih (i + 1, p, bb, ea, en, ec, ka, kn, kc) w ⟨by simp only; omega, by simp only; omega, htk.trans (hbb ▸ step4 h4), hnp, hw.sub (by (repeat (first | with_reducible exact Sub.refl _ | exact Sub.nil _ | (apply Sub.cons; focus ((repeat (first | with_reducible exact Pick.here _ | apply Pick.there)); (first | done | fail))) | with_reducible apply Sub.drop)); first | done | fail)⟩ (by simp only; omega)) | exact g_le (by repeat (first | exact Fr.le_nil _ | refine Fr.le_cons rfl ?_)) (ih (i + 1, p, b, ea, en, ec, ka, kn, kc) w ⟨by simp only; omega, by simp only; omega, htk.trans (stepNo h3 h4 (fun hh => by first | exact h6 hh.2 | omega)), hnp, hw.sub (by (repeat (first | with_reducible exact Sub.refl _ | exact Sub.nil _ | (apply Sub.cons; focus ((repeat (first | with_reducible exact Pick.here _ | apply Pick.there)); (first | done | fail))) | with_reducible apply Sub.drop)); first | done | fail)⟩ (by simp only; omega))
                                · try with_reducible exact tf_elim g15_8
                                  all_goals
                                    try replace g15_8 := of_decide_eq_false g15_8
                                    try (first | (exfalso; omega))
                                    all_goals
                                      refine rs_aoff 9 rfl (met_off rfl rfl rfl rfl rfl) rfl rfl ?_
                                      refine rs_voff 10 rfl (met_off rfl rfl rfl rfl rfl) rfl rfl (by first | exact hw | exact Sat.sub hw (by (repeat (first | with_reducible exact Sub.refl _ | exact Sub.nil _ | (apply Sub.cons; focus ((repeat (first | with_reducible exact Pick.here _ | apply Pick.there)); (first | done | fail))) | with_reducible apply Sub.drop)); first | done | fail)) ?_
                                      refine rs_voff 12 rfl (met_off rfl rfl rfl rfl rfl) rfl rfl (by first | exact hw | exact Sat.sub hw (by (repeat (first | with_reducible exact Sub.refl _ | exact Sub.nil _ | (apply Sub.cons; focus ((repeat (first | with_reducible exact Pick.here _ | apply Pick.there)); (first | done | fail))) | with_reducible apply Sub.drop)); first | done | fail)) ?_
                                      refine rs_koff 11 rfl (met_off rfl rfl rfl rfl rfl) rfl rfl ?_
                                      refine rs_koff 13 rfl (met_off rfl rfl rfl rfl rfl) rfl rfl ?_
                                      first | (refine rs_kv 14 rfl rfl rfl rfl (S' := fun _ => True) trivial (v_pick_true rfl rfl) ?_) | (refine rs_kv 14 rfl rfl rfl rfl (S' := fun _ => True) trivial (v_pick_false rfl rfl) ?_) | (refine rs_kv 14 rfl rfl rfl rfl (S' := fun _ => True) trivial (v_pick rfl rfl rfl) ?_)
                                      refine rs_done (g_le (Fr.le_keep (Fr.le_keep (Fr.le_keep (Fr.le_keep (Fr.le_keep (Fr.le_keep (Fr.le_keep (Fr.le_keep (Fr.le_keep (Fr.le_keep (Fr.le_keep (Fr.le_keep (Fr.le_keep (Fr.le_keep (Fr.le_keep (Fr.le_keep (Fr.le_keep (Fr.le_refl _)))))))))))))))))) ?_)
                                      refine g_cond_false rfl ?_
                                      refine g_skip (g_inBlock ?_)
                                      refine g_region ?_
                                      first | (refine rl_v rfl rfl rfl (S := fun _ => True) trivial (v_add rfl rfl (by omega)) ?_) | (refine rl_v rfl rfl rfl (S := fun _ => True) trivial (v_addW rfl rfl) ?_)
                                      refine rl_v rfl rfl rfl (S := fun _ => True) trivial (v_move rfl) ?_
                                      refine rl_nil (g_le (Fr.le_keep (Fr.le_keep (Fr.le_refl _))) ?_)
                                      first | exact g_le (by repeat (first | exact Fr.le_nil _ | refine Fr.le_cons rfl ?_)) (ih (i + 1, p, false, ea, en, ec, ka, kn, kc) w ⟨by simp only; omega, by simp only; omega, htk.trans (step5 h3), hnp, hw.sub (by (repeat (first | with_reducible exact Sub.refl _ | exact Sub.nil _ | (apply Sub.cons; focus ((repeat (first | with_reducible exact Pick.here _ | apply Pick.there)); (first | done | fail))) | with_reducible apply Sub.drop)); first | done | fail)⟩ (by simp only; omega)) | exact g_le (by repeat (first | exact Fr.le_nil _ | refine Fr.le_cons rfl ?_)) (ih (i + 1, p, bb, ea, en, ec, ka, kn, kc) w ⟨by simp only; omega, by simp only; omega, htk.trans (hbb ▸ step4 h4), hnp, hw.sub (by (repeat (first | with_reducible exact Sub.refl _ | exact Sub.nil _ | (apply Sub.cons; focus ((repeat (first | with_reducible exact Pick.here _ | apply Pick.there)); (first | done | fail))) | with_reducible apply Sub.drop)); first | done | fail)⟩ (by simp only; omega)) | exact g_le (by repeat (first | exact Fr.le_nil _ | refine Fr.le_cons rfl ?_)) (ih (i + 1, p, b, ea, en, ec, ka, kn, kc) w ⟨by simp only; omega, by simp only; omega, htk.trans (stepNo h3 h4 (fun hh => by first | exact h6 hh.2 | omega)), hnp, hw.sub (by (repeat (first | with_reducible exact Sub.refl _ | exact Sub.nil _ | (apply Sub.cons; focus ((repeat (first | with_reducible exact Pick.here _ | apply Pick.there)); (first | done | fail))) | with_reducible apply Sub.drop)); first | done | fail)⟩ (by simp only; omega))
  · try with_reducible exact tf_elim h1
    all_goals
      try replace h1 := of_decide_eq_false h1
      try (first | (exfalso; omega))
      all_goals
        refine g_exit rfl (g_seq ?_)
        refine g_region ?_
        refine rl_v rfl rfl rfl (by first | exact sat_cells hw (by (repeat (first | with_reducible exact Pick.here _ | apply Pick.there)); first | done | fail) ⟨rfl, rfl, rfl, trivial⟩ | exact ro_ats hw (by (repeat (first | with_reducible exact Pick.here _ | apply Pick.there)); first | done | fail) (by assumption) | exact own_cells hw (by (repeat (first | with_reducible exact Pick.here _ | apply Pick.there)); first | done | fail) (by assumption) | exact old_cells hw (by (repeat (first | with_reducible exact Pick.here _ | apply Pick.there)); first | done | fail) (by assumption)) (v_loadAgg (vs := [_, _, _]) T.agg_25_3 rfl rfl) ?_
        refine rl_v rfl rfl rfl (S := fun _ => True) trivial (v_move rfl) ?_
        first | (refine rl_k rfl (k_storeWhole hw T.agg_25_3 rfl rfl (by simp [Value.oneCell']) rfl (by (repeat (first | with_reducible exact Pick.here _ | apply Pick.there)); first | done | fail) rfl (fun w hw => ?_))) | (refine rl_k rfl (k_storeAgg hw T.agg_25_3 rfl rfl (by simp [Value.oneCell']) rfl (by (repeat (first | with_reducible exact Pick.here _ | apply Pick.there)); first | done | fail) rfl rfl (fun w hw => ?_))) | (refine rl_k rfl (k_storeOwnAgg hw T.agg_25_3 rfl rfl (by simp [Value.oneCell']) rfl (by (repeat (first | with_reducible exact Pick.here _ | apply Pick.there)); first | done | fail) (by assumption) (by omega) (fun w hw => ?_)))
        refine rl_v rfl rfl rfl (S := fun _ => True) trivial (v_assign rfl) ?_
        refine rl_nil (g_le (Fr.le_keep (Fr.le_skip rfl (Fr.le_skip rfl (Fr.le_refl _)))) ?_)
        refine g_res2 Try.func24 rfl ⟨_, rfl, holds_agg (vs := [_, _, _]) T.agg_25_3 rfl (by first | exact sat_cells hw (by (repeat (first | with_reducible exact Pick.here _ | apply Pick.there)); first | done | fail) ⟨rfl, rfl, rfl, trivial⟩ | exact ro_ats hw (by (repeat (first | with_reducible exact Pick.here _ | apply Pick.there)); first | done | fail) (by assumption) | exact own_cells hw (by (repeat (first | with_reducible exact Pick.here _ | apply Pick.there)); first | done | fail) (by assumption) | exact old_cells hw (by (repeat (first | with_reducible exact Pick.here _ | apply Pick.there)); first | done | fail) (by assumption))⟩ rfl ?_
        rw [show i.toNat = l.length by omega, List.take_length, hd, List.take_length] at hlo
        rw [hlo]
        exact ⟨ea, en, ec, ka, kn, kc, rfl, hnp, hw.sub (by (repeat (first | with_reducible exact Sub.refl _ | exact Sub.nil _ | (apply Sub.cons; focus ((repeat (first | with_reducible exact Pick.here _ | apply Pick.there)); (first | done | fail))) | with_reducible apply Sub.drop)); first | done | fail)⟩
end Go.Proofs.Ytnkddbbcfolcdaa
