/-
  The laws' helpers: has, without.
-/
import Derived.Test.YtmbngahboaljpaaT07h
namespace Go.Proofs.Ytmbngahboaljpaa
set_option maxRecDepth 8000
set_option linter.unusedSimpArgs false
set_option linter.unusedVariables false
open Go Xe
theorem hasO_at {l : List Op7} {i : Nat} {o : Op7} {name : ByteArray} (h : hasO (l.take i) name = none) (ho : l[i]? = some o) (hn : o.name = name) : hasO l name = some o := by
  obtain ⟨h1, h2⟩ := List.getElem?_eq_some_iff.1 ho
  have e : l = l.take i ++ o :: l.drop (i + 1) := by rw [← h2, ← List.drop_eq_getElem_cons h1, List.take_append_drop]
  rw [e]
  unfold hasO at h ⊢
  rw [List.find?_append, h, List.find?_cons_of_pos (by simp [hn])]; rfl
theorem hasO_snoc {l : List Op7} {o : Op7} {name : ByteArray} (h : hasO l name = none) (hn : o.name ≠ name) : hasO (l ++ [o]) name = none := by
  unfold hasO at h ⊢
  rw [List.find?_append, h, List.find?_cons_of_neg (by simpa using hn)]; rfl
theorem has_calls {E : Env} {w : World} {L : List As} {g : Hp} {la : Option Addr} {ln lc : Nat} {l : List Op7} (name : ByteArray) (hl : (rdSl 72 5 rdOp7) g [.slice la ln lc] l) (hw : Sat E w (RO g :: L)) :
    Calls Try.prog 31 #[.slice la ln lc, .string name] w fun e w' => e = .returned (.tuple #[.string ((hasO l name).map (·.value) |>.getD ByteArray.empty), .bool (hasO l name).isSome]) ∧ Sat E w' (RO g :: L) := by
  obtain ⟨rfl, hlb, hlc, hlm, gl⟩ := rdSl_get hl
  simp only [reachBytes] at hlb
  refine calls_of_g (n := 21) Try.func31 rfl rfl rfl ?_
  change G _ _ _ _ _ [(0, _), (1, _)] _
  refine g_seq ?_
  refine g_region ?_
  refine xV rfl rfl rfl (v_assign rfl) ?_
  refine xV rfl rfl rfl (v_assign rfl) ?_
  refine rl_nil (g_le (xK (xK (Fr.le_refl _))) ?_)
  refine g_seq (g_seq ?_)
  refine g_region ?_
  refine xV rfl rfl rfl (v_move rfl) ?_
  refine xV rfl rfl rfl (v_lenSlice T.sl_41_46_5 rfl) ?_
  refine xV rfl rfl rfl (v_move rfl) ?_
  refine rl_nil (g_le (xK (xK (xK (Fr.le_refl _)))) ?_)
  refine g_block ?_
  refine g_loopC (σ := Int) (fun C x => (10, .int .i64 x) :: C) [(1, _), (4, _), (5, _), (8, _), (9, _)] (by repeat (first | exact Fr.le_nil _ | refine Fr.le_cons rfl ?_)) (fun z w => 0 ≤ z ∧ z ≤ l.length ∧ hasO (l.take z.toNat) name = none ∧ Sat E w (RO g :: L)) (fun z => (l.length - z).toNat) ?_ 0 (by repeat (first | exact Fr.le_nil _ | refine Fr.le_cons rfl ?_)) ⟨by simp, by simp, by simp [hasO], hw.xQ⟩
  rintro i w ⟨hi0, hi1, hno, hw⟩ ih
  refine g_seq ?_
  refine g_region ?_
  refine xV rfl rfl rfl (v_lss rfl rfl) ?_
  refine rl_nil (g_le (xK (Fr.le_refl _)) ?_)
  refine g_seq ?_
  refine g_cond rfl (fun h1 => ?_) (fun h1 => ?_)
  · try with_reducible exact ft_elim h1
    all_goals
      try replace h1 := of_decide_eq_true h1
      refine g_skip (g_seq (g_block (g_seq ?_)))
      have hz := hw
      clear hw
      obtain ⟨b4, o1, o, ecs, rfl, ho, hat1, hl1, hrd⟩ := gl i hi0 (by omega)
      obtain ⟨sa, sn, sc, rfl, hns, hvs, hsegs, hdw, hbw⟩ := op7_told hrd
      have hw := hz
      have hto : l.take (i + 1).toNat = l.take i.toNat ++ [o] := by rw [show (i + 1).toNat = i.toNat + 1 by omega, List.take_add_one, ho]; rfl
      refine g_region ?_
      refine xV rfl rfl rfl (v_indexAddr T.sl_41_46_5 rfl rfl (by omega) (by omega)) ?_
      refine rl_v rfl rfl rfl (by exact ro_ats hw (by (repeat first | with_reducible exact xH | apply xT); first | done | fail) (by assumption)) (v_loadAgg (vs := [_, _, _, _, _]) T.agg_46_5 rfl rfl) ?_
      refine rl_k rfl (k_alloc hw T.zero_46 rfl rfl (fun bk3_2 w hw => ?_))
      refine rl_k rfl (k_storeWhole hw T.agg_46_5 rfl rfl (by simp [Value.oneCell']) rfl (by (repeat first | with_reducible exact xH | apply xT); first | done | fail) rfl (fun w hw => ?_))
      refine rl_nil (g_le (xK (xK (xK (Fr.le_refl _)))) ?_)
      refine g_seq ?_
      refine g_region ?_
      refine xV rfl rfl rfl (v_fieldAddr0 T.fld_46_1_1 rfl) ?_
      refine rl_v rfl rfl rfl (by exact sat_cell hw (by (repeat first | with_reducible exact xH | apply xT); first | done | fail) rfl) (v_load T.scal_9 rfl) ?_
      refine xV rfl rfl rfl (v_move rfl) ?_
      refine xV rfl rfl rfl (v_eqlStr rfl rfl) ?_
      refine rl_nil (g_le (xK (xK (xK (xK (Fr.le_refl _))))) ?_)
      refine g_cond rfl (fun h2 => ?_) (fun h2 => ?_)
      · try with_reducible exact ft_elim h2
        all_goals
          try replace h2 := of_decide_eq_true h2
          refine g_seq ?_
          refine g_region ?_
          refine xV rfl rfl rfl (v_fieldAddr0 T.fld_46_2_2 rfl) ?_
          refine rl_v rfl rfl rfl (by exact sat_cell hw (by (repeat first | with_reducible exact xH | apply xT); first | done | fail) rfl) (v_load T.scal_9 rfl) ?_
          refine xV rfl rfl rfl (v_assign rfl) ?_
          refine xV rfl rfl rfl (v_assign rfl) ?_
          refine rl_nil (g_le (xK (xK (xK (xK (Fr.le_refl _))))) ?_)
          refine g_ret2 Try.func31 rfl rfl rfl ?_
          rw [hasO_at hno ho (by simpa using h2)]
          exact ⟨rfl, hw.xQ⟩
      · try with_reducible exact tf_elim h2
        all_goals
          try replace h2 := of_decide_eq_false h2
          refine g_skip (g_inBlock ?_)
          refine g_region ?_
          refine xV rfl rfl rfl (v_add rfl rfl (by omega)) ?_
          refine xV rfl rfl rfl (v_move rfl) ?_
          refine rl_nil (g_le (xK (xK (Fr.le_refl _))) ?_)
          exact g_le (by repeat (first | exact Fr.le_nil _ | refine Fr.le_cons rfl ?_)) (ih (i + 1) w ⟨by omega, by omega, by rw [hto]; exact hasO_snoc hno (by simpa using h2), hw.xQ⟩ (by omega))
  · try with_reducible exact tf_elim h1
    all_goals
      try replace h1 := of_decide_eq_false h1
      refine g_exit rfl (g_seq ?_)
      refine g_region ?_
      refine xV rfl rfl rfl (v_assign rfl) ?_
      refine xV rfl rfl rfl (v_assign rfl) ?_
      refine rl_nil (g_le (xK (xK (Fr.le_refl _))) ?_)
      refine g_ret2 Try.func31 rfl rfl rfl ?_
      rw [List.take_of_length_le (by omega)] at hno
      rw [hno]
      exact ⟨rfl, hw.xQ⟩
theorem withoutO_snoc (l : List Op7) (o : Op7) (name : ByteArray) : withoutO (l ++ [o]) name = withoutO l name ++ if o.name = name then [] else [o] := by
  unfold withoutO
  rw [List.filter_append]
  by_cases h : o.name = name
  · rw [if_pos h, List.filter_cons_of_neg (by simpa using h)]; rfl
  · rw [if_neg h, List.filter_cons_of_pos (by simpa using h)]; rfl
theorem without_calls {E : Env} {w : World} {L : List As} {g : Hp} {la : Option Addr} {ln lc : Nat} {l : List Op7} (name : ByteArray) (hl : (rdSl 72 5 rdOp7) g [.slice la ln lc] l) (hw : Sat E w (RO g :: L)) :
    Calls Try.prog 21 #[.slice la ln lc, .string name] w fun e w' => ∃ v cells, e = .returned v ∧ Els rdOp7 5 g cells (withoutO l name) ∧ Sat E w' (OwnSl 46 5 v (withoutO l name).length cells :: RO g :: L) := by
  obtain ⟨rfl, hlb, hlc, hlm, gl⟩ := rdSl_get hl
  simp only [reachBytes] at hlb
  refine calls_of_g (n := 24) Try.func21 rfl rfl rfl ?_
  change G _ _ _ _ _ [(0, _), (1, _)] _
  refine g_seq ?_
  refine g_region ?_
  refine xV rfl rfl rfl (v_assign rfl) ?_
  refine rl_nil (g_le (xK (Fr.le_refl _)) ?_)
  refine g_seq ?_
  refine g_region ?_
  refine xV rfl rfl rfl (v_assign rfl) ?_
  refine rl_nil (g_le (xK (Fr.le_refl _)) ?_)
  refine g_seq (g_seq ?_)
  refine g_region ?_
  refine xV rfl rfl rfl (v_move rfl) ?_
  refine xV rfl rfl rfl (v_lenSlice T.sl_41_46_5 rfl) ?_
  refine xV rfl rfl rfl (v_move rfl) ?_
  refine rl_nil (g_le (xK (xK (xK (Fr.le_refl _)))) ?_)
  refine g_block ?_
  refine g_loopC (σ := Int × Value × List Value) (fun C x => (10, .int .i64 x.1) :: (5, x.2.1) :: C) [(1, _), (4, _), (8, _), (9, _)] (by repeat (first | exact Fr.le_nil _ | refine Fr.le_cons rfl ?_)) (fun z w => 0 ≤ z.1 ∧ z.1 ≤ l.length ∧ Els rdOp7 5 g z.2.2 (withoutO (l.take z.1.toNat) name) ∧ Sat E w (OwnSl 46 5 z.2.1 (withoutO (l.take z.1.toNat) name).length z.2.2 :: RO g :: L)) (fun z => (l.length - z.1).toNat) ?_ (0, .slice none 0 0, []) (by repeat (first | exact Fr.le_nil _ | refine Fr.le_cons rfl ?_)) ⟨by simp, by simp, by simp only [Int.toNat_zero, List.take_zero, withoutO, List.filter_nil]; exact Els.nil, by simp only [Int.toNat_zero, List.take_zero, withoutO, List.filter_nil, List.length_nil]; exact (hw.own_nil 46 5)⟩
  rintro ⟨i, ov, cells⟩ w ⟨hi0, hi1, hels, hw⟩ ih
  dsimp only at hi0 hi1 hels hw ih ⊢
  refine g_seq ?_
  refine g_region ?_
  refine xV rfl rfl rfl (v_lss rfl rfl) ?_
  refine rl_nil (g_le (xK (Fr.le_refl _)) ?_)
  refine g_seq ?_
  refine g_cond rfl (fun h1 => ?_) (fun h1 => ?_)
  · try with_reducible exact ft_elim h1
    all_goals
      try replace h1 := of_decide_eq_true h1
      refine g_skip (g_seq (g_block (g_seq ?_)))
      have hz := hw
      clear hw
      obtain ⟨b4, o1, o, ecs, rfl, ho, hat1, hl1, hrd⟩ := gl i hi0 (by omega)
      obtain ⟨sa, sn, sc, rfl, hns, hvs, hsegs, hdw, hbw⟩ := op7_told hrd
      have hw := hz
      have hto : l.take (i + 1).toNat = l.take i.toNat ++ [o] := by rw [show (i + 1).toNat = i.toNat + 1 by omega, List.take_add_one, ho]; rfl
      have hwl := without_len (l.take i.toNat) name
      have htl : (l.take i.toNat).length = i.toNat := by rw [List.length_take]; omega
      generalize hq : withoutO (l.take i.toNat) name = q at hels hw hwl
      have hlen : cells.length = q.length * 5 := hels.len
      have hone := hels.ones one_Op7
      refine g_region ?_
      refine xV rfl rfl rfl (v_indexAddr T.sl_41_46_5 rfl rfl (by omega) (by omega)) ?_
      refine rl_v rfl rfl rfl (by exact ro_ats hw (by (repeat first | with_reducible exact xH | apply xT); first | done | fail) (by assumption)) (v_loadAgg (vs := [_, _, _, _, _]) T.agg_46_5 rfl rfl) ?_
      refine rl_k rfl (k_alloc hw T.zero_46 rfl rfl (fun bk4_2 w hw => ?_))
      refine rl_k rfl (k_storeWhole hw T.agg_46_5 rfl rfl (by simp [Value.oneCell']) rfl (by (repeat first | with_reducible exact xH | apply xT); first | done | fail) rfl (fun w hw => ?_))
      refine rl_nil (g_le (xK (xK (xK (Fr.le_refl _)))) ?_)
      refine g_seq ?_
      refine g_region ?_
      refine xV rfl rfl rfl (v_fieldAddr0 T.fld_46_1_1 rfl) ?_
      refine rl_v rfl rfl rfl (by exact sat_cell hw (by (repeat first | with_reducible exact xH | apply xT); first | done | fail) rfl) (v_load T.scal_9 rfl) ?_
      refine xV rfl rfl rfl (v_move rfl) ?_
      refine xV rfl rfl rfl (v_neqStr rfl rfl) ?_
      refine rl_nil (g_le (xK (xK (xK (xK (Fr.le_refl _))))) ?_)
      refine g_cond rfl (fun h2 => ?_) (fun h2 => ?_)
      · try with_reducible exact ft_elim h2
        all_goals
          try replace h2 := of_decide_eq_true h2
          obtain ⟨oa, oc, rfl, _, _, _⟩ := (hw.xQ : Sat E w (OwnSl 46 5 ov q.length cells :: [])).own_shape
          refine g_region ?_
          refine xV rfl rfl rfl (v_move rfl) ?_
          refine rl_v rfl rfl rfl (by exact sat_cells hw (by (repeat first | with_reducible exact xH | apply xT); first | done | fail) ⟨rfl, rfl, rfl, rfl, rfl, trivial⟩) (v_loadAgg (vs := [_, _, _, _, _]) T.agg_46_5 rfl rfl) ?_
          refine rl_k rfl (k_buildSlice (cells := [_, _, _, _, _]) hw T.sl_41_46_5 T.zero_46 rfl rfl rfl rfl rfl rfl (fun bk6_2 w hw => ?_))
          refine rl_k rfl (k_append (news := [_, _, _, _, _]) hw T.sl_41_46_5 T.zero_46 T.bytes_46_72 rfl (by decide) rfl rfl (by (repeat first | with_reducible exact xH | apply xT); first | done | fail) rfl (by exact sat_cells hw (by (repeat first | with_reducible exact xH | apply xT); first | done | fail) ⟨rfl, rfl, rfl, rfl, rfl, trivial⟩) (by simp [Value.oneCell']) (by omega) (by simp only [maxLen]; omega) rfl (fun vv6_3 w hw hnil => ?_))
          refine xV rfl rfl rfl (v_assign rfl) ?_
          refine rl_nil (g_le (xK (xK (xK (xK (xK (Fr.le_refl _)))))) ?_)
          refine g_inBlock ?_
          refine g_region ?_
          refine xV rfl rfl rfl (v_add rfl rfl (by omega)) ?_
          refine xV rfl rfl rfl (v_move rfl) ?_
          refine rl_nil (g_le (xK (xK (Fr.le_refl _))) ?_)
          exact g_le (by repeat (first | exact Fr.le_nil _ | refine Fr.le_cons rfl ?_)) (ih (i + 1, vv6_3, cells ++ [.int .i64 o.do_, .string o.name, .string o.value, .slice sa sn sc, .int .i64 o.back]) w ⟨by simp only; omega, by simp only; omega, by dsimp only; rw [hto, withoutO_snoc, hq, if_neg (by simpa using h2)]; exact hels.append (Els.one rfl hrd), by dsimp only; rw [hto, withoutO_snoc, hq, if_neg (by simpa using h2), List.length_append, List.length_singleton]; exact hw.xQ⟩ (by simp only; omega))
      · try with_reducible exact tf_elim h2
        all_goals
          try replace h2 := of_decide_eq_false h2
          refine g_skip (g_inBlock ?_)
          refine g_region ?_
          refine xV rfl rfl rfl (v_add rfl rfl (by omega)) ?_
          refine xV rfl rfl rfl (v_move rfl) ?_
          refine rl_nil (g_le (xK (xK (Fr.le_refl _))) ?_)
          exact g_le (by repeat (first | exact Fr.le_nil _ | refine Fr.le_cons rfl ?_)) (ih (i + 1, ov, cells) w ⟨by simp only; omega, by simp only; omega, by dsimp only; rw [hto, withoutO_snoc, hq, if_pos (by simpa using h2), List.append_nil]; exact hels, by dsimp only; rw [hto, withoutO_snoc, hq, if_pos (by simpa using h2), List.append_nil]; exact hw.xQ⟩ (by simp only; omega))
  · try with_reducible exact tf_elim h1
    all_goals
      try replace h1 := of_decide_eq_false h1
      refine g_exit rfl (g_seq ?_)
      refine g_region ?_
      refine xV rfl rfl rfl (v_move rfl) ?_
      refine xV rfl rfl rfl (v_assign rfl) ?_
      refine rl_nil (g_le (xK (xS rfl (Fr.le_refl _))) ?_)
      refine g_ret1 Try.func21 rfl rfl ?_
      rw [List.take_of_length_le (by omega)] at hels hw
      exact ⟨_, _, rfl, hels, hw.xQ⟩
end Go.Proofs.Ytmbngahboaljpaa
