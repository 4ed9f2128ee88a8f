/-
  A tree's pages as terms (layer 6): made of nodes, sealed.
-/
import Derived.Test.YtlgpdglnfjndhaaU06
import Derived.Test.YtlgpdglnfjndhaaU03
namespace Go.Proofs.Ytlgpdglnfjndhaa
set_option maxRecDepth 8000
set_option linter.unusedSimpArgs false
set_option linter.unusedVariables false
open Go Xe Go.Lib
theorem number_calls {E : Env} {w : World} {L : List As} (n : Int) (h0 : 0 ≤ n) (h1 : n ≤ 9223372036854775807) (hw : Sat E w L) :
    Calls Try.prog 63 #[.int .i64 n] w fun e w' => e = .returned (.agg (tmC 1 n ByteArray.empty (.slice none 0 0)).toArray) ∧ Sat E w' L := by
  refine calls_of_g (n := 6) Try.func63 rfl rfl rfl ?_
  change G _ _ _ _ _ [(0, _)] _
  refine g_seq ?_
  refine g_region ?_
  refine rl_k rfl (k_alloc hw T.zero_111 rfl rfl (fun bk0_0 w hw => ?_))
  refine rl_nil (g_le (xK (Fr.le_refl _)) ?_)
  refine g_seq ?_
  refine g_region ?_
  refine xV rfl rfl rfl (v_move rfl) ?_
  refine xV rfl rfl rfl (v_convU T.int_49_u64 T.int_3_i64 rfl (by omega) (by omega)) ?_
  refine rl_k rfl (k_callf Try.func87 rfl rfl rfl rfl ?_)
  refine Calls.mono (num_calls n hw) ?_
  rintro _ w ⟨rfl, hw⟩
  refine ⟨_, rfl, ?_⟩
  refine rl_k rfl (k_storeWhole hw T.agg_111_4 rfl rfl (by simp [Value.oneCell']) rfl (by (repeat first | with_reducible exact xH | apply xT); first | done | fail) rfl (fun w hw => ?_))
  refine rl_nil (g_le (xS rfl (xS rfl (xS rfl (Fr.le_refl _)))) ?_)
  refine g_resC Try.func63 rfl ⟨_, rfl, holds_agg (vs := [_, _, _, _]) T.agg_111_4 rfl (by exact sat_cells hw (by (repeat first | with_reducible exact xH | apply xT); first | done | fail) ⟨rfl, rfl, rfl, rfl, trivial⟩)⟩ ?_
  exact ⟨rfl, hw.xQ⟩
/-- What a maker of terms does. -/
def MakesT {α : Type} (E : Env) (R : Rd α) (v : Value) (f : α → Tm) (x : α) : Prop := ∀ {w : World} {L : List As} {g : Hp} {ecs : List Value}, R g ecs x → Sat E w (RO g :: L) →
  CallsV Try.prog v #[.agg ecs.toArray] w fun e w' => ∃ g' cs, g.le g' ∧ e = .returned (.agg cs.toArray) ∧ rdTm g' cs (f x) ∧ Sat E w' (RO g' :: L)
theorem rowVn_calls {E : Env} {w : World} {L : List As} {g : Hp} {hcs : List Value} {hd : Tm} {a : Option Addr} {n c : Nat} {l : List Vn} {fv : Value} {f : Vn → Tm} (hhd : rdTm g hcs hd) (hl : rdSl 40 3 rdVn g [.slice a n c] l) (hn9 : n ≤ 100) (hcl : ∀ x ∈ l, MakesT E rdVn fv f x) (hw : Sat E w (RO g :: L)) :
    Calls Try.prog 65 #[.agg hcs.toArray, .slice a n c, fv] w fun e w' => ∃ g' sl, g.le g' ∧ e = .returned (.agg (tmC 5 0 ByteArray.empty sl).toArray) ∧ rdSl 56 4 rdTm g' [sl] (hd :: l.map f) ∧ Sat E w' (RO g' :: L) := by
  obtain ⟨ha, hc, rfl, _⟩ := tm_shape hhd
  obtain ⟨rfl, hb1, hc1, hmx, g1⟩ := rdSl_get hl
  refine calls_of_g (n := 27) Try.func65 rfl rfl rfl ?_
  change G _ _ _ _ _ [(0, _), (1, _), (2, _)] _
  refine g_seq ?_
  refine g_region ?_
  refine rl_k rfl (k_box hw rfl rfl rfl (fun bk0_0 w hw => ?_))
  refine rl_k rfl (k_alloc hw T.zero_111 rfl rfl (fun bk0_1 w hw => ?_))
  refine rl_nil (g_le (xK (xK (Fr.le_refl _))) ?_)
  refine g_seq ?_
  refine g_region ?_
  refine rl_v rfl rfl rfl (by exact sat_cells hw (by (repeat first | with_reducible exact xH | apply xT); first | done | fail) ⟨rfl, rfl, rfl, rfl, trivial⟩) (v_loadAgg (vs := [_, _, _, _]) T.agg_111_4 rfl rfl) ?_
  refine rl_k rfl (k_buildSlice (cells := [_, _, _, _]) hw T.sl_109_111_4 T.zero_111 rfl rfl rfl rfl rfl rfl (fun bk1_1 w hw => ?_))
  refine xV rfl rfl rfl (v_assign rfl) ?_
  refine rl_nil (g_le (xK (xS rfl (xS rfl (Fr.le_refl _)))) ?_)
  have hw := (hw.xP (A := pt bk1_1 _)).lit_own (sz := 4) (n := 1) rfl (by simp [maxLen])
  refine g_seq (g_seq ?_)
  refine g_region ?_
  refine xV rfl rfl rfl (v_move rfl) ?_
  refine xV rfl rfl rfl (v_lenSlice T.sl_124_136_3 rfl) ?_
  refine xV rfl rfl rfl (v_move rfl) ?_
  refine rl_nil (g_le (xK (xK (xK (Fr.le_refl _)))) ?_)
  refine g_block ?_
  refine g_loopC (σ := Int × Value × List Value × Hp) (fun C x => (14, .int .i64 x.1) :: (7, x.2.1) :: C) [(2, _), (6, _), (12, _), (13, _)] (by repeat (first | exact Fr.le_nil _ | refine Fr.le_cons rfl ?_)) (fun z w => 0 ≤ z.1 ∧ z.1 ≤ l.length ∧ g.le z.2.2.2 ∧ Els rdTm 4 z.2.2.2 z.2.2.1 (hd :: (l.take z.1.toNat).map f) ∧ Sat E w (OwnSl 111 4 z.2.1 (z.1.toNat + 1) z.2.2.1 :: pt bk0_1 (.cells (tmC 0 0 ByteArray.empty (.slice none 0 0)).toArray 111 (0, 0)) :: RO z.2.2.2 :: L)) (fun z => (l.length - z.1).toNat) ?_ (0, _, _, g) (by repeat (first | exact Fr.le_nil _ | refine Fr.le_cons rfl ?_)) ⟨by simp, by simp, Hp.le_refl _, by simp only [Int.toNat_zero, List.take_zero, List.map_nil]; exact Els.one rfl hhd, by simp only [Int.toNat_zero, Nat.zero_add]; exact hw.xQ⟩
  rintro ⟨i, v, cells, g2⟩ w ⟨hi0, hi1, hg2, hels, hw⟩ ih
  dsimp only at hi0 hi1 hg2 hels hw ih ⊢
  have hone := Els.ones one_Tm hels
  have hlen := hels.len
  rw [List.length_cons, List.length_map, List.length_take, Nat.min_eq_left (by omega)] at hlen
  obtain ⟨va, vc, rfl, _, _, _⟩ := hw.own_shape
  refine g_seq ?_
  refine g_region ?_
  refine xV rfl rfl rfl (v_lss rfl rfl) ?_
  refine rl_nil (g_le (xK (Fr.le_refl _)) ?_)
  refine g_seq ?_
  refine g_cond rfl (fun h1 => ?_) (fun h1 => ?_)
  · try with_reducible exact ft_elim h1
    all_goals
      try replace h1 := of_decide_eq_true h1
      refine g_skip (g_seq (g_block (g_seq ?_)))
      have hz := hw
      clear hw
      obtain ⟨_, _, _, _, g1'⟩ := rdSl_get (mono_sl mono_Vn hg2 hl)
      obtain ⟨b4, o1, x, ecs, rfl, hx, hat1, hl1, hrd⟩ := g1' i hi0 (by omega)
      have hmem := List.mem_of_getElem? hx
      have htk := take_snoc hx
      obtain ⟨rfl, hok⟩ := id hrd
      have hw := hz
      clear hz
      refine g_region ?_
      refine xV rfl rfl rfl (v_indexAddr T.sl_124_136_3 rfl rfl (by omega) (by omega)) ?_
      refine rl_v rfl rfl rfl (by exact ro_ats hw (by (repeat first | with_reducible exact xH | apply xT); first | done | fail) (by assumption)) (v_loadAgg (vs := [_, _, _]) T.agg_136_3 rfl rfl) ?_
      refine rl_k rfl (k_alloc hw T.zero_136 rfl rfl (fun bk4_2 w hw => ?_))
      refine rl_k rfl (k_storeWhole hw T.agg_136_3 rfl rfl (by simp [Value.oneCell']) rfl (by (repeat first | with_reducible exact xH | apply xT); first | done | fail) rfl (fun w hw => ?_))
      refine rl_nil (g_le (xK (xK (xK (Fr.le_refl _)))) ?_)
      refine g_region ?_
      refine xV rfl rfl rfl (v_move rfl) ?_
      refine xV rfl rfl rfl (v_move rfl) ?_
      refine rl_v rfl rfl rfl (by exact sat_cells hw (by (repeat first | with_reducible exact xH | apply xT); first | done | fail) ⟨rfl, rfl, rfl, trivial⟩) (v_loadAgg (vs := [_, _, _]) T.agg_136_3 rfl rfl) ?_
      refine rl_k rfl (k_callv rfl rfl rfl ?_)
      refine CallsV.mono (hcl x hmem hrd (hw.xQ)) ?_
      rintro _ w ⟨g3, ecs3, hg3, rfl, hrd3, hw⟩
      obtain ⟨ya, yc, rfl, _⟩ := tm_shape hrd3
      refine ⟨_, rfl, ?_⟩
      refine rl_k rfl (k_buildSlice (cells := [_, _, _, _]) hw T.sl_109_111_4 T.zero_111 rfl rfl rfl rfl rfl rfl (fun bk5_4 w hw => ?_))
      refine rl_k rfl (k_append (news := [_, _, _, _]) hw T.sl_109_111_4 T.zero_111 T.bytes_111_56 rfl (by decide) rfl rfl (by (repeat first | with_reducible exact xH | apply xT); first | done | fail) rfl (by exact sat_cells hw (by (repeat first | with_reducible exact xH | apply xT); first | done | fail) ⟨rfl, rfl, rfl, rfl, trivial⟩) (by simp [Value.oneCell']) (by omega) (by simp only [maxLen]; omega) rfl (fun vv5_5 w hw hnil => ?_))
      refine xV rfl rfl rfl (v_assign rfl) ?_
      refine rl_nil (g_le (xK (xK (xK (xK (xK (xK (xK (Fr.le_refl _)))))))) ?_)
      refine g_inBlock ?_
      refine g_region ?_
      refine xV rfl rfl rfl (v_add rfl rfl (by omega)) ?_
      refine xV rfl rfl rfl (v_move rfl) ?_
      refine rl_nil (g_le (xK (xK (Fr.le_refl _))) ?_)
      exact g_le (by repeat (first | exact Fr.le_nil _ | refine Fr.le_cons rfl ?_)) (ih (i + 1, vv5_5, _, g3) w ⟨by simp only; omega, by simp only; omega, hg2.trans hg3, by simp only; rw [show (i + 1).toNat = i.toNat + 1 by omega, htk, List.map_append, ← List.cons_append]; exact (hels.mono mono_Tm hg3).snoc rfl hrd3, by simp only; rw [show (i + 1).toNat = i.toNat + 1 by omega]; exact hw.xQ⟩ (by simp only; omega))
  · try with_reducible exact tf_elim h1
    all_goals
      try replace h1 := of_decide_eq_false h1
      refine g_exit rfl (g_seq ?_)
      rw [List.take_of_length_le (by omega)] at hels
      obtain ⟨g3, hg3, hl3, hw⟩ := (hw.xP (A := RO g2)).freeze_sl (bytes := 56) mono_Tm hels (by simp only [List.length_cons, List.length_map]; omega) (by simp only [reachBytes]; omega)
      refine g_region ?_
      refine xV rfl rfl rfl (v_move rfl) ?_
      refine rl_k rfl (k_callf Try.func68 rfl rfl rfl rfl ?_)
      refine Calls.mono (tof_calls hl3 (hw.xQ)) ?_
      rintro _ w ⟨g4, sl, hg4, rfl, hl4, hw⟩
      obtain ⟨sa, sn, sc, rfl⟩ := rdSl_shape hl4
      refine ⟨_, rfl, ?_⟩
      refine rl_k rfl (k_storeWhole hw T.agg_111_4 rfl rfl (by simp [Value.oneCell']) rfl (by (repeat first | with_reducible exact xH | apply xT); first | done | fail) rfl (fun w hw => ?_))
      refine rl_nil (g_le (xS rfl (xS rfl (Fr.le_refl _))) ?_)
      refine g_resC Try.func65 rfl ⟨_, rfl, holds_agg (vs := [_, _, _, _]) T.agg_111_4 rfl (by exact sat_cells hw (by (repeat first | with_reducible exact xH | apply xT); first | done | fail) ⟨rfl, rfl, rfl, rfl, trivial⟩)⟩ ?_
      exact ⟨g4, _, hg2.trans (hg3.trans hg4), rfl, hl4, hw.xQ⟩
theorem rowKd_calls {E : Env} {w : World} {L : List As} {g : Hp} {hcs : List Value} {hd : Tm} {a : Option Addr} {n c : Nat} {l : List Kd} {fv : Value} {f : Kd → Tm} (hhd : rdTm g hcs hd) (hl : rdSl 48 5 rdKd g [.slice a n c] l) (hn9 : n ≤ 100) (hcl : ∀ x ∈ l, MakesT E rdKd fv f x) (hw : Sat E w (RO g :: L)) :
    Calls Try.prog 69 #[.agg hcs.toArray, .slice a n c, fv] w fun e w' => ∃ g' sl, g.le g' ∧ e = .returned (.agg (tmC 5 0 ByteArray.empty sl).toArray) ∧ rdSl 56 4 rdTm g' [sl] (hd :: l.map f) ∧ Sat E w' (RO g' :: L) := by
  obtain ⟨ha, hc, rfl, _⟩ := tm_shape hhd
  obtain ⟨rfl, hb1, hc1, hmx, g1⟩ := rdSl_get hl
  refine calls_of_g (n := 27) Try.func69 rfl rfl rfl ?_
  change G _ _ _ _ _ [(0, _), (1, _), (2, _)] _
  refine g_seq ?_
  refine g_region ?_
  refine rl_k rfl (k_box hw rfl rfl rfl (fun bk0_0 w hw => ?_))
  refine rl_k rfl (k_alloc hw T.zero_111 rfl rfl (fun bk0_1 w hw => ?_))
  refine rl_nil (g_le (xK (xK (Fr.le_refl _))) ?_)
  refine g_seq ?_
  refine g_region ?_
  refine rl_v rfl rfl rfl (by exact sat_cells hw (by (repeat first | with_reducible exact xH | apply xT); first | done | fail) ⟨rfl, rfl, rfl, rfl, trivial⟩) (v_loadAgg (vs := [_, _, _, _]) T.agg_111_4 rfl rfl) ?_
  refine rl_k rfl (k_buildSlice (cells := [_, _, _, _]) hw T.sl_109_111_4 T.zero_111 rfl rfl rfl rfl rfl rfl (fun bk1_1 w hw => ?_))
  refine xV rfl rfl rfl (v_assign rfl) ?_
  refine rl_nil (g_le (xK (xS rfl (xS rfl (Fr.le_refl _)))) ?_)
  have hw := (hw.xP (A := pt bk1_1 _)).lit_own (sz := 4) (n := 1) rfl (by simp [maxLen])
  refine g_seq (g_seq ?_)
  refine g_region ?_
  refine xV rfl rfl rfl (v_move rfl) ?_
  refine xV rfl rfl rfl (v_lenSlice T.sl_46_101_5 rfl) ?_
  refine xV rfl rfl rfl (v_move rfl) ?_
  refine rl_nil (g_le (xK (xK (xK (Fr.le_refl _)))) ?_)
  refine g_block ?_
  refine g_loopC (σ := Int × Value × List Value × Hp) (fun C x => (14, .int .i64 x.1) :: (7, x.2.1) :: C) [(2, _), (6, _), (12, _), (13, _)] (by repeat (first | exact Fr.le_nil _ | refine Fr.le_cons rfl ?_)) (fun z w => 0 ≤ z.1 ∧ z.1 ≤ l.length ∧ g.le z.2.2.2 ∧ Els rdTm 4 z.2.2.2 z.2.2.1 (hd :: (l.take z.1.toNat).map f) ∧ Sat E w (OwnSl 111 4 z.2.1 (z.1.toNat + 1) z.2.2.1 :: pt bk0_1 (.cells (tmC 0 0 ByteArray.empty (.slice none 0 0)).toArray 111 (0, 0)) :: RO z.2.2.2 :: L)) (fun z => (l.length - z.1).toNat) ?_ (0, _, _, g) (by repeat (first | exact Fr.le_nil _ | refine Fr.le_cons rfl ?_)) ⟨by simp, by simp, Hp.le_refl _, by simp only [Int.toNat_zero, List.take_zero, List.map_nil]; exact Els.one rfl hhd, by simp only [Int.toNat_zero, Nat.zero_add]; exact hw.xQ⟩
  rintro ⟨i, v, cells, g2⟩ w ⟨hi0, hi1, hg2, hels, hw⟩ ih
  dsimp only at hi0 hi1 hg2 hels hw ih ⊢
  have hone := Els.ones one_Tm hels
  have hlen := hels.len
  rw [List.length_cons, List.length_map, List.length_take, Nat.min_eq_left (by omega)] at hlen
  obtain ⟨va, vc, rfl, _, _, _⟩ := hw.own_shape
  refine g_seq ?_
  refine g_region ?_
  refine xV rfl rfl rfl (v_lss rfl rfl) ?_
  refine rl_nil (g_le (xK (Fr.le_refl _)) ?_)
  refine g_seq ?_
  refine g_cond rfl (fun h1 => ?_) (fun h1 => ?_)
  · try with_reducible exact ft_elim h1
    all_goals
      try replace h1 := of_decide_eq_true h1
      refine g_skip (g_seq (g_block (g_seq ?_)))
      have hz := hw
      clear hw
      obtain ⟨_, _, _, _, g1'⟩ := rdSl_get (mono_sl mono_Kd hg2 hl)
      obtain ⟨b4, o1, x, ecs, rfl, hx, hat1, hl1, hrd⟩ := g1' i hi0 (by omega)
      have hmem := List.mem_of_getElem? hx
      have htk := take_snoc hx
      obtain ⟨rfl, hok⟩ := id hrd
      have hw := hz
      clear hz
      refine g_region ?_
      refine xV rfl rfl rfl (v_indexAddr T.sl_46_101_5 rfl rfl (by omega) (by omega)) ?_
      refine rl_v rfl rfl rfl (by exact ro_ats hw (by (repeat first | with_reducible exact xH | apply xT); first | done | fail) (by assumption)) (v_loadAgg (vs := [_, _, _, _, _]) T.agg_101_5 rfl rfl) ?_
      refine rl_k rfl (k_alloc hw T.zero_101 rfl rfl (fun bk4_2 w hw => ?_))
      refine rl_k rfl (k_storeWhole hw T.agg_101_5 rfl rfl (by simp [Value.oneCell']) rfl (by (repeat first | with_reducible exact xH | apply xT); first | done | fail) rfl (fun w hw => ?_))
      refine rl_nil (g_le (xK (xK (xK (Fr.le_refl _)))) ?_)
      refine g_region ?_
      refine xV rfl rfl rfl (v_move rfl) ?_
      refine xV rfl rfl rfl (v_move rfl) ?_
      refine rl_v rfl rfl rfl (by exact sat_cells hw (by (repeat first | with_reducible exact xH | apply xT); first | done | fail) ⟨rfl, rfl, rfl, rfl, rfl, trivial⟩) (v_loadAgg (vs := [_, _, _, _, _]) T.agg_101_5 rfl rfl) ?_
      refine rl_k rfl (k_callv rfl rfl rfl ?_)
      refine CallsV.mono (hcl x hmem hrd (hw.xQ)) ?_
      rintro _ w ⟨g3, ecs3, hg3, rfl, hrd3, hw⟩
      obtain ⟨ya, yc, rfl, _⟩ := tm_shape hrd3
      refine ⟨_, rfl, ?_⟩
      refine rl_k rfl (k_buildSlice (cells := [_, _, _, _]) hw T.sl_109_111_4 T.zero_111 rfl rfl rfl rfl rfl rfl (fun bk5_4 w hw => ?_))
      refine rl_k rfl (k_append (news := [_, _, _, _]) hw T.sl_109_111_4 T.zero_111 T.bytes_111_56 rfl (by decide) rfl rfl (by (repeat first | with_reducible exact xH | apply xT); first | done | fail) rfl (by exact sat_cells hw (by (repeat first | with_reducible exact xH | apply xT); first | done | fail) ⟨rfl, rfl, rfl, rfl, trivial⟩) (by simp [Value.oneCell']) (by omega) (by simp only [maxLen]; omega) rfl (fun vv5_5 w hw hnil => ?_))
      refine xV rfl rfl rfl (v_assign rfl) ?_
      refine rl_nil (g_le (xK (xK (xK (xK (xK (xK (xK (Fr.le_refl _)))))))) ?_)
      refine g_inBlock ?_
      refine g_region ?_
      refine xV rfl rfl rfl (v_add rfl rfl (by omega)) ?_
      refine xV rfl rfl rfl (v_move rfl) ?_
      refine rl_nil (g_le (xK (xK (Fr.le_refl _))) ?_)
      exact g_le (by repeat (first | exact Fr.le_nil _ | refine Fr.le_cons rfl ?_)) (ih (i + 1, vv5_5, _, g3) w ⟨by simp only; omega, by simp only; omega, hg2.trans hg3, by simp only; rw [show (i + 1).toNat = i.toNat + 1 by omega, htk, List.map_append, ← List.cons_append]; exact (hels.mono mono_Tm hg3).snoc rfl hrd3, by simp only; rw [show (i + 1).toNat = i.toNat + 1 by omega]; exact hw.xQ⟩ (by simp only; omega))
  · try with_reducible exact tf_elim h1
    all_goals
      try replace h1 := of_decide_eq_false h1
      refine g_exit rfl (g_seq ?_)
      rw [List.take_of_length_le (by omega)] at hels
      obtain ⟨g3, hg3, hl3, hw⟩ := (hw.xP (A := RO g2)).freeze_sl (bytes := 56) mono_Tm hels (by simp only [List.length_cons, List.length_map]; omega) (by simp only [reachBytes]; omega)
      refine g_region ?_
      refine xV rfl rfl rfl (v_move rfl) ?_
      refine rl_k rfl (k_callf Try.func68 rfl rfl rfl rfl ?_)
      refine Calls.mono (tof_calls hl3 (hw.xQ)) ?_
      rintro _ w ⟨g4, sl, hg4, rfl, hl4, hw⟩
      obtain ⟨sa, sn, sc, rfl⟩ := rdSl_shape hl4
      refine ⟨_, rfl, ?_⟩
      refine rl_k rfl (k_storeWhole hw T.agg_111_4 rfl rfl (by simp [Value.oneCell']) rfl (by (repeat first | with_reducible exact xH | apply xT); first | done | fail) rfl (fun w hw => ?_))
      refine rl_nil (g_le (xS rfl (xS rfl (Fr.le_refl _))) ?_)
      refine g_resC Try.func69 rfl ⟨_, rfl, holds_agg (vs := [_, _, _, _]) T.agg_111_4 rfl (by exact sat_cells hw (by (repeat first | with_reducible exact xH | apply xT); first | done | fail) ⟨rfl, rfl, rfl, rfl, trivial⟩)⟩ ?_
      exact ⟨g4, _, hg2.trans (hg3.trans hg4), rfl, hl4, hw.xQ⟩
theorem rowEn_calls {E : Env} {w : World} {L : List As} {g : Hp} {hcs : List Value} {hd : Tm} {a : Option Addr} {n c : Nat} {l : List En} {fv : Value} {f : En → Tm} (hhd : rdTm g hcs hd) (hl : rdSl 40 2 rdEn g [.slice a n c] l) (hn9 : n ≤ 100) (hcl : ∀ x ∈ l, MakesT E rdEn fv f x) (hw : Sat E w (RO g :: L)) :
    Calls Try.prog 62 #[.agg hcs.toArray, .slice a n c, fv] w fun e w' => ∃ g' sl, g.le g' ∧ e = .returned (.agg (tmC 5 0 ByteArray.empty sl).toArray) ∧ rdSl 56 4 rdTm g' [sl] (hd :: l.map f) ∧ Sat E w' (RO g' :: L) := by
  obtain ⟨ha, hc, rfl, _⟩ := tm_shape hhd
  obtain ⟨rfl, hb1, hc1, hmx, g1⟩ := rdSl_get hl
  refine calls_of_g (n := 27) Try.func62 rfl rfl rfl ?_
  change G _ _ _ _ _ [(0, _), (1, _), (2, _)] _
  refine g_seq ?_
  refine g_region ?_
  refine rl_k rfl (k_box hw rfl rfl rfl (fun bk0_0 w hw => ?_))
  refine rl_k rfl (k_alloc hw T.zero_111 rfl rfl (fun bk0_1 w hw => ?_))
  refine rl_nil (g_le (xK (xK (Fr.le_refl _))) ?_)
  refine g_seq ?_
  refine g_region ?_
  refine rl_v rfl rfl rfl (by exact sat_cells hw (by (repeat first | with_reducible exact xH | apply xT); first | done | fail) ⟨rfl, rfl, rfl, rfl, trivial⟩) (v_loadAgg (vs := [_, _, _, _]) T.agg_111_4 rfl rfl) ?_
  refine rl_k rfl (k_buildSlice (cells := [_, _, _, _]) hw T.sl_109_111_4 T.zero_111 rfl rfl rfl rfl rfl rfl (fun bk1_1 w hw => ?_))
  refine xV rfl rfl rfl (v_assign rfl) ?_
  refine rl_nil (g_le (xK (xS rfl (xS rfl (Fr.le_refl _)))) ?_)
  have hw := (hw.xP (A := pt bk1_1 _)).lit_own (sz := 4) (n := 1) rfl (by simp [maxLen])
  refine g_seq (g_seq ?_)
  refine g_region ?_
  refine xV rfl rfl rfl (v_move rfl) ?_
  refine xV rfl rfl rfl (v_lenSlice T.sl_45_126_2 rfl) ?_
  refine xV rfl rfl rfl (v_move rfl) ?_
  refine rl_nil (g_le (xK (xK (xK (Fr.le_refl _)))) ?_)
  refine g_block ?_
  refine g_loopC (σ := Int × Value × List Value × Hp) (fun C x => (14, .int .i64 x.1) :: (7, x.2.1) :: C) [(2, _), (6, _), (12, _), (13, _)] (by repeat (first | exact Fr.le_nil _ | refine Fr.le_cons rfl ?_)) (fun z w => 0 ≤ z.1 ∧ z.1 ≤ l.length ∧ g.le z.2.2.2 ∧ Els rdTm 4 z.2.2.2 z.2.2.1 (hd :: (l.take z.1.toNat).map f) ∧ Sat E w (OwnSl 111 4 z.2.1 (z.1.toNat + 1) z.2.2.1 :: pt bk0_1 (.cells (tmC 0 0 ByteArray.empty (.slice none 0 0)).toArray 111 (0, 0)) :: RO z.2.2.2 :: L)) (fun z => (l.length - z.1).toNat) ?_ (0, _, _, g) (by repeat (first | exact Fr.le_nil _ | refine Fr.le_cons rfl ?_)) ⟨by simp, by simp, Hp.le_refl _, by simp only [Int.toNat_zero, List.take_zero, List.map_nil]; exact Els.one rfl hhd, by simp only [Int.toNat_zero, Nat.zero_add]; exact hw.xQ⟩
  rintro ⟨i, v, cells, g2⟩ w ⟨hi0, hi1, hg2, hels, hw⟩ ih
  dsimp only at hi0 hi1 hg2 hels hw ih ⊢
  have hone := Els.ones one_Tm hels
  have hlen := hels.len
  rw [List.length_cons, List.length_map, List.length_take, Nat.min_eq_left (by omega)] at hlen
  obtain ⟨va, vc, rfl, _, _, _⟩ := hw.own_shape
  refine g_seq ?_
  refine g_region ?_
  refine xV rfl rfl rfl (v_lss rfl rfl) ?_
  refine rl_nil (g_le (xK (Fr.le_refl _)) ?_)
  refine g_seq ?_
  refine g_cond rfl (fun h1 => ?_) (fun h1 => ?_)
  · try with_reducible exact ft_elim h1
    all_goals
      try replace h1 := of_decide_eq_true h1
      refine g_skip (g_seq (g_block (g_seq ?_)))
      have hz := hw
      clear hw
      obtain ⟨_, _, _, _, g1'⟩ := rdSl_get (mono_sl mono_En hg2 hl)
      obtain ⟨b4, o1, x, ecs, rfl, hx, hat1, hl1, hrd⟩ := g1' i hi0 (by omega)
      have hmem := List.mem_of_getElem? hx
      have htk := take_snoc hx
      obtain ⟨ea, en, ec, rfl, _⟩ := en_told hrd
      have hw := hz
      clear hz
      refine g_region ?_
      refine xV rfl rfl rfl (v_indexAddr T.sl_45_126_2 rfl rfl (by omega) (by omega)) ?_
      refine rl_v rfl rfl rfl (by exact ro_ats hw (by (repeat first | with_reducible exact xH | apply xT); first | done | fail) (by assumption)) (v_loadAgg (vs := [_, _]) T.agg_126_2 rfl rfl) ?_
      refine rl_k rfl (k_alloc hw T.zero_126 rfl rfl (fun bk4_2 w hw => ?_))
      refine rl_k rfl (k_storeWhole hw T.agg_126_2 rfl rfl (by simp [Value.oneCell']) rfl (by (repeat first | with_reducible exact xH | apply xT); first | done | fail) rfl (fun w hw => ?_))
      refine rl_nil (g_le (xK (xK (xK (Fr.le_refl _)))) ?_)
      refine g_region ?_
      refine xV rfl rfl rfl (v_move rfl) ?_
      refine xV rfl rfl rfl (v_move rfl) ?_
      refine rl_v rfl rfl rfl (by exact sat_cells hw (by (repeat first | with_reducible exact xH | apply xT); first | done | fail) ⟨rfl, rfl, trivial⟩) (v_loadAgg (vs := [_, _]) T.agg_126_2 rfl rfl) ?_
      refine rl_k rfl (k_callv rfl rfl rfl ?_)
      refine CallsV.mono (hcl x hmem hrd (hw.xQ)) ?_
      rintro _ w ⟨g3, ecs3, hg3, rfl, hrd3, hw⟩
      obtain ⟨ya, yc, rfl, _⟩ := tm_shape hrd3
      refine ⟨_, rfl, ?_⟩
      refine rl_k rfl (k_buildSlice (cells := [_, _, _, _]) hw T.sl_109_111_4 T.zero_111 rfl rfl rfl rfl rfl rfl (fun bk5_4 w hw => ?_))
      refine rl_k rfl (k_append (news := [_, _, _, _]) hw T.sl_109_111_4 T.zero_111 T.bytes_111_56 rfl (by decide) rfl rfl (by (repeat first | with_reducible exact xH | apply xT); first | done | fail) rfl (by exact sat_cells hw (by (repeat first | with_reducible exact xH | apply xT); first | done | fail) ⟨rfl, rfl, rfl, rfl, trivial⟩) (by simp [Value.oneCell']) (by omega) (by simp only [maxLen]; omega) rfl (fun vv5_5 w hw hnil => ?_))
      refine xV rfl rfl rfl (v_assign rfl) ?_
      refine rl_nil (g_le (xK (xK (xK (xK (xK (xK (xK (Fr.le_refl _)))))))) ?_)
      refine g_inBlock ?_
      refine g_region ?_
      refine xV rfl rfl rfl (v_add rfl rfl (by omega)) ?_
      refine xV rfl rfl rfl (v_move rfl) ?_
      refine rl_nil (g_le (xK (xK (Fr.le_refl _))) ?_)
      exact g_le (by repeat (first | exact Fr.le_nil _ | refine Fr.le_cons rfl ?_)) (ih (i + 1, vv5_5, _, g3) w ⟨by simp only; omega, by simp only; omega, hg2.trans hg3, by simp only; rw [show (i + 1).toNat = i.toNat + 1 by omega, htk, List.map_append, ← List.cons_append]; exact (hels.mono mono_Tm hg3).snoc rfl hrd3, by simp only; rw [show (i + 1).toNat = i.toNat + 1 by omega]; exact hw.xQ⟩ (by simp only; omega))
  · try with_reducible exact tf_elim h1
    all_goals
      try replace h1 := of_decide_eq_false h1
      refine g_exit rfl (g_seq ?_)
      rw [List.take_of_length_le (by omega)] at hels
      obtain ⟨g3, hg3, hl3, hw⟩ := (hw.xP (A := RO g2)).freeze_sl (bytes := 56) mono_Tm hels (by simp only [List.length_cons, List.length_map]; omega) (by simp only [reachBytes]; omega)
      refine g_region ?_
      refine xV rfl rfl rfl (v_move rfl) ?_
      refine rl_k rfl (k_callf Try.func68 rfl rfl rfl rfl ?_)
      refine Calls.mono (tof_calls hl3 (hw.xQ)) ?_
      rintro _ w ⟨g4, sl, hg4, rfl, hl4, hw⟩
      obtain ⟨sa, sn, sc, rfl⟩ := rdSl_shape hl4
      refine ⟨_, rfl, ?_⟩
      refine rl_k rfl (k_storeWhole hw T.agg_111_4 rfl rfl (by simp [Value.oneCell']) rfl (by (repeat first | with_reducible exact xH | apply xT); first | done | fail) rfl (fun w hw => ?_))
      refine rl_nil (g_le (xS rfl (xS rfl (Fr.le_refl _))) ?_)
      refine g_resC Try.func62 rfl ⟨_, rfl, holds_agg (vs := [_, _, _, _]) T.agg_111_4 rfl (by exact sat_cells hw (by (repeat first | with_reducible exact xH | apply xT); first | done | fail) ⟨rfl, rfl, rfl, rfl, trivial⟩)⟩ ?_
      exact ⟨g4, _, hg2.trans (hg3.trans hg4), rfl, hl4, hw.xQ⟩
end Go.Proofs.Ytlgpdglnfjndhaa
