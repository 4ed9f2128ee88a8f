/-
  Layer 8's laws: a heap with a tree of some secrets; its questions at such trees.
-/
import Derived.Test.YtdiocmjhencbpaaL08b
import Derived.Test.YtdiocmjhencbpaaH10
namespace Go.Proofs.Ytdiocmjhencbpaa
set_option maxRecDepth 8000
set_option linter.unusedSimpArgs false
set_option linter.unusedVariables false
open Go Xe
def stepG (x : En) (st : Bool × List En) (y : En) : Bool × List En :=
  if y.name = x.name then (if (!st.1 && !sl y.name x.name) = true then (true, st.2 ++ [x]) else st)
  else (if (!st.1 && !sl y.name x.name) = true then (true, st.2 ++ [x] ++ [y]) else (st.1, st.2 ++ [y]))
theorem stepG_len (x : En) (st : Bool × List En) (y : En) : (stepG x st y).2.length ≤ st.2.length + 2 := by
  unfold stepG
  split <;> split <;> simp
theorem foldG_lt {x : En} : ∀ {A : List En} {nx : List En}, (∀ y ∈ A, sl y.name x.name = true) → A.foldl (stepG x) (false, nx) = (false, nx ++ A)
  | [], nx, _ => by simp
  | y :: A, nx, h => by
    have h1 := h y (by simp)
    have e : stepG x (false, nx) y = (false, nx ++ [y]) := by unfold stepG; rw [if_neg (sl_ne h1), if_neg (by simp [h1])]
    rw [List.foldl_cons, e, foldG_lt fun z hz => h z (by simp [hz])]; simp
theorem foldG_done {x : En} : ∀ {C : List En} {nx : List En}, (∀ y ∈ C, sl x.name y.name = true) → C.foldl (stepG x) (true, nx) = (true, nx ++ C)
  | [], nx, _ => by simp
  | y :: C, nx, h => by
    have h1 := h y (by simp)
    have e : stepG x (true, nx) y = (true, nx ++ [y]) := by unfold stepG; rw [if_neg (sl_ne h1).symm, if_neg (by simp)]
    rw [List.foldl_cons, e, foldG_done fun z hz => h z (by simp [hz])]; simp
theorem foldG_gt {x y : En} {C nx : List En} (h : ∀ z ∈ y :: C, sl x.name z.name = true) : (y :: C).foldl (stepG x) (false, nx) = (true, nx ++ [x] ++ y :: C) := by
  have h1 := h y (by simp)
  have e : stepG x (false, nx) y = (true, nx ++ [x] ++ [y]) := by unfold stepG; rw [if_neg (sl_ne h1).symm, if_pos (by simp [sl_asymm h1])]
  rw [List.foldl_cons, e, foldG_done fun z hz => h z (by simp [hz])]; simp
/-- What the laws' row with a secret put in is. -/
theorem foldG_ins {es : List En} (h : Sorted es) (x : En) : insE es x = (if (es.foldl (stepG x) (false, [])).1 = true then (es.foldl (stepG x) (false, [])).2 else (es.foldl (stepG x) (false, [])).2 ++ [x]) := by
  obtain ⟨m, hes, hm⟩ := sorted_parts h x.name
  have hA : ∀ y ∈ es.filter (ltE x.name), sl y.name x.name = true := fun y hy => (List.mem_filter.1 hy).2
  have hC : ∀ y ∈ es.filter (gtE x.name), sl x.name y.name = true := fun y hy => (List.mem_filter.1 hy).2
  unfold insE
  generalize es.filter (ltE x.name) = A at hes hA ⊢
  generalize es.filter (gtE x.name) = C at hes hC ⊢
  rw [hes, List.foldl_append, List.foldl_append, foldG_lt hA, List.nil_append]
  rcases hm with rfl | ⟨e, rfl, he⟩
  · cases C with
    | nil => simp
    | cons y C => rw [List.foldl_nil, foldG_gt hC]; simp
  · have e1 : [e].foldl (stepG x) (false, A) = (true, A ++ [x]) := by
      show stepG x (false, A) e = _
      unfold stepG; rw [if_pos he, if_pos (by rw [he, sl_irrefl]; rfl)]
    rw [e1, foldG_done hC]; simp
def growE (xs : List En) : List En := xs.foldl insE []
theorem growE_snoc (xs : List En) (x : En) : growE (xs ++ [x]) = insE (growE xs) x := by simp [growE]
theorem ord_f17_r31_L09 : orderOfB Try.f17 31 [4] (.a 0 (.a 2 (.a 3 (.k 1 (.k 4 (.k 5 .done)))))) = true := by kernel_rfl
set_option maxHeartbeats 4000000 in
theorem grown_calls {E : Env} {w : World} {L : List As} {g : Hp} {a : Option Addr} {len cap : Nat} {xs : List En} (hr : (rdSl 40 2 rdEn) g [.slice a len cap] xs) (hw : Sat E w (RO g :: L)) :
    Calls Try.prog 17 #[.slice a len cap] w fun v w' => ∃ g' h A s root hh u la ln lc, g.le g' ∧ HeapI h g' s A ∧ root.ok ∧ TreeAt s root hh u ∧ entsU hh u = growE (xs.take 50) ∧ (entsU hh u).length ≤ 50 ∧ hh < 7 ∧ s.length ≤ 1000 ∧
      v = .returned (.tuple #[.pointer (some ⟨h, 0, none⟩), .agg root.cells.toArray, .slice la ln lc]) ∧ (rdSl 40 2 rdEn) g' [.slice la ln lc] (entsU hh u) ∧ Sat E w' (A :: RO g' :: L) := by
  obtain ⟨rfl, hlb, hlc, hlm, _⟩ := rdSl_get hr
  simp only [reachBytes] at hlb
  simp only [maxLen] at hlm
  refine calls_of_g (n := 91) Try.func17 rfl rfl rfl ?_
  change G _ _ _ _ _ [(0, _)] _
  refine g_seq ?_
  refine g_region ?_
  refine xV rfl rfl rfl (v_assign rfl) ?_
  refine rl_k rfl (k_alloc hw T.zero_26 rfl rfl (fun bk0_1 w hw => ?_))
  refine xV rfl rfl rfl (v_assign rfl) ?_
  refine rl_nil (g_le (xK (xK (xK (Fr.le_refl _)))) ?_)
  refine g_seq ?_
  refine g_region ?_
  refine rl_k rfl (k_callf Try.func9 rfl rfl rfl rfl ?_)
  refine Calls.mono (tnew_calls (g := g) (hw.xQ)) ?_
  rintro _ w ⟨h, A, rfl, hI, hw⟩
  refine ⟨_, rfl, ?_⟩
  refine xV rfl rfl rfl (v_assign rfl) ?_
  refine rl_nil (g_le (xK (xS rfl (Fr.le_refl _))) ?_)
  refine g_seq (g_seq ?_)
  refine g_region ?_
  refine xV rfl rfl rfl (v_move rfl) ?_
  refine xV rfl rfl rfl (v_eqlNil T.ptr_27 rfl rfl) ?_
  refine rl_nil (g_le (xK (xS rfl (Fr.le_refl _))) ?_)
  refine g_cond_false rfl ?_
  refine g_skip (g_seq ?_)
  refine g_region ?_
  refine xV rfl rfl rfl (v_move rfl) ?_
  refine xV rfl rfl rfl (v_mkIface T.ptr_27 rfl) ?_
  refine rl_k rfl (k_callf Try.func42 rfl rfl rfl rfl ?_)
  refine Calls.mono (tempty_calls hI (hw.xQ)) ?_
  rintro _ w ⟨g1, A1, hg1, hI1, rfl, ht1, hok1, hw⟩
  refine ⟨_, rfl, ?_⟩
  refine xV rfl rfl rfl (v_move rfl) ?_
  refine xV rfl rfl rfl (v_extract rfl rfl) ?_
  refine xV rfl rfl rfl (v_extract rfl rfl) ?_
  refine rl_k rfl (k_alloc hw T.zero_26 rfl rfl (fun bk4_6 w hw => ?_))
  refine rl_k rfl (k_storeWhole hw T.agg_26_4 rfl rfl (by simp [Value.oneCell']) rfl (by (repeat first | with_reducible exact xH | apply xT); first | done | fail) rfl (fun w hw => ?_))
  refine xV rfl rfl rfl (v_assign rfl) ?_
  refine rl_nil (g_le (xK (xK (xS rfl (xS rfl (xS rfl (xS rfl (xS rfl (xS rfl (Fr.le_refl _))))))))) ?_)
  refine g_seq (g_seq ?_)
  refine g_region ?_
  refine xV rfl rfl rfl (v_move rfl) ?_
  refine xV rfl rfl rfl (v_neqF rfl rfl (by omega)) ?_
  refine rl_nil (g_le (xK (xS rfl (Fr.le_refl _))) ?_)
  refine g_cond_false rfl ?_
  refine g_skip (g_seq ?_)
  refine g_region ?_
  refine xV rfl rfl rfl (v_assign rfl) ?_
  refine rl_nil (g_le (xK (Fr.le_refl _)) ?_)
  refine g_seq (g_seq ?_)
  refine g_region ?_
  refine xV rfl rfl rfl (v_move rfl) ?_
  refine xV rfl rfl rfl (v_lenSlice T.sl_33_40_2 rfl) ?_
  refine xV rfl rfl rfl (v_move rfl) ?_
  refine rl_nil (g_le (xK (xK (xK (Fr.le_refl _)))) ?_)
  refine g_cutc (σ := Hp × List Nd × As × Rf × Value × List En) (fun C x => (8, x.2.2.2.2.1) :: C) [(2, _), (3, _), (4, _), (5, _), (6, _)] (by repeat (first | exact Fr.le_nil _ | refine Fr.le_cons rfl ?_)) (fun z w => g.le z.1 ∧ HeapI h z.1 z.2.1 z.2.2.1 ∧ z.2.2.2.1.ok ∧ (∃ hh u, TreeAt z.2.1 z.2.2.2.1 hh u ∧ entsU hh u = z.2.2.2.2.2) ∧ z.2.2.2.2.2 = growE (xs.take 50) ∧ z.2.2.2.2.2.length ≤ 50 ∧ z.2.1.length ≤ 1000 ∧ (rdSl 40 2 rdEn) z.1 [z.2.2.2.2.1] z.2.2.2.2.2 ∧ Sat E w (z.2.2.1 :: pt bk0_1 (.cells [Value.int .u64 0, .int .i64 0, .int .i64 0, .int .i64 0].toArray 26 (0, 0)) :: pt bk4_6 (.cells z.2.2.2.1.cells.toArray 26 (0, 0)) :: RO z.1 :: L)) ?_ ?_
  · skip
    rintro ⟨g8, s8, A8, root8, lv8, es8⟩ w ⟨hg8, hI8, hok8, ⟨q8, u8, ht8, he8⟩, hgr8, hel8, hs8, hl8, hw⟩
    dsimp only at hg8 hI8 hok8 ht8 he8 hgr8 hel8 hs8 hl8 hw ⊢
    subst he8
    obtain ⟨la, ln, lc, rfl⟩ := rdSl_shape hl8
    have h78 := ht8.low (by omega)
    all_goals
      refine g_seq ?_
      refine g_drawA ord_f17_r31_L09 (by kernel_rfl) T.mixed hw (fun w hw => ?_)
      refine rs_a 0 rfl rfl rfl rfl (v_move rfl) ?_
      refine rs_a 2 rfl rfl rfl rfl (v_move rfl) ?_
      refine rs_a 3 rfl rfl rfl rfl (v_assign rfl) ?_
      refine rs_kv 1 rfl rfl rfl rfl (by exact sat_cells hw (by (repeat first | with_reducible exact xH | apply xT); first | done | fail) ⟨rfl, rfl, rfl, rfl, trivial⟩) (v_loadAgg (vs := [_, _, _, _]) T.agg_26_4 rfl rfl) ?_
      refine rs_k 4 rfl rfl (k_storeWhole hw T.agg_26_4 rfl rfl (by simp [Value.oneCell']) rfl (by (repeat first | with_reducible exact xH | apply xT); first | done | fail) rfl (fun w hw => ?_))
      refine ⟨fun _ => trivial, ?_⟩
      refine rs_kv 5 rfl rfl rfl rfl (S' := fun _ => True) trivial (v_assign rfl) ?_
      refine rs_done (g_le (xK (xS rfl (xK (xS rfl (xS rfl (Fr.le_refl _)))))) ?_)
      refine g_res3 Try.func17 rfl rfl ⟨_, rfl, holds_agg (vs := [_, _, _, _]) T.agg_26_4 rfl (by exact sat_cells hw (by (repeat first | with_reducible exact xH | apply xT); first | done | fail) ⟨rfl, rfl, rfl, rfl, trivial⟩)⟩ rfl ?_
      exact ⟨g8, h, A8, s8, root8, q8, u8, _, _, _, hg8, hI8, hok8, ht8, hgr8, hel8, h78, hs8, rfl, hl8, hw.xQ⟩
  · intro joinb0
    refine g_block ?_
    refine g_loopC (σ := Nat × Hp × List Nd × As × Rf × Value × List En) (fun C x => (32, .int .i64 (x.1 : Nat)) :: (8, x.2.2.2.2.2.1) :: C) [(2, _), (3, _), (4, _), (5, _), (6, _), (30, _), (31, _)] (by repeat (first | exact Fr.le_nil _ | refine Fr.le_cons rfl ?_)) (fun z w => z.1 ≤ xs.length ∧ z.1 ≤ 50 ∧ g.le z.2.1 ∧ HeapI h z.2.1 z.2.2.1 z.2.2.2.1 ∧ z.2.2.2.2.1.ok ∧ (∃ hh u, TreeAt z.2.2.1 z.2.2.2.2.1 hh u ∧ entsU hh u = z.2.2.2.2.2.2) ∧ z.2.2.2.2.2.2 = growE (xs.take z.1) ∧ z.2.2.2.2.2.2.length ≤ z.1 ∧ z.2.2.1.length ≤ 1 + 17 * z.1 ∧ (rdSl 40 2 rdEn) z.2.1 [z.2.2.2.2.2.1] z.2.2.2.2.2.2 ∧ Sat E w (z.2.2.2.1 :: pt bk0_1 (.cells [Value.int .u64 0, .int .i64 0, .int .i64 0, .int .i64 0].toArray 26 (0, 0)) :: pt bk4_6 (.cells z.2.2.2.2.1.cells.toArray 26 (0, 0)) :: RO z.2.1 :: L)) (fun z => xs.length - z.1) ?_ (0, g1, [nodeU 0 ([] : List En)], A1, refO 0, .slice none 0 0, []) (by repeat (first | exact Fr.le_nil _ | refine Fr.le_cons rfl ?_)) ⟨by simp, by simp, hg1, hI1, hok1, ⟨0, _, ht1, rfl⟩, by simp [growE], by simp, by simp, rdSl_nil _, hw.xQ⟩
    rintro ⟨i, g2, s, A2, root, lv, es⟩ w ⟨hi1, hi5, hg2, hI2, hrk, ⟨hh, u, ht, hes⟩, hgr, hel, hsl, hl, hw⟩ ih
    dsimp only at hi1 hi5 hg2 hI2 hrk ht hes hgr hel hsl hl hw ih ⊢
    subst hes
    obtain ⟨la, ln, lc, rfl⟩ := rdSl_shape hl
    have h7 := ht.low (by omega)
    refine g_seq ?_
    refine g_region ?_
    refine xV rfl rfl rfl (v_lss rfl rfl) ?_
    refine rl_nil (g_le (xK (Fr.le_refl _)) ?_)
    refine g_seq ?_
    refine g_cond rfl (fun h3 => ?_) (fun h3 => ?_)
    · try with_reducible exact ft_elim h3
      all_goals
        try replace h3 := of_decide_eq_true h3
        refine g_skip (g_seq (g_block (g_seq ?_)))
        have hz := hw
        clear hw
        obtain ⟨_, _, _, _, gl⟩ := rdSl_get (mono_sl mono_En hg2 hr)
        obtain ⟨b4, o1, x, ecs, rfl, hx, hat1, hl1, hrd⟩ := gl (i : Nat) (by omega) (by omega)
        rw [Int.toNat_natCast] at hx hat1
        obtain ⟨va, vn, vc, rfl, hrd⟩ := en_told hrd
        have htx : xs.take (i + 1) = xs.take i ++ [x] := by rw [List.take_add_one, hx]; rfl
        have hw := hz
        refine g_region ?_
        refine xV rfl rfl rfl (v_move rfl) ?_
        refine xV rfl rfl rfl (v_indexAddr T.sl_33_40_2 rfl rfl (by omega) (by omega)) ?_
        refine rl_v rfl rfl rfl (by exact ro_ats hw (by (repeat first | with_reducible exact xH | apply xT); first | done | fail) (by assumption)) (v_loadAgg (vs := [_, _]) T.agg_40_2 rfl rfl) ?_
        refine rl_k rfl (k_alloc hw T.zero_40 rfl rfl (fun bk10_3 w hw => ?_))
        refine xV rfl rfl rfl (v_assign rfl) ?_
        refine rl_k rfl (k_storeWhole hw T.agg_40_2 rfl rfl (by simp [Value.oneCell']) rfl (by (repeat first | with_reducible exact xH | apply xT); first | done | fail) rfl (fun w hw => ?_))
        refine rl_nil (g_le (xK (xK (xK (xK (xK (Fr.le_refl _)))))) ?_)
        refine g_seq (g_seq ?_)
        refine g_region ?_
        refine xV rfl rfl rfl (v_move rfl) ?_
        refine xV rfl rfl rfl (v_geq rfl rfl) ?_
        refine rl_nil (g_le (xK (xK (Fr.le_refl _))) ?_)
        refine g_cond rfl (fun h4 => ?_) (fun h4 => ?_)
        · try with_reducible exact ft_elim h4
          all_goals
            try replace h4 := of_decide_eq_true h4
            refine g_exit rfl ?_
            exact joinb0 (g2, s, A2, root, .slice la ln lc, entsU hh u) w _ (by repeat (first | exact Fr.le_nil _ | refine Fr.le_cons rfl ?_)) ⟨hg2, hI2, hrk, ⟨hh, u, ht, rfl⟩, by simp only; rw [hgr, show i = 50 by omega], by simp only; omega, by simp only; omega, hl, hw.xQ⟩
        · try with_reducible exact tf_elim h4
          all_goals
            try replace h4 := of_decide_eq_false h4
            refine g_skip (g_seq ?_)
            refine g_region ?_
            refine xV rfl rfl rfl (v_move rfl) ?_
            refine xV rfl rfl rfl (v_mkIface T.ptr_27 rfl) ?_
            refine rl_v rfl rfl rfl (by exact sat_cells hw (by (repeat first | with_reducible exact xH | apply xT); first | done | fail) ⟨rfl, rfl, rfl, rfl, trivial⟩) (v_loadAgg (vs := [_, _, _, _]) T.agg_26_4 rfl rfl) ?_
            refine rl_v rfl rfl rfl (by exact sat_cells hw (by (repeat first | with_reducible exact xH | apply xT); first | done | fail) ⟨rfl, rfl, trivial⟩) (v_loadAgg (vs := [_, _]) T.agg_40_2 rfl rfl) ?_
            refine rl_k rfl (k_callf Try.func43 rfl rfl rfl rfl ?_)
            refine Calls.mono (tput_calls hrd ht (by omega) (by omega) hrk hI2 (hw.xQ)) ?_
            rintro _ w ⟨g4, A4, s4, root4, q4, u4, hg4, hI4, rfl, hok4, hst, _, h74, hw⟩
            refine ⟨_, rfl, ?_⟩
            refine xV rfl rfl rfl (v_move rfl) ?_
            refine xV rfl rfl rfl (v_extract rfl rfl) ?_
            refine xV rfl rfl rfl (v_extract rfl rfl) ?_
            refine rl_k rfl (k_alloc hw T.zero_26 rfl rfl (fun bk12_8 w hw => ?_))
            refine rl_k rfl (k_storeWhole hw T.agg_26_4 rfl rfl (by simp [Value.oneCell']) rfl (by (repeat first | with_reducible exact xH | apply xT); first | done | fail) rfl (fun w hw => ?_))
            refine xV rfl rfl rfl (v_assign rfl) ?_
            refine rl_nil (g_le (xK (xK (xK (xK (xK (xK (xK (xK (xK (xK (Fr.le_refl _))))))))))) ?_)
            refine g_seq (g_seq ?_)
            refine g_region ?_
            refine xV rfl rfl rfl (v_move rfl) ?_
            refine xV rfl rfl rfl (v_neqF rfl rfl (by omega)) ?_
            refine rl_nil (g_le (xK (xK (Fr.le_refl _))) ?_)
            refine g_cond_false rfl ?_
            refine g_skip (g_seq ?_)
            refine g_region ?_
            refine rl_v rfl rfl rfl (by exact sat_cells hw (by (repeat first | with_reducible exact xH | apply xT); first | done | fail) ⟨rfl, rfl, rfl, rfl, trivial⟩) (v_loadAgg (vs := [_, _, _, _]) T.agg_26_4 rfl rfl) ?_
            refine rl_k rfl (k_storeWhole hw T.agg_26_4 rfl rfl (by simp [Value.oneCell']) rfl (by (repeat first | with_reducible exact xH | apply xT); first | done | fail) rfl (fun w hw => ?_))
            refine rl_nil (g_le (xK (Fr.le_refl _)) ?_)
            refine g_seq ?_
            have hfold := foldG_ins ht.srt x
            obtain ⟨rfl, hle9, hm9, hb9, _⟩ := rdSl_cells hl
            obtain ⟨_, _, _, _, ge⟩ := rdSl_get (mono_sl mono_En hg4 hl)
            have hrd4 := mono_En hg4 hrd
            generalize hes : entsU hh u = es at *
            refine g_region ?_
            refine xV rfl rfl rfl (v_assign rfl) ?_
            refine rl_nil (g_le (xK (Fr.le_refl _)) ?_)
            refine g_seq ?_
            refine g_region ?_
            refine xV rfl rfl rfl (v_assign rfl) ?_
            refine rl_nil (g_le (xK (Fr.le_refl _)) ?_)
            refine g_seq (g_seq ?_)
            refine g_region ?_
            refine xV rfl rfl rfl (v_move rfl) ?_
            refine xV rfl rfl rfl (v_lenSlice T.sl_33_40_2 rfl) ?_
            refine xV rfl rfl rfl (v_move rfl) ?_
            refine rl_nil (g_le (xK (xK (xK (Fr.le_refl _)))) ?_)
            refine g_block ?_
            refine g_loopC (σ := Nat × Bool × List En × Value × List Value) (fun C x => (53, .int .i64 (x.1 : Nat)) :: (14, .bool x.2.1) :: (13, x.2.2.2.1) :: C) [(2, _), (3, _), (4, _), (5, _), (6, _), (8, _), (9, _), (10, _), (11, _), (12, _), (30, _), (31, _), (32, _), (33, _), (34, _), (35, _), (36, _), (37, _), (38, _), (39, _), (40, _), (41, _), (42, _), (43, _), (44, _), (45, _), (46, _), (47, _), (48, _), (50, _), (51, _), (52, _)] (by repeat (first | exact Fr.le_nil _ | refine Fr.le_cons rfl ?_)) (fun z w => z.1 ≤ es.length ∧ es.foldl (stepG x) (false, []) = (es.drop z.1).foldl (stepG x) (z.2.1, z.2.2.1) ∧ z.2.2.1.length ≤ 2 * z.1 ∧ Els rdEn 2 g4 z.2.2.2.2 z.2.2.1 ∧ Sat E w (OwnSl 40 2 z.2.2.2.1 z.2.2.1.length z.2.2.2.2 :: A4 :: pt bk0_1 (.cells [Value.int .u64 0, .int .i64 0, .int .i64 0, .int .i64 0].toArray 26 (0, 0)) :: pt bk4_6 (.cells root4.cells.toArray 26 (0, 0)) :: pt bk10_3 (.cells [Value.string x.name, .slice va vn vc].toArray 40 (0, 0)) :: RO g4 :: L)) (fun z => es.length - z.1) ?_ (0, false, [], .slice none 0 0, []) (by repeat (first | exact Fr.le_nil _ | refine Fr.le_cons rfl ?_)) ⟨by simp, by simp, by simp, Els.nil, (hw.xQ : Sat E w (A4 :: pt bk0_1 (.cells [Value.int .u64 0, .int .i64 0, .int .i64 0, .int .i64 0].toArray 26 (0, 0)) :: pt bk4_6 (.cells root4.cells.toArray 26 (0, 0)) :: pt bk10_3 (.cells [Value.string x.name, .slice va vn vc].toArray 40 (0, 0)) :: RO g4 :: L)).own_nil 40 2⟩
            rintro ⟨j, dn, nx, nv, ncs⟩ w ⟨hj1, hfd, hnx, hnl, hw⟩ ih2
            dsimp only at hj1 hfd hnx hnl hw ih2 ⊢
            obtain ⟨na, nc, rfl, _, _, _⟩ := hw.own_shape
            have hlen := hnl.len
            have hone := hnl.ones one_En
            refine g_seq ?_
            refine g_region ?_
            refine xV rfl rfl rfl (v_lss rfl rfl) ?_
            refine rl_nil (g_le (xK (Fr.le_refl _)) ?_)
            refine g_seq ?_
            refine g_cond rfl (fun h6 => ?_) (fun h6 => ?_)
            · try with_reducible exact ft_elim h6
              all_goals
                try replace h6 := of_decide_eq_true h6
                refine g_skip (g_seq (g_block (g_seq ?_)))
                have hz := hw
                clear hw
                obtain ⟨b6, o6, y, ycs, rfl, hy, hat6, hl6, hrdy⟩ := ge (j : Nat) (by omega) (by omega)
                rw [Int.toNat_natCast] at hy hat6
                obtain ⟨ya, yn, yc, rfl, hrdy⟩ := en_told hrdy
                obtain ⟨hy1, hy2⟩ := List.getElem?_eq_some_iff.1 hy
                rw [List.drop_eq_getElem_cons hy1, hy2, List.foldl_cons] at hfd
                have hw := hz
                refine g_region ?_
                refine xV rfl rfl rfl (v_indexAddr T.sl_33_40_2 rfl rfl (by omega) (by omega)) ?_
                refine rl_v rfl rfl rfl (by exact ro_ats hw (by (repeat first | with_reducible exact xH | apply xT); first | done | fail) (by assumption)) (v_loadAgg (vs := [_, _]) T.agg_40_2 rfl rfl) ?_
                refine rl_k rfl (k_alloc hw T.zero_40 rfl rfl (fun bk20_2 w hw => ?_))
                refine rl_k rfl (k_storeWhole hw T.agg_40_2 rfl rfl (by simp [Value.oneCell']) rfl (by (repeat first | with_reducible exact xH | apply xT); first | done | fail) rfl (fun w hw => ?_))
                refine rl_nil (g_le (xK (xK (xK (Fr.le_refl _)))) ?_)
                refine g_seq (g_seq ?_)
                refine g_region ?_
                refine xV rfl rfl rfl (v_move rfl) ?_
                refine xV rfl rfl rfl (v_not rfl) ?_
                refine xV rfl rfl rfl (v_move rfl) ?_
                refine rl_split (s := 59) rfl (fun g21_2 => ?_) (fun g21_2 => ?_)
                · try with_reducible exact ft_elim g21_2
                  all_goals
                    try replace g21_2 := of_decide_eq_true g21_2
                    refine rl_vg (met_on rfl rfl rfl rfl) rfl rfl (S := fun _ => True) trivial (v_fieldAddr0 T.fld_40_0_0 rfl) ?_
                    refine rl_vg (met_on rfl rfl rfl rfl) rfl rfl (by exact sat_cell hw (by (repeat first | with_reducible exact xH | apply xT); first | done | fail) rfl) (v_load T.scal_9 rfl) ?_
                    refine rl_vg (met_on rfl rfl rfl rfl) rfl rfl (S := fun _ => True) trivial (v_fieldAddr0 T.fld_40_0_0 rfl) ?_
                    refine rl_vg (met_on rfl rfl rfl rfl) rfl rfl (by exact sat_cell hw (by (repeat first | with_reducible exact xH | apply xT); first | done | fail) rfl) (v_load T.scal_9 rfl) ?_
                    refine rl_vg (met_on rfl rfl rfl rfl) rfl rfl (S := fun _ => True) trivial (v_geqStr rfl rfl) ?_
                    refine xV rfl rfl rfl (v_pick_true rfl rfl) ?_
                    refine rl_nil (g_le (xK (xK (xK (xK (xK (xK (xK (xK (xK (xK (Fr.le_refl _))))))))))) ?_)
                    refine g_cutc (σ := Bool × List En × Value × List Value) (fun C x => (14, .bool x.1) :: (13, x.2.2.1) :: C) [(2, _), (3, _), (4, _), (5, _), (6, _), (8, _), (9, _), (10, _), (11, _), (12, _), (16, _), (30, _), (31, _), (32, _), (33, _), (34, _), (35, _), (36, _), (37, _), (38, _), (39, _), (40, _), (41, _), (42, _), (43, _), (44, _), (45, _), (46, _), (47, _), (48, _), (50, _), (51, _), (52, _), (53, _), (54, _), (55, _), (56, _), (57, _), (58, _), (59, _), (60, _), (61, _), (62, _), (63, _), (64, _), (65, _)] (by repeat (first | exact Fr.le_nil _ | refine Fr.le_cons rfl ?_)) (fun z w => stepG x (dn, nx) y = (if y.name = x.name then (z.1, z.2.1) else (z.1, z.2.1 ++ [y])) ∧ z.2.1.length ≤ 2 * j + 1 ∧ Els rdEn 2 g4 z.2.2.2 z.2.1 ∧ Sat E w (OwnSl 40 2 z.2.2.1 z.2.1.length z.2.2.2 :: pt bk20_2 (.cells [Value.string y.name, .slice ya yn yc].toArray 40 (0, 0)) :: A4 :: pt bk0_1 (.cells [Value.int .u64 0, .int .i64 0, .int .i64 0, .int .i64 0].toArray 26 (0, 0)) :: pt bk4_6 (.cells root4.cells.toArray 26 (0, 0)) :: pt bk10_3 (.cells [Value.string x.name, .slice va vn vc].toArray 40 (0, 0)) :: RO g4 :: L)) ?_ ?_
                    · skip
                      rintro ⟨dn3, nx3, nv3, ncs3⟩ w ⟨hst3, hnx3, hnl3, hw⟩
                      dsimp only at hst3 hnx3 hnl3 hw ⊢
                      obtain ⟨na3, nc3, rfl, _, _, _⟩ := hw.own_shape
                      have hlen := hnl3.len
                      have hone := hnl3.ones one_En
                      all_goals
                        refine g_seq ?_
                        refine g_region ?_
                        refine xV rfl rfl rfl (v_fieldAddr0 T.fld_40_0_0 rfl) ?_
                        refine rl_v rfl rfl rfl (by exact sat_cell hw (by (repeat first | with_reducible exact xH | apply xT); first | done | fail) rfl) (v_load T.scal_9 rfl) ?_
                        refine xV rfl rfl rfl (v_fieldAddr0 T.fld_40_0_0 rfl) ?_
                        refine rl_v rfl rfl rfl (by exact sat_cell hw (by (repeat first | with_reducible exact xH | apply xT); first | done | fail) rfl) (v_load T.scal_9 rfl) ?_
                        refine xV rfl rfl rfl (v_neqStr rfl rfl) ?_
                        refine rl_nil (g_le (xK (xK (xK (xK (xK (Fr.le_refl _)))))) ?_)
                        refine g_cond rfl (fun h8 => ?_) (fun h8 => ?_)
                        · try with_reducible exact ft_elim h8
                          all_goals
                            try replace h8 := of_decide_eq_true h8
                            refine g_region ?_
                            refine xV rfl rfl rfl (v_move rfl) ?_
                            refine rl_v rfl rfl rfl (by exact sat_cells hw (by (repeat first | with_reducible exact xH | apply xT); first | done | fail) ⟨rfl, rfl, trivial⟩) (v_loadAgg (vs := [_, _]) T.agg_40_2 rfl rfl) ?_
                            refine rl_k rfl (k_buildSlice (cells := [_, _]) hw T.sl_33_40_2 T.zero_40 rfl rfl rfl rfl rfl rfl (fun bk25_2 w hw => ?_))
                            refine rl_k rfl (k_append (news := [_, _]) hw T.sl_33_40_2 T.zero_40 T.bytes_40_40 rfl (by decide) rfl rfl (by (repeat first | with_reducible exact xH | apply xT); first | done | fail) rfl (by exact sat_cells hw (by (repeat first | with_reducible exact xH | apply xT); first | done | fail) ⟨rfl, rfl, trivial⟩) (by simp [Value.oneCell']) (by omega) (by simp only [maxLen]; omega) rfl (fun vv25_3 w hw hnil => ?_))
                            refine xV rfl rfl rfl (v_assign rfl) ?_
                            refine rl_nil (g_le (xK (xK (xK (xK (xK (Fr.le_refl _)))))) ?_)
                            refine g_inBlock ?_
                            refine g_region ?_
                            refine xV rfl rfl rfl (v_add rfl rfl (by omega)) ?_
                            refine xV rfl rfl rfl (v_move rfl) ?_
                            refine rl_nil (g_le (xK (xK (Fr.le_refl _))) ?_)
                            rw [if_neg h8] at hst3
                            rw [hst3] at hfd
                            exact g_le (by repeat (first | exact Fr.le_nil _ | refine Fr.le_cons rfl ?_)) (ih2 (j + 1, dn3, nx3 ++ [y], vv25_3, _) w ⟨by simp only; omega, hfd, by simp only [List.length_append, List.length_singleton]; omega, hnl3.snoc rfl hrdy, by dsimp only; rw [List.length_append, List.length_singleton]; exact hw.xQ⟩ (by simp only; omega))
                        · try with_reducible exact tf_elim h8
                          all_goals
                            try replace h8 := of_decide_eq_false h8
                            refine g_skip (g_inBlock ?_)
                            refine g_region ?_
                            refine xV rfl rfl rfl (v_add rfl rfl (by omega)) ?_
                            refine xV rfl rfl rfl (v_move rfl) ?_
                            refine rl_nil (g_le (xK (xK (Fr.le_refl _))) ?_)
                            rw [if_pos (by simpa using h8)] at hst3
                            rw [hst3] at hfd
                            exact g_le (by repeat (first | exact Fr.le_nil _ | refine Fr.le_cons rfl ?_)) (ih2 (j + 1, dn3, nx3, _, ncs3) w ⟨by simp only; omega, hfd, by simp only; omega, hnl3, hw.xQ⟩ (by simp only; omega))
                    · intro joinc7
                      refine g_cond rfl (fun h7 => ?_) (fun h7 => ?_)
                      · try with_reducible exact ft_elim h7
                        all_goals
                          try replace h7 := of_decide_eq_true h7
                          refine g_seq ?_
                          refine g_region ?_
                          refine xV rfl rfl rfl (v_move rfl) ?_
                          refine rl_v rfl rfl rfl (by exact sat_cells hw (by (repeat first | with_reducible exact xH | apply xT); first | done | fail) ⟨rfl, rfl, trivial⟩) (v_loadAgg (vs := [_, _]) T.agg_40_2 rfl rfl) ?_
                          refine rl_k rfl (k_buildSlice (cells := [_, _]) hw T.sl_33_40_2 T.zero_40 rfl rfl rfl rfl rfl rfl (fun bk22_2 w hw => ?_))
                          refine rl_k rfl (k_append (news := [_, _]) hw T.sl_33_40_2 T.zero_40 T.bytes_40_40 rfl (by decide) rfl rfl (by (repeat first | with_reducible exact xH | apply xT); first | done | fail) rfl (by exact sat_cells hw (by (repeat first | with_reducible exact xH | apply xT); first | done | fail) ⟨rfl, rfl, trivial⟩) (by simp [Value.oneCell']) (by omega) (by simp only [maxLen]; omega) rfl (fun vv22_3 w hw hnil => ?_))
                          refine xV rfl rfl rfl (v_assign rfl) ?_
                          refine rl_nil (g_le (xK (xK (xK (xK (xK (Fr.le_refl _)))))) ?_)
                          refine g_region ?_
                          refine xV rfl rfl rfl (v_assign rfl) ?_
                          refine rl_nil (g_le (xK (Fr.le_refl _)) ?_)
                          exact joinc7 (true, nx ++ [x], vv22_3, _) w _ (by repeat (first | exact Fr.le_nil _ | refine Fr.le_cons rfl ?_)) ⟨by unfold stepG; (have hc : (!dn && !sl y.name x.name) = true := by rw [g21_2, h7]; rfl); rw [if_pos hc, if_pos hc], by simp only [List.length_append, List.length_singleton]; omega, hnl.snoc rfl hrd4, by dsimp only; rw [List.length_append, List.length_singleton]; exact hw.xQ⟩
                      · try with_reducible exact tf_elim h7
                        all_goals
                          try replace h7 := of_decide_eq_false h7
                          refine g_skip ?_
                          exact joinc7 (dn, nx, _, ncs) w _ (by repeat (first | exact Fr.le_nil _ | refine Fr.le_cons rfl ?_)) ⟨by unfold stepG; (have hc : ¬ (!dn && !sl y.name x.name) = true := by rw [g21_2, h7]; simp); rw [if_neg hc, if_neg hc], by simp only; omega, hnl, hw.xQ⟩
                · try with_reducible exact tf_elim g21_2
                  all_goals
                    try replace g21_2 := of_decide_eq_false g21_2
                    refine rl_off (met_off rfl rfl rfl rfl rfl) rfl rfl ?_
                    refine rl_off (met_off rfl rfl rfl rfl rfl) rfl rfl ?_
                    refine rl_off (met_off rfl rfl rfl rfl rfl) rfl rfl ?_
                    refine rl_off (met_off rfl rfl rfl rfl rfl) rfl rfl ?_
                    refine rl_off (met_off rfl rfl rfl rfl rfl) rfl rfl ?_
                    refine xV rfl rfl rfl (v_pick_false rfl rfl) ?_
                    refine rl_nil (g_le (xK (xK (xK (xK (xK (xK (xK (xK (xK (xK (Fr.le_refl _))))))))))) ?_)
                    refine g_cutc (σ := Bool × List En × Value × List Value) (fun C x => (14, .bool x.1) :: (13, x.2.2.1) :: C) [(2, _), (3, _), (4, _), (5, _), (6, _), (8, _), (9, _), (10, _), (11, _), (12, _), (16, _), (30, _), (31, _), (32, _), (33, _), (34, _), (35, _), (36, _), (37, _), (38, _), (39, _), (40, _), (41, _), (42, _), (43, _), (44, _), (45, _), (46, _), (47, _), (48, _), (50, _), (51, _), (52, _), (53, _), (54, _), (55, _), (56, _), (57, _), (58, _), (59, _), (60, _), (61, _), (62, _), (63, _), (64, _), (65, _)] (by repeat (first | exact Fr.le_nil _ | refine Fr.le_cons rfl ?_)) (fun z w => stepG x (dn, nx) y = (if y.name = x.name then (z.1, z.2.1) else (z.1, z.2.1 ++ [y])) ∧ z.2.1.length ≤ 2 * j + 1 ∧ Els rdEn 2 g4 z.2.2.2 z.2.1 ∧ Sat E w (OwnSl 40 2 z.2.2.1 z.2.1.length z.2.2.2 :: pt bk20_2 (.cells [Value.string y.name, .slice ya yn yc].toArray 40 (0, 0)) :: A4 :: pt bk0_1 (.cells [Value.int .u64 0, .int .i64 0, .int .i64 0, .int .i64 0].toArray 26 (0, 0)) :: pt bk4_6 (.cells root4.cells.toArray 26 (0, 0)) :: pt bk10_3 (.cells [Value.string x.name, .slice va vn vc].toArray 40 (0, 0)) :: RO g4 :: L)) ?_ ?_
                    · skip
                      rintro ⟨dn3, nx3, nv3, ncs3⟩ w ⟨hst3, hnx3, hnl3, hw⟩
                      dsimp only at hst3 hnx3 hnl3 hw ⊢
                      obtain ⟨na3, nc3, rfl, _, _, _⟩ := hw.own_shape
                      have hlen := hnl3.len
                      have hone := hnl3.ones one_En
                      all_goals
                        refine g_seq ?_
                        refine g_region ?_
                        refine xV rfl rfl rfl (v_fieldAddr0 T.fld_40_0_0 rfl) ?_
                        refine rl_v rfl rfl rfl (by exact sat_cell hw (by (repeat first | with_reducible exact xH | apply xT); first | done | fail) rfl) (v_load T.scal_9 rfl) ?_
                        refine xV rfl rfl rfl (v_fieldAddr0 T.fld_40_0_0 rfl) ?_
                        refine rl_v rfl rfl rfl (by exact sat_cell hw (by (repeat first | with_reducible exact xH | apply xT); first | done | fail) rfl) (v_load T.scal_9 rfl) ?_
                        refine xV rfl rfl rfl (v_neqStr rfl rfl) ?_
                        refine rl_nil (g_le (xK (xK (xK (xK (xK (Fr.le_refl _)))))) ?_)
                        refine g_cond rfl (fun h8 => ?_) (fun h8 => ?_)
                        · try with_reducible exact ft_elim h8
                          all_goals
                            try replace h8 := of_decide_eq_true h8
                            refine g_region ?_
                            refine xV rfl rfl rfl (v_move rfl) ?_
                            refine rl_v rfl rfl rfl (by exact sat_cells hw (by (repeat first | with_reducible exact xH | apply xT); first | done | fail) ⟨rfl, rfl, trivial⟩) (v_loadAgg (vs := [_, _]) T.agg_40_2 rfl rfl) ?_
                            refine rl_k rfl (k_buildSlice (cells := [_, _]) hw T.sl_33_40_2 T.zero_40 rfl rfl rfl rfl rfl rfl (fun bk25_2 w hw => ?_))
                            refine rl_k rfl (k_append (news := [_, _]) hw T.sl_33_40_2 T.zero_40 T.bytes_40_40 rfl (by decide) rfl rfl (by (repeat first | with_reducible exact xH | apply xT); first | done | fail) rfl (by exact sat_cells hw (by (repeat first | with_reducible exact xH | apply xT); first | done | fail) ⟨rfl, rfl, trivial⟩) (by simp [Value.oneCell']) (by omega) (by simp only [maxLen]; omega) rfl (fun vv25_3 w hw hnil => ?_))
                            refine xV rfl rfl rfl (v_assign rfl) ?_
                            refine rl_nil (g_le (xK (xK (xK (xK (xK (Fr.le_refl _)))))) ?_)
                            refine g_inBlock ?_
                            refine g_region ?_
                            refine xV rfl rfl rfl (v_add rfl rfl (by omega)) ?_
                            refine xV rfl rfl rfl (v_move rfl) ?_
                            refine rl_nil (g_le (xK (xK (Fr.le_refl _))) ?_)
                            rw [if_neg h8] at hst3
                            rw [hst3] at hfd
                            exact g_le (by repeat (first | exact Fr.le_nil _ | refine Fr.le_cons rfl ?_)) (ih2 (j + 1, dn3, nx3 ++ [y], vv25_3, _) w ⟨by simp only; omega, hfd, by simp only [List.length_append, List.length_singleton]; omega, hnl3.snoc rfl hrdy, by dsimp only; rw [List.length_append, List.length_singleton]; exact hw.xQ⟩ (by simp only; omega))
                        · try with_reducible exact tf_elim h8
                          all_goals
                            try replace h8 := of_decide_eq_false h8
                            refine g_skip (g_inBlock ?_)
                            refine g_region ?_
                            refine xV rfl rfl rfl (v_add rfl rfl (by omega)) ?_
                            refine xV rfl rfl rfl (v_move rfl) ?_
                            refine rl_nil (g_le (xK (xK (Fr.le_refl _))) ?_)
                            rw [if_pos (by simpa using h8)] at hst3
                            rw [hst3] at hfd
                            exact g_le (by repeat (first | exact Fr.le_nil _ | refine Fr.le_cons rfl ?_)) (ih2 (j + 1, dn3, nx3, _, ncs3) w ⟨by simp only; omega, hfd, by simp only; omega, hnl3, hw.xQ⟩ (by simp only; omega))
                    · intro joinc7
                      refine g_cond rfl (fun h7 => ?_) (fun h7 => ?_)
                      · try with_reducible exact ft_elim h7
                        all_goals
                          try replace h7 := of_decide_eq_true h7
                          refine g_seq ?_
                          refine g_region ?_
                          refine xV rfl rfl rfl (v_move rfl) ?_
                          refine rl_v rfl rfl rfl (by first | exact sat_cells hw (by (repeat first | with_reducible exact xH | apply xT); first | done | fail) ⟨rfl, rfl, trivial⟩ | exact ro_ats hw (by (repeat first | with_reducible exact xH | apply xT); first | done | fail) (by assumption) | exact own_cells hw (by (repeat first | with_reducible exact xH | apply xT); first | done | fail) (by assumption) | exact old_cells hw (by (repeat first | with_reducible exact xH | apply xT); first | done | fail) (by assumption)) (v_loadAgg (vs := [_, _]) T.agg_40_2 rfl rfl) ?_
                          refine rl_k rfl (k_buildSlice (cells := [_, _]) hw T.sl_33_40_2 T.zero_40 rfl rfl rfl rfl rfl rfl (fun bk22_2 w hw => ?_))
                          refine rl_k rfl (k_append (news := [_, _]) hw T.sl_33_40_2 T.zero_40 T.bytes_40_40 rfl (by decide) rfl rfl (by (repeat first | with_reducible exact xH | apply xT); first | done | fail) rfl (by first | exact sat_cells hw (by (repeat first | with_reducible exact xH | apply xT); first | done | fail) ⟨rfl, rfl, trivial⟩ | exact old_cells hw (by (repeat first | with_reducible exact xH | apply xT); first | done | fail) (by assumption)) (by simp [Value.oneCell']) (by omega) (by simp only [maxLen]; omega) rfl (fun vv22_3 w hw hnil => ?_))
                          refine xV rfl rfl rfl (v_assign rfl) ?_
                          refine rl_nil (g_le (xK (xK (xK (xK (xK (Fr.le_refl _)))))) ?_)
                          refine g_region ?_
                          refine xV rfl rfl rfl (v_assign rfl) ?_
                          refine rl_nil (g_le (xK (Fr.le_refl _)) ?_)
                          exact joinc7 (true, nx ++ [x], vv22_3, _) w _ (by repeat (first | exact Fr.le_nil _ | refine Fr.le_cons rfl ?_)) ⟨by unfold stepG; (have hc : (!dn && !sl y.name x.name) = true := by rw [g21_2, h7]; rfl); rw [if_pos hc, if_pos hc], by simp only [List.length_append, List.length_singleton]; omega, hnl.snoc rfl hrd4, by dsimp only; rw [List.length_append, List.length_singleton]; exact hw.xQ⟩
                      · try with_reducible exact tf_elim h7
                        all_goals
                          try replace h7 := of_decide_eq_false h7
                          refine g_skip ?_
                          exact joinc7 (dn, nx, _, ncs) w _ (by repeat (first | exact Fr.le_nil _ | refine Fr.le_cons rfl ?_)) ⟨by unfold stepG; (have hc : ¬ (!dn && !sl y.name x.name) = true := by rw [g21_2, h7]; simp); rw [if_neg hc, if_neg hc], by simp only; omega, hnl, hw.xQ⟩
            · try with_reducible exact tf_elim h6
              all_goals
                try replace h6 := of_decide_eq_false h6
                refine g_exit rfl (g_seq (g_seq ?_))
                rw [List.drop_eq_nil_of_le (by omega), List.foldl_nil] at hfd
                rw [hfd] at hfold
                dsimp only at hfold
                refine g_region ?_
                refine xV rfl rfl rfl (v_move rfl) ?_
                refine xV rfl rfl rfl (v_not rfl) ?_
                refine rl_nil (g_le (xK (xK (Fr.le_refl _))) ?_)
                refine g_cutc (σ := Value × List Value) (fun C x => (13, x.1) :: C) [(2, _), (3, _), (4, _), (5, _), (6, _), (8, _), (9, _), (10, _), (11, _), (12, _), (14, _), (30, _), (31, _), (32, _), (33, _), (34, _), (35, _), (36, _), (37, _), (38, _), (39, _), (40, _), (41, _), (42, _), (43, _), (44, _), (45, _), (46, _), (47, _), (48, _), (50, _), (51, _), (52, _), (53, _), (54, _), (80, _), (81, _)] (by repeat (first | exact Fr.le_nil _ | refine Fr.le_cons rfl ?_)) (fun z w => Els rdEn 2 g4 z.2 (insE es x) ∧ Sat E w (OwnSl 40 2 z.1 (insE es x).length z.2 :: A4 :: pt bk0_1 (.cells [Value.int .u64 0, .int .i64 0, .int .i64 0, .int .i64 0].toArray 26 (0, 0)) :: pt bk4_6 (.cells root4.cells.toArray 26 (0, 0)) :: RO g4 :: L)) ?_ ?_
                · skip
                  rintro ⟨nv5, ncs5⟩ w ⟨hnl5, hw⟩
                  dsimp only at hnl5 hw ⊢
                  obtain ⟨na5, nc5, rfl, _, _, _⟩ := hw.own_shape
                  all_goals
                    refine g_region ?_
                    refine xV rfl rfl rfl (v_move rfl) ?_
                    refine xV rfl rfl rfl (v_assign rfl) ?_
                    refine rl_nil (g_le (xK (xK (Fr.le_refl _))) ?_)
                    refine g_inBlock ?_
                    refine g_region ?_
                    refine xV rfl rfl rfl (v_add rfl rfl (by omega)) ?_
                    refine xV rfl rfl rfl (v_move rfl) ?_
                    refine rl_nil (g_le (xK (xK (Fr.le_refl _))) ?_)
                    have hst1 := hst.len
                    have hst2 := hst.ents
                    have hil := (insE_len ht.srt x).2
                    obtain ⟨g6, hg6, hres, hw⟩ := (hw.xQ : Sat E w (RO g4 :: OwnSl 40 2 (.slice na5 (insE es x).length nc5) (insE es x).length ncs5 :: A4 :: pt bk0_1 (.cells [Value.int .u64 0, .int .i64 0, .int .i64 0, .int .i64 0].toArray 26 (0, 0)) :: pt bk4_6 (.cells root4.cells.toArray 26 (0, 0)) :: L)).freeze_sl (bytes := 40) mono_En hnl5 rfl (by rw [hes] at hil; simp only [reachBytes]; omega)
                    exact g_le (by repeat (first | exact Fr.le_nil _ | refine Fr.le_cons rfl ?_)) (ih (i + 1, g6, s4, A4, root4, _, insE es x) w ⟨by simp only; omega, by simp only; omega, hg2.trans (hg4.trans hg6), HeapI.mono hg6 hI4, hok4, ⟨q4, u4, hst.tree, hst2⟩, by simp only; rw [htx, growE_snoc, hgr], by rw [hes] at hil; simp only; omega, by simp only; omega, hres, hw.xQ⟩ (by simp only; omega))
                · intro joinc9
                  refine g_cond rfl (fun h9 => ?_) (fun h9 => ?_)
                  · try with_reducible exact ft_elim h9
                    all_goals
                      try replace h9 := of_decide_eq_true h9
                      refine g_region ?_
                      refine xV rfl rfl rfl (v_move rfl) ?_
                      refine rl_v rfl rfl rfl (by exact sat_cells hw (by (repeat first | with_reducible exact xH | apply xT); first | done | fail) ⟨rfl, rfl, trivial⟩) (v_loadAgg (vs := [_, _]) T.agg_40_2 rfl rfl) ?_
                      refine rl_k rfl (k_buildSlice (cells := [_, _]) hw T.sl_33_40_2 T.zero_40 rfl rfl rfl rfl rfl rfl (fun bk28_2 w hw => ?_))
                      refine rl_k rfl (k_append (news := [_, _]) hw T.sl_33_40_2 T.zero_40 T.bytes_40_40 rfl (by decide) rfl rfl (by (repeat first | with_reducible exact xH | apply xT); first | done | fail) rfl (by exact sat_cells hw (by (repeat first | with_reducible exact xH | apply xT); first | done | fail) ⟨rfl, rfl, trivial⟩) (by simp [Value.oneCell']) (by omega) (by simp only [maxLen]; omega) rfl (fun vv28_3 w hw hnil => ?_))
                      refine xV rfl rfl rfl (v_assign rfl) ?_
                      refine rl_nil (g_le (xK (xK (xK (xK (xK (Fr.le_refl _)))))) ?_)
                      rw [if_neg (by simpa using h9)] at hfold
                      exact joinc9 (vv28_3, _) w _ (by repeat (first | exact Fr.le_nil _ | refine Fr.le_cons rfl ?_)) ⟨by rw [hfold]; exact hnl.snoc rfl hrd4, by dsimp only; rw [hfold, List.length_append, List.length_singleton]; exact hw.xQ⟩
                  · try with_reducible exact tf_elim h9
                    all_goals
                      try replace h9 := of_decide_eq_false h9
                      refine g_skip ?_
                      rw [if_pos (by simpa using h9)] at hfold
                      exact joinc9 (_, ncs) w _ (by repeat (first | exact Fr.le_nil _ | refine Fr.le_cons rfl ?_)) ⟨by rw [hfold]; exact hnl, by dsimp only; rw [hfold]; exact hw.xQ⟩
    · try with_reducible exact tf_elim h3
      all_goals
        try replace h3 := of_decide_eq_false h3
        refine g_exit rfl ?_
        exact joinb0 (g2, s, A2, root, .slice la ln lc, entsU hh u) w _ (by repeat (first | exact Fr.le_nil _ | refine Fr.le_cons rfl ?_)) ⟨hg2, hI2, hrk, ⟨hh, u, ht, rfl⟩, by simp only; rw [hgr, List.take_of_length_le (by omega), List.take_of_length_le (by omega)], by simp only; omega, by simp only; omega, hl, hw.xQ⟩
end Go.Proofs.Ytdiocmjhencbpaa
