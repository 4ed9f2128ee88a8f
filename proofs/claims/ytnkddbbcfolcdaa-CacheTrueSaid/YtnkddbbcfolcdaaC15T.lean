/-
  CacheTrue: what a cache tells is what was put last and not dropped since; it never keeps more than it has room for, and what is pinned stays.
-/
import Derived.Test.YtnkddbbcfolcdaaC15m
namespace Go.Proofs.Ytnkddbbcfolcdaa
set_option linter.unusedSimpArgs false
set_option linter.unusedVariables false
open Go Xe Go.Lib Go.RowKit Go.ChangeShapes Go.WideShapes Go.ChangeAt


theorem hasYes_calls {E : Env} {w : World} {L : List As} {g : Hp} {a : Option Addr} {n c : Nat} {l : List Hd} (r : Rf) (hl : (rdSl 96 8 rdHd) g [.slice a n c] l) (hyes : ∃ x ∈ l, x.ref = r) (hw : Sat E w (RO g :: L)) :
    Calls Try.prog 21 #[.slice a n c, .agg r.cells.toArray] w fun e w' => e = .returned (.bool true) ∧ Sat E w' (RO g :: L) := by
  obtain ⟨rfl, hb1, hc1, hm1, g1⟩ := rdSl_get hl
  simp only [reachBytes] at hb1
  refine calls_of_g (n := 18) Try.func21 rfl rfl rfl ?_
  change G _ _ _ _ _ [(0, _), (1, _)] _
  refine g_seq ?_
  refine g_region ?_
  refine rl_k rfl (k_box hw rfl rfl rfl (fun bk0_0 w hw => ?_))
  refine rl_v rfl rfl rfl (S := fun _ => True) trivial (v_assign rfl) ?_
  refine rl_nil (g_le (Fr.le_keep (Fr.le_keep (Fr.le_refl _))) ?_)
  refine g_seq (g_seq ?_)
  refine g_region ?_
  refine rl_v rfl rfl rfl (S := fun _ => True) trivial (v_move rfl) ?_
  refine rl_v rfl rfl rfl (S := fun _ => True) trivial (v_lenSlice T.sl_39_42_8 rfl) ?_
  refine rl_v rfl rfl rfl (S := fun _ => True) trivial (v_move rfl) ?_
  refine rl_nil (g_le (Fr.le_keep (Fr.le_keep (Fr.le_keep (Fr.le_refl _)))) ?_)
  refine g_block ?_
  refine g_loopC (σ := Int) (fun C x => (9, .int .i64 x) :: C) [(3, _), (4, _), (7, _), (8, _)] (by repeat (first | exact Fr.le_nil _ | refine Fr.le_cons rfl ?_)) (fun z w => 0 ≤ z ∧ z ≤ l.length ∧ (∃ x ∈ l.drop z.toNat, x.ref = r) ∧ Sat E w (pt bk0_0 (.cells r.cells.toArray 34 (0, 0)) :: RO g :: L)) (fun z => (l.length - z).toNat) ?_ 0 (by repeat (first | exact Fr.le_nil _ | refine Fr.le_cons rfl ?_)) ⟨by omega, by omega, by simpa using hyes, hw⟩
  rintro i w ⟨hi0, hi1, hex, hw⟩ ih
  refine g_seq ?_
  refine g_region ?_
  first | (refine rl_v rfl rfl rfl (S := fun _ => True) trivial (v_lssT rfl rfl (by omega)) ?_) | (refine rl_v rfl rfl rfl (S := fun _ => True) trivial (v_lssF rfl rfl (by omega)) ?_) | (refine rl_v rfl rfl rfl (S := fun _ => True) trivial (v_lss rfl rfl) ?_)
  refine rl_nil (g_le (Fr.le_keep (Fr.le_refl _)) ?_)
  refine g_seq ?_
  refine g_cond rfl (fun h1 => ?_) (fun h1 => ?_)
  · try with_reducible exact ft_elim h1
    all_goals
      try replace h1 := of_decide_eq_true h1
      refine g_skip (g_seq (g_block (g_seq ?_)))
      have hz := hw
      clear hw
      obtain ⟨b4, o1, x, ecs, rfl, hx, hat1, hl1, hrd⟩ := g1 i hi0 (by omega)
      obtain ⟨c0, c1, c2, c3, c4, c5, c6, c7, rfl, ⟨r1, r2⟩, hn, ⟨p1, p2⟩⟩ := id hrd
      obtain ⟨n4, n5, n6, hq, e4, n7, n8⟩ := id hn
      simp only [List.cons.injEq, and_true] at r1 p1 hq
      obtain ⟨rfl, rfl, rfl, rfl⟩ := r1
      obtain ⟨rfl, rfl, rfl⟩ := hq
      simp only [rdBool, List.cons.injEq, and_true] at e4
      subst p1 e4
      obtain ⟨ea, en, ec, rfl⟩ := rdSl_shape n7
      obtain ⟨ka, kn, kc, rfl⟩ := rdSl_shape n8
      have hw := hz
      refine g_region ?_
      refine rl_v rfl rfl rfl (S := fun _ => True) trivial (v_indexAddr T.sl_39_42_8 rfl rfl (by omega) (by omega)) ?_
      refine rl_v rfl rfl rfl (by first | exact sat_cells hw (by (repeat (first | with_reducible exact Pick.here _ | apply Pick.there)); first | done | fail) ⟨rfl, rfl, rfl, rfl, rfl, rfl, rfl, rfl, trivial⟩ | exact ro_ats hw (by (repeat (first | with_reducible exact Pick.here _ | apply Pick.there)); first | done | fail) (by assumption) | exact own_cells hw (by (repeat (first | with_reducible exact Pick.here _ | apply Pick.there)); first | done | fail) (by assumption) | exact old_cells hw (by (repeat (first | with_reducible exact Pick.here _ | apply Pick.there)); first | done | fail) (by assumption)) (v_loadAgg (vs := [_, _, _, _, _, _, _, _]) T.agg_42_8 rfl rfl) ?_
      refine rl_k rfl (k_alloc hw T.zero_42 rfl rfl (fun bk3_2 w hw => ?_))
      first | (refine rl_k rfl (k_storeWhole hw T.agg_42_8 rfl rfl (by simp [Value.oneCell']) rfl (by (repeat (first | with_reducible exact Pick.here _ | apply Pick.there)); first | done | fail) rfl (fun w hw => ?_))) | (refine rl_k rfl (k_storeAgg hw T.agg_42_8 rfl rfl (by simp [Value.oneCell']) rfl (by (repeat (first | with_reducible exact Pick.here _ | apply Pick.there)); first | done | fail) rfl rfl (fun w hw => ?_))) | (refine rl_k rfl (k_storeOwnAgg hw T.agg_42_8 rfl rfl (by simp [Value.oneCell']) rfl (by (repeat (first | with_reducible exact Pick.here _ | apply Pick.there)); first | done | fail) (by assumption) (by omega) (fun w hw => ?_)))
      refine rl_nil (g_le (Fr.le_keep (Fr.le_keep (Fr.le_keep (Fr.le_refl _)))) ?_)
      refine g_seq ?_
      refine g_region ?_
      first | (refine rl_v rfl rfl rfl (S := fun _ => True) trivial (v_fieldAddr0 T.fld_42_0_0 rfl) ?_) | (refine rl_v rfl rfl rfl (S := fun _ => True) trivial (v_fieldAddr T.fld_42_0_0 rfl) ?_)
      refine rl_v rfl rfl rfl (by first | exact sat_cells hw (by (repeat (first | with_reducible exact Pick.here _ | apply Pick.there)); first | done | fail) ⟨rfl, rfl, rfl, rfl, trivial⟩ | exact ro_ats hw (by (repeat (first | with_reducible exact Pick.here _ | apply Pick.there)); first | done | fail) (by assumption) | exact own_cells hw (by (repeat (first | with_reducible exact Pick.here _ | apply Pick.there)); first | done | fail) (by assumption) | exact old_cells hw (by (repeat (first | with_reducible exact Pick.here _ | apply Pick.there)); first | done | fail) (by assumption)) (v_loadAgg (vs := [_, _, _, _]) T.agg_34_4 rfl rfl) ?_
      refine rl_v rfl rfl rfl (by first | exact sat_cells hw (by (repeat (first | with_reducible exact Pick.here _ | apply Pick.there)); first | done | fail) ⟨rfl, rfl, rfl, rfl, trivial⟩ | exact ro_ats hw (by (repeat (first | with_reducible exact Pick.here _ | apply Pick.there)); first | done | fail) (by assumption) | exact own_cells hw (by (repeat (first | with_reducible exact Pick.here _ | apply Pick.there)); first | done | fail) (by assumption) | exact old_cells hw (by (repeat (first | with_reducible exact Pick.here _ | apply Pick.there)); first | done | fail) (by assumption)) (v_loadAgg (vs := [_, _, _, _]) T.agg_34_4 rfl rfl) ?_
      refine rl_v rfl rfl rfl (S := fun _ => True) trivial (v_eqlAgg T.cmp_34_iiii rfl rfl rfl rfl (by first | exact eq_Rf _ _ | rfl)) ?_
      refine rl_nil (g_le (Fr.le_keep (Fr.le_keep (Fr.le_keep (Fr.le_keep (Fr.le_refl _))))) ?_)
      refine g_cond rfl (fun h2 => ?_) (fun h2 => ?_)
      · try with_reducible exact ft_elim h2
        all_goals
          try replace h2 := of_decide_eq_true h2
          refine g_seq ?_
          refine g_region ?_
          refine rl_v rfl rfl rfl (S := fun _ => True) trivial (v_assign rfl) ?_
          refine rl_nil (g_le (Fr.le_keep (Fr.le_refl _)) ?_)
          refine g_ret1 Try.func21 rfl rfl ?_
          exact ⟨rfl, hw.sub (by (repeat (first | with_reducible exact Sub.refl _ | exact Sub.nil _ | (apply Sub.cons; focus ((repeat (first | with_reducible exact Pick.here _ | apply Pick.there)); (first | done | fail))) | with_reducible apply Sub.drop)); first | done | fail)⟩
      · try with_reducible exact tf_elim h2
        all_goals
          try replace h2 := of_decide_eq_false h2
          have hex2 : ∃ y ∈ l.drop (i + 1).toNat, y.ref = r := by
            obtain ⟨y, hy, he⟩ := hex
            obtain ⟨hlt, rfl⟩ := List.getElem?_eq_some_iff.1 hx
            rw [List.drop_eq_getElem_cons hlt] at hy
            rcases List.mem_cons.1 hy with rfl | hy
            · exact absurd he h2
            · exact ⟨y, by rw [show (i + 1).toNat = i.toNat + 1 by omega]; exact hy, he⟩
          refine g_skip (g_inBlock ?_)
          refine g_region ?_
          first | (refine rl_v rfl rfl rfl (S := fun _ => True) trivial (v_add rfl rfl (by omega)) ?_) | (refine rl_v rfl rfl rfl (S := fun _ => True) trivial (v_addW rfl rfl) ?_)
          refine rl_v rfl rfl rfl (S := fun _ => True) trivial (v_move rfl) ?_
          refine rl_nil (g_le (Fr.le_keep (Fr.le_keep (Fr.le_refl _))) ?_)
          exact g_le (by repeat (first | exact Fr.le_nil _ | refine Fr.le_cons rfl ?_)) (ih (i + 1) w ⟨by omega, by omega, hex2, hw.sub (by (repeat (first | with_reducible exact Sub.refl _ | exact Sub.nil _ | (apply Sub.cons; focus ((repeat (first | with_reducible exact Pick.here _ | apply Pick.there)); (first | done | fail))) | with_reducible apply Sub.drop)); first | done | fail)⟩ (by omega))
  · try with_reducible exact tf_elim h1
    all_goals
      try replace h1 := of_decide_eq_false h1
      refine g_exit rfl (g_seq ?_)
      refine g_region ?_
      refine rl_v rfl rfl rfl (S := fun _ => True) trivial (v_assign rfl) ?_
      refine rl_nil (g_le (Fr.le_keep (Fr.le_refl _)) ?_)
      refine g_ret1 Try.func21 rfl rfl ?_
      exfalso
      rw [List.drop_eq_nil_of_le (by omega)] at hex
      obtain ⟨y, hy, _⟩ := hex
      cases hy

theorem hd_told {g : Hp} {ecs : List Value} {x : Hd} (hrd : rdHd g ecs x) : ∃ ea en ec ka kn kc, ecs = [.int .u64 (x : Hd).ref.key, .int .i64 (x : Hd).ref.seg, .int .i64 (x : Hd).ref.off, .int .i64 (x : Hd).ref.len, .bool (x : Hd).node.leaf, .slice ea en ec, .slice ka kn kc, .int .i64 (x : Hd).pins] ∧ rdNd g [.bool x.node.leaf, .slice ea en ec, .slice ka kn kc] x.node ∧ x.ref.ok := by
  obtain ⟨c0, c1, c2, c3, c4, c5, c6, c7, rfl, ⟨r1, r2⟩, hn, ⟨p1, p2⟩⟩ := hrd
  have hnd := hn
  obtain ⟨n4, n5, n6, hq, e4, n7, n8⟩ := hn
  simp only [List.cons.injEq, and_true] at r1 p1 hq
  obtain ⟨rfl, rfl, rfl, rfl⟩ := r1
  obtain ⟨rfl, rfl, rfl⟩ := hq
  simp only [rdBool, List.cons.injEq, and_true] at e4
  subst p1 e4
  obtain ⟨ea, en, ec, rfl⟩ := rdSl_shape n7
  obtain ⟨ka, kn, kc, rfl⟩ := rdSl_shape n8
  exact ⟨ea, en, ec, ka, kn, kc, rfl, hnd, r2⟩
theorem ord_f6_r40_C15T : orderOfB Try.f6 40 [7, 12] (.a 0 (.a 1 (.a 2 (.a 3 (.a 4 (.a 6 (.v 5 (.b2 7 11 (.a 8 (.a 9 (.a 10 (.k 11 (.k 12 (.k 13 .done)))))) (.k 7 (.k 8 (.a 9 (.a 10 (.k 12 (.k 13 .done)))))))))))))) = true := by kernel_rfl
theorem ord_f6_r21_C15T : orderOfB Try.f6 21 [5, 10] (.a 0 (.a 1 (.a 2 (.a 4 (.v 3 (.b2 5 9 (.a 6 (.a 7 (.a 8 (.k 9 (.k 10 (.k 11 .done)))))) (.k 5 (.k 6 (.a 7 (.a 8 (.k 10 (.k 11 .done)))))))))))) = true := by kernel_rfl
set_option maxRecDepth 4000 in
set_option maxHeartbeats 8000000 in
theorem CacheTrue_law {w : World} {room : Int} {a : Option Addr} {len cap : Nat} {xs : List Op} (hrw : (Lit.int .i64 room).wf = true) (hr : rdArg (rdSl 96 6 rdOp) w (.slice a len cap) xs) :
    Law Try.prog 6 [.int .i64 room, .slice a len cap] w := by
  unfold Law
  have hw := Sat.old w
  generalize w = W at hr hw ⊢
  have hr : (rdSl 96 6 rdOp) (hpOf W) [.slice a len cap] xs := hr
  obtain ⟨hlen, _, hlc, _, _⟩ := rdSl_get hr
  refine calls_of_g (n := 216) Try.func6 rfl rfl rfl ?_
  change G _ _ _ _ _ [(0, _), (1, _)] _
  refine g_seq ?_
  refine g_region ?_
  refine rl_v rfl rfl rfl (S := fun _ => True) trivial (v_assign rfl) ?_
  refine rl_nil (g_le (Fr.le_keep (Fr.le_refl _)) ?_)
  refine g_seq (g_seq ?_)
  refine g_cutc2 (σ := Int) (fun C x => (0, .int .i64 x) :: C) [(1, _), (4, _)] (by repeat (first | exact Fr.le_nil _ | refine Fr.le_cons rfl ?_)) (fun x w => 0 ≤ x ∧ x ≤ 32 ∧ Sat (envOf W) w [Old W]) ?_ ?_
  · skip
    rintro rm w ⟨hrm0, hrm1, hw⟩
    all_goals
      refine g_seq ?_
      refine g_region ?_
      refine rl_v rfl rfl rfl (S := fun _ => True) trivial (v_move rfl) ?_
      refine rl_k rfl (k_callf Try.func8 rfl rfl rfl rfl ?_)
      refine Calls.mono (cnew_calls rm hw) ?_
      rintro _ w ⟨hn, _⟩
      obtain ⟨c, rfl, hw⟩ := hn ⟨hrm0, hrm1⟩
      refine ⟨_, rfl, ?_⟩
      refine rl_v rfl rfl rfl (S := fun _ => True) trivial (v_move rfl) ?_
      refine rl_v rfl rfl rfl (S := fun _ => True) trivial (v_extract rfl rfl) ?_
      refine rl_v rfl rfl rfl (S := fun _ => True) trivial (v_extract rfl rfl) ?_
      refine rl_v rfl rfl rfl (S := fun _ => True) trivial (v_assign rfl) ?_
      refine rl_v rfl rfl rfl (S := fun _ => True) trivial (v_assign rfl) ?_
      refine rl_nil (g_le (Fr.le_keep (Fr.le_keep (Fr.le_skip rfl (Fr.le_skip rfl (Fr.le_skip rfl (Fr.le_skip rfl (Fr.le_skip rfl (Fr.le_refl _)))))))) ?_)
      refine g_seq (g_seq ?_)
      refine g_region ?_
      refine rl_v rfl rfl rfl (S := fun _ => True) trivial (v_move rfl) ?_
      first | (refine rl_v rfl rfl rfl (S := fun _ => True) trivial (v_neqT rfl rfl (by omega)) ?_) | (refine rl_v rfl rfl rfl (S := fun _ => True) trivial (v_neqF rfl rfl (by first | omega | rfl)) ?_) | (refine rl_v rfl rfl rfl (S := fun _ => True) trivial (v_neq rfl rfl) ?_)
      refine rl_v rfl rfl rfl (S := fun _ => True) trivial (v_move rfl) ?_
      first | (refine rl_vg (met_on rfl rfl rfl rfl) rfl rfl (S := fun _ => True) trivial (v_move rfl) ?_) | (refine rl_off (by first | exact met_off rfl rfl rfl rfl rfl | exact met_gone rfl rfl rfl rfl) rfl rfl ?_)
      first | (refine rl_vg (met_on rfl rfl rfl rfl) rfl rfl (S := fun _ => True) trivial (v_eqlNil T.ptr_26 rfl rfl) ?_) | (refine rl_off (by first | exact met_off rfl rfl rfl rfl rfl | exact met_gone rfl rfl rfl rfl) rfl rfl ?_)
      first | (refine rl_v rfl rfl rfl (S := fun _ => True) trivial (v_pick_true rfl rfl) ?_) | (refine rl_v rfl rfl rfl (S := fun _ => True) trivial (v_pick_false rfl rfl) ?_) | (refine rl_v rfl rfl rfl (S := fun _ => True) trivial (v_pick rfl rfl rfl) ?_)
      refine rl_nil (g_le (Fr.le_keep (Fr.le_skip rfl (Fr.le_skip rfl (Fr.le_skip rfl (Fr.le_skip rfl (Fr.le_skip rfl (Fr.le_refl _))))))) ?_)
      refine g_cond_false rfl ?_
      refine g_skip (g_seq ?_)
      refine g_region ?_
      refine rl_v rfl rfl rfl (S := fun _ => True) trivial (v_move rfl) ?_
      refine rl_k rfl (k_callf Try.func16 rfl rfl rfl rfl ?_)
      refine Calls.mono (short_calls a len cap 60 (by omega) hlc hw) ?_
      rintro _ w ⟨rfl, hw⟩
      refine ⟨_, rfl, ?_⟩
      refine rl_v rfl rfl rfl (S := fun _ => True) trivial (v_assign rfl) ?_
      refine rl_nil (g_le (Fr.le_keep (Fr.le_skip rfl (Fr.le_skip rfl (Fr.le_refl _)))) ?_)
      refine g_seq ?_
      refine g_region ?_
      refine rl_v rfl rfl rfl (S := fun _ => True) trivial (v_assign rfl) ?_
      refine rl_nil (g_le (Fr.le_keep (Fr.le_refl _)) ?_)
      refine g_seq (g_seq ?_)
      refine g_region ?_
      refine rl_v rfl rfl rfl (S := fun _ => True) trivial (v_move rfl) ?_
      refine rl_v rfl rfl rfl (S := fun _ => True) trivial (v_lenSlice T.sl_45_49_6 rfl) ?_
      refine rl_v rfl rfl rfl (S := fun _ => True) trivial (v_move rfl) ?_
      refine rl_nil (g_le (Fr.le_keep (Fr.le_keep (Fr.le_keep (Fr.le_refl _)))) ?_)
      refine g_block ?_
      refine g_loopC (σ := Int × Ch × Hp × Value × List Value × List Bool × Value) (fun C x => (48, .int .i64 x.1) :: (8, x.2.2.2.2.2.2) :: C) [(0, _), (4, _), (5, _), (7, _), (46, _), (47, _)] (by repeat (first | exact Fr.le_nil _ | refine Fr.le_cons rfl ?_)) (fun z w => 0 ≤ z.1 ∧ z.1 ≤ (min len 60 : Nat) ∧ Tr rm z.1 z.2.1 (xs.take z.1.toNat) z.2.2.2.2.2.1 ∧ (hpOf W).le z.2.2.1 ∧ Els rdHd 8 z.2.2.1 z.2.2.2.2.1 z.2.1.l ∧ Sat (envOf W) w (pt c (.cells [Value.int .i64 (z.2.1 : Ch).room, z.2.2.2.1, .int .i64 (z.2.1 : Ch).hits, .int .i64 (z.2.1 : Ch).misses].toArray 70 (0, 0)) :: OwnSl 42 8 z.2.2.2.1 (z.2.1 : Ch).l.length z.2.2.2.2.1 :: OwnSl 4 1 z.2.2.2.2.2.2 z.1.toNat (z.2.2.2.2.2.1.map Value.bool) :: RO z.2.2.1 :: [])) (fun z => ((min len 60 : Nat) - z.1).toNat) ?_ (0, ⟨rm, [], 0, 0⟩, hpOf W, .slice none 0 0, [], [], .slice none 0 0) (by repeat (first | exact Fr.le_nil _ | refine Fr.le_cons rfl ?_)) ⟨by simp, by simp only; omega, ⟨by simp [Ch.uniq], rfl, by simpa using hrm0, rfl, fun h hh => by simp at hh⟩, Hp.le_refl _, Els.nil, by dsimp only [Int.toNat_zero, List.map_nil, List.length_nil] at hw ⊢; rw [List.map_nil]; exact (hw.own_nil 4 1).sub (by (repeat (first | with_reducible exact Sub.refl _ | exact Sub.nil _ | (apply Sub.cons; focus ((repeat (first | with_reducible exact Pick.here _ | apply Pick.there)); (first | done | fail))) | with_reducible apply Sub.drop)); first | done | fail)⟩
      rintro ⟨i, s, g, lv, cells, done, dv⟩ w ⟨hi0, hi1, ht, hg, hels, hw⟩ ih
      dsimp only at hi0 hi1 ht hg hels hw ⊢
      have hb' : s.l.length ≤ 100000 := by have := ht.len; omega
      have htl : done.length = i.toNat := by have := ht.eq; rw [List.length_take] at this; omega
      refine g_seq ?_
      refine g_region ?_
      first | (refine rl_v rfl rfl rfl (S := fun _ => True) trivial (v_lssT rfl rfl (by omega)) ?_) | (refine rl_v rfl rfl rfl (S := fun _ => True) trivial (v_lssF rfl rfl (by omega)) ?_) | (refine rl_v rfl rfl rfl (S := fun _ => True) trivial (v_lss rfl rfl) ?_)
      refine rl_nil (g_le (Fr.le_keep (Fr.le_refl _)) ?_)
      refine g_seq ?_
      refine g_cond rfl (fun h3 => ?_) (fun h3 => ?_)
      · try with_reducible exact ft_elim h3
        all_goals
          try replace h3 := of_decide_eq_true h3
          try (first | (exfalso; omega))
          all_goals
            refine g_skip (g_seq (g_block (g_seq ?_)))
            have hz := hw
            clear hw
            obtain ⟨da, dc, rfl, hdc, _, _⟩ := (hz.pick .at2).own_shape
            obtain ⟨_, _, _, _, g1⟩ := rdSl_get (rdSl_take (min len 60) (mono_sl mono_Op hg hr) (by omega))
            obtain ⟨b4, o1, x, ecs, rfl, hx, hat1, hl1, hro⟩ := g1 i hi0 (by omega)
            obtain ⟨q0, q1, q2, q3, q4, q5, rfl, ⟨hd0, _⟩, ⟨hd1, _⟩, hnd, hrf⟩ := hro
            simp only [List.cons.injEq, and_true] at hd0 hd1
            subst hd0 hd1
            obtain ⟨n0, n1, n2, hq, hq0, hq1, hq2⟩ := id hnd
            simp only [List.cons.injEq, and_true] at hq
            obtain ⟨rfl, rfl, rfl⟩ := hq
            simp only [rdBool, List.cons.injEq, and_true] at hq0
            subst hq0
            obtain ⟨qa1, qn1, qk1, rfl⟩ := rdSl_shape hq1
            obtain ⟨qa2, qn2, qk2, rfl⟩ := rdSl_shape hq2
            obtain ⟨qa3, qn3, qk3, rfl⟩ := rdSl_shape hrf
            have hw := hz
            have hx0 : xs[i.toNat]? = some x := by rw [List.getElem?_take] at hx; split at hx; exact hx; cases hx
            have htk : xs.take (i + 1).toNat = xs.take i.toNat ++ [x] := by rw [show (i + 1).toNat = i.toNat + 1 by omega, List.take_add_one, hx0]; rfl
            refine g_region ?_
            refine rl_v rfl rfl rfl (S := fun _ => True) trivial (v_move rfl) ?_
            refine rl_v rfl rfl rfl (S := fun _ => True) trivial (v_indexAddr T.sl_45_49_6 rfl rfl (by omega) (by omega)) ?_
            refine rl_v rfl rfl rfl (by first | exact sat_cells hw (by (repeat (first | with_reducible exact Pick.here _ | apply Pick.there)); first | done | fail) ⟨rfl, rfl, rfl, rfl, rfl, rfl, trivial⟩ | exact ro_ats hw (by (repeat (first | with_reducible exact Pick.here _ | apply Pick.there)); first | done | fail) (by assumption) | exact own_cells hw (by (repeat (first | with_reducible exact Pick.here _ | apply Pick.there)); first | done | fail) (by assumption) | exact old_cells hw (by (repeat (first | with_reducible exact Pick.here _ | apply Pick.there)); first | done | fail) (by assumption)) (v_loadAgg (vs := [_, _, _, _, _, _]) T.agg_49_6 rfl rfl) ?_
            refine rl_k rfl (k_alloc hw T.zero_49 rfl rfl (fun bk10_3 w hw => ?_))
            refine rl_v rfl rfl rfl (S := fun _ => True) trivial (v_assign rfl) ?_
            first | (refine rl_k rfl (k_storeWhole hw T.agg_49_6 rfl rfl (by simp [Value.oneCell']) rfl (by (repeat (first | with_reducible exact Pick.here _ | apply Pick.there)); first | done | fail) rfl (fun w hw => ?_))) | (refine rl_k rfl (k_storeAgg hw T.agg_49_6 rfl rfl (by simp [Value.oneCell']) rfl (by (repeat (first | with_reducible exact Pick.here _ | apply Pick.there)); first | done | fail) rfl rfl (fun w hw => ?_))) | (refine rl_k rfl (k_storeOwnAgg hw T.agg_49_6 rfl rfl (by simp [Value.oneCell']) rfl (by (repeat (first | with_reducible exact Pick.here _ | apply Pick.there)); first | done | fail) (by assumption) (by omega) (fun w hw => ?_)))
            refine rl_nil (g_le (Fr.le_keep (Fr.le_keep (Fr.le_keep (Fr.le_keep (Fr.le_keep (Fr.le_refl _)))))) ?_)
            refine g_seq ?_
            refine g_region ?_
            first | (refine rl_v rfl rfl rfl (S := fun _ => True) trivial (v_fieldAddr0 T.fld_49_1_1 rfl) ?_) | (refine rl_v rfl rfl rfl (S := fun _ => True) trivial (v_fieldAddr T.fld_49_1_1 rfl) ?_)
            refine rl_v rfl rfl rfl (by first | exact sat_cell hw (by (repeat (first | with_reducible exact Pick.here _ | apply Pick.there)); first | done | fail) rfl | exact own_cell hw (by (repeat (first | with_reducible exact Pick.here _ | apply Pick.there)); first | done | fail) (by first | rfl | assumption) | exact ro_at0 hw (by (repeat (first | with_reducible exact Pick.here _ | apply Pick.there)); first | done | fail) (by assumption) rfl | exact ro_at hw (by (repeat (first | with_reducible exact Pick.here _ | apply Pick.there)); first | done | fail) (by assumption) rfl | exact own_at0 hw (by (repeat (first | with_reducible exact Pick.here _ | apply Pick.there)); first | done | fail) (by assumption) rfl | exact own_at hw (by (repeat (first | with_reducible exact Pick.here _ | apply Pick.there)); first | done | fail) (by assumption) rfl | exact old_cell hw (by (repeat (first | with_reducible exact Pick.here _ | apply Pick.there)); first | done | fail) (by assumption) | assumption) (v_load T.scal_3 rfl) ?_
            refine rl_k rfl (k_callf Try.func11 rfl rfl rfl rfl ?_)
            refine Calls.mono (of_calls _ hw) ?_
            rintro _ w ⟨rfl, hw⟩
            refine ⟨_, rfl, ?_⟩
            refine rl_k rfl (k_alloc hw T.zero_34 rfl rfl (fun bk11_3 w hw => ?_))
            first | (refine rl_k rfl (k_storeWhole hw T.agg_34_4 rfl rfl (by simp [Value.oneCell']) rfl (by (repeat (first | with_reducible exact Pick.here _ | apply Pick.there)); first | done | fail) rfl (fun w hw => ?_))) | (refine rl_k rfl (k_storeAgg hw T.agg_34_4 rfl rfl (by simp [Value.oneCell']) rfl (by (repeat (first | with_reducible exact Pick.here _ | apply Pick.there)); first | done | fail) rfl rfl (fun w hw => ?_))) | (refine rl_k rfl (k_storeOwnAgg hw T.agg_34_4 rfl rfl (by simp [Value.oneCell']) rfl (by (repeat (first | with_reducible exact Pick.here _ | apply Pick.there)); first | done | fail) (by assumption) (by omega) (fun w hw => ?_)))
            refine rl_nil (g_le (Fr.le_keep (Fr.le_keep (Fr.le_keep (Fr.le_keep (Fr.le_refl _))))) ?_)
            refine g_seq ?_
            refine g_region ?_
            refine rl_v rfl rfl rfl (S := fun _ => True) trivial (v_move rfl) ?_
            refine rl_k rfl (k_callf Try.func14 rfl rfl rfl rfl ?_)
            refine Calls.mono (choldsC_calls hels hb' (hw.sub (by (repeat (first | with_reducible exact Sub.refl _ | exact Sub.nil _ | (apply Sub.cons; focus ((repeat (first | with_reducible exact Pick.here _ | apply Pick.there)); (first | done | fail))) | with_reducible apply Sub.drop)); first | done | fail))) ?_
            rintro _ w ⟨gb, ba, bn, bc, hgb, rfl, hbef, hw⟩
            refine ⟨_, rfl, ?_⟩
            refine rl_v rfl rfl rfl (S := fun _ => True) trivial (v_assign rfl) ?_
            refine rl_nil (g_le (Fr.le_keep (Fr.le_keep (Fr.le_keep (Fr.le_refl _)))) ?_)
            have hels := hels.mono mono_Hd hgb
            have hnd := mono_Nd hgb hnd
            have hrf := mono_sl mono_int hgb hrf
            have hgW := hg.trans hgb
            obtain ⟨rfl, _, hbc, _, _⟩ := rdSl_get hbef
            refine g_seq ?_
            refine g_region ?_
            refine rl_v rfl rfl rfl (S := fun _ => True) trivial (v_assign rfl) ?_
            refine rl_nil (g_le (Fr.le_keep (Fr.le_refl _)) ?_)
            refine g_seq (g_seq ?_)
            refine g_region ?_
            first | (refine rl_v rfl rfl rfl (S := fun _ => True) trivial (v_fieldAddr0 T.fld_49_0_0 rfl) ?_) | (refine rl_v rfl rfl rfl (S := fun _ => True) trivial (v_fieldAddr T.fld_49_0_0 rfl) ?_)
            refine rl_v rfl rfl rfl (by first | exact sat_cell hw (by (repeat (first | with_reducible exact Pick.here _ | apply Pick.there)); first | done | fail) rfl | exact own_cell hw (by (repeat (first | with_reducible exact Pick.here _ | apply Pick.there)); first | done | fail) (by first | rfl | assumption) | exact ro_at0 hw (by (repeat (first | with_reducible exact Pick.here _ | apply Pick.there)); first | done | fail) (by assumption) rfl | exact ro_at hw (by (repeat (first | with_reducible exact Pick.here _ | apply Pick.there)); first | done | fail) (by assumption) rfl | exact own_at0 hw (by (repeat (first | with_reducible exact Pick.here _ | apply Pick.there)); first | done | fail) (by assumption) rfl | exact own_at hw (by (repeat (first | with_reducible exact Pick.here _ | apply Pick.there)); first | done | fail) (by assumption) rfl | exact old_cell hw (by (repeat (first | with_reducible exact Pick.here _ | apply Pick.there)); first | done | fail) (by assumption) | assumption) (v_load T.scal_3 rfl) ?_
            refine rl_nil (g_le (Fr.le_keep (Fr.le_keep (Fr.le_refl _))) ?_)
            refine g_cutc (σ := Ch × Hp × Value × List Value × Bool) (fun C x => (13, .bool x.2.2.2.2) :: C) [(0, _), (4, _), (5, _), (7, _), (8, _), (9, _), (10, _), (11, _), (12, _), (46, _), (47, _), (48, _), (49, _), (50, _), (51, _), (52, _), (53, _), (54, _), (55, _), (56, _), (57, _), (58, _), (59, _)] (by repeat (first | exact Fr.le_nil _ | refine Fr.le_cons rfl ?_)) (fun z w => Tr rm (i + 1) z.1 (xs.take (i + 1).toNat) (done ++ [z.2.2.2.2]) ∧ Stays x s z.1 ∧ gb.le z.2.1 ∧ Els rdHd 8 z.2.1 z.2.2.2.1 z.1.l ∧ Sat (envOf W) w (pt c (.cells [Value.int .i64 (z.1 : Ch).room, z.2.2.1, .int .i64 (z.1 : Ch).hits, .int .i64 (z.1 : Ch).misses].toArray 70 (0, 0)) :: OwnSl 42 8 z.2.2.1 (z.1 : Ch).l.length z.2.2.2.1 :: pt bk10_3 (.cells [Value.int .i64 x.do_, .int .i64 x.r, .bool x.n.leaf, .slice qa1 qn1 qk1, .slice qa2 qn2 qk2, .slice qa3 qn3 qk3].toArray 49 (0, 0)) :: OwnSl 4 1 (.slice da i.toNat dc) i.toNat (done.map Value.bool) :: RO z.2.1 :: [])) ?_ ?_
            · skip
              rintro ⟨s2, g2, lv2, cells2, ok⟩ w ⟨kt, kst, kg, kels, hw⟩
              dsimp only at kt kst kg kels hw ⊢
              have hkl := kt.len
              all_goals
                refine g_seq ?_
                refine g_region ?_
                refine rl_v rfl rfl rfl (S := fun _ => True) trivial (v_move rfl) ?_
                refine rl_v rfl rfl rfl (S := fun _ => True) trivial (v_move rfl) ?_
                refine rl_k rfl (k_buildSlice (cells := [_]) hw T.sl_60_4_1 T.zero_4 rfl rfl rfl rfl rfl rfl (fun bk33_2 w hw => ?_))
                refine rl_k rfl (k_append (news := [_]) hw T.sl_60_4_1 T.zero_4 T.bytes_4_1 rfl (by decide) rfl rfl (by (repeat (first | with_reducible exact Pick.here _ | apply Pick.there)); first | done | fail) rfl (by first | exact sat_cells hw (by (repeat (first | with_reducible exact Pick.here _ | apply Pick.there)); first | done | fail) ⟨rfl, trivial⟩ | exact old_cells hw (by (repeat (first | with_reducible exact Pick.here _ | apply Pick.there)); first | done | fail) (by assumption)) (by simp [Value.oneCell']) (by omega) (by simp only [maxLen]; omega) rfl (fun vv33_3 w hw hnil => ?_))
                obtain ⟨da2, dc2, rfl, hdc2, _, _⟩ := hw.own_shape
                rw [show List.map Value.bool done ++ [Value.bool ok] = (done ++ [ok]).map Value.bool by rw [List.map_append]; rfl] at hw
                refine rl_v rfl rfl rfl (S := fun _ => True) trivial (v_assign rfl) ?_
                refine rl_nil (g_le (Fr.le_keep (Fr.le_keep (Fr.le_keep (Fr.le_keep (Fr.le_keep (Fr.le_refl _)))))) ?_)
                refine g_seq ?_
                refine g_region ?_
                refine rl_v rfl rfl rfl (S := fun _ => True) trivial (v_move rfl) ?_
                refine rl_k rfl (k_callf Try.func14 rfl rfl rfl rfl ?_)
                refine Calls.mono (choldsC_calls kels (by have := kt.len; omega) (hw.sub (by (repeat (first | with_reducible exact Sub.refl _ | exact Sub.nil _ | (apply Sub.cons; focus ((repeat (first | with_reducible exact Pick.here _ | apply Pick.there)); (first | done | fail))) | with_reducible apply Sub.drop)); first | done | fail))) ?_
                rintro _ w ⟨g4, na, nn, nc, hg4, rfl, hnow, hw⟩
                obtain ⟨rfl, _, _, _, gnow⟩ := rdSl_get hnow
                refine ⟨_, rfl, ?_⟩
                refine rl_v rfl rfl rfl (S := fun _ => True) trivial (v_assign rfl) ?_
                refine rl_nil (g_le (Fr.le_keep (Fr.le_keep (Fr.le_keep (Fr.le_refl _)))) ?_)
                refine g_seq (g_seq ?_)
                refine g_region ?_
                refine rl_v rfl rfl rfl (S := fun _ => True) trivial (v_move rfl) ?_
                refine rl_v rfl rfl rfl (S := fun _ => True) trivial (v_lenSlice T.sl_39_42_8 rfl) ?_
                refine rl_v rfl rfl rfl (S := fun _ => True) trivial (v_move rfl) ?_
                first | (refine rl_v rfl rfl rfl (S := fun _ => True) trivial (v_gtrT rfl rfl (by omega)) ?_) | (refine rl_v rfl rfl rfl (S := fun _ => True) trivial (v_gtrF rfl rfl (by omega)) ?_) | (refine rl_v rfl rfl rfl (S := fun _ => True) trivial (v_gtr rfl rfl) ?_)
                refine rl_v rfl rfl rfl (S := fun _ => True) trivial (v_move rfl) ?_
                first | (refine rl_vg (met_on rfl rfl rfl rfl) rfl rfl (S := fun _ => True) trivial (v_move rfl) ?_) | (refine rl_off (by first | exact met_off rfl rfl rfl rfl rfl | exact met_gone rfl rfl rfl rfl) rfl rfl ?_)
                first | (refine rl_vg (met_on rfl rfl rfl rfl) rfl rfl (S := fun _ => True) trivial (v_lenSlice T.sl_39_42_8 rfl) ?_) | (refine rl_off (by first | exact met_off rfl rfl rfl rfl rfl | exact met_gone rfl rfl rfl rfl) rfl rfl ?_)
                first | (refine rl_vg (met_on rfl rfl rfl rfl) rfl rfl (S := fun _ => True) trivial (v_move rfl) ?_) | (refine rl_off (by first | exact met_off rfl rfl rfl rfl rfl | exact met_gone rfl rfl rfl rfl) rfl rfl ?_)
                first | (refine rl_kg (met_on rfl rfl rfl rfl) (k_callf Try.func18 rfl rfl rfl rfl ?_); refine Calls.mono (ckept_calls (hw.sub (by (repeat (first | with_reducible exact Sub.refl _ | exact Sub.nil _ | (apply Sub.cons; focus ((repeat (first | with_reducible exact Pick.here _ | apply Pick.there)); (first | done | fail))) | with_reducible apply Sub.drop)); first | done | fail))) ?_; rintro _ w ⟨rfl, hw⟩; refine ⟨_, rfl, ?_⟩) | (refine rl_off (by first | exact met_off rfl rfl rfl rfl rfl | exact met_gone rfl rfl rfl rfl) rfl rfl ?_)
                first | (refine rl_vg (met_on rfl rfl rfl rfl) rfl rfl (S := fun _ => True) trivial (v_neqT rfl rfl (by omega)) ?_) | (refine rl_vg (met_on rfl rfl rfl rfl) rfl rfl (S := fun _ => True) trivial (v_neqF rfl rfl (by first | omega | rfl)) ?_) | (refine rl_vg (met_on rfl rfl rfl rfl) rfl rfl (S := fun _ => True) trivial (v_neq rfl rfl) ?_) | (refine rl_off (by first | exact met_off rfl rfl rfl rfl rfl | exact met_gone rfl rfl rfl rfl) rfl rfl ?_)
                first | (refine rl_v rfl rfl rfl (S := fun _ => True) trivial (v_pick_true rfl rfl) ?_) | (refine rl_v rfl rfl rfl (S := fun _ => True) trivial (v_pick_false rfl rfl) ?_) | (refine rl_v rfl rfl rfl (S := fun _ => True) trivial (v_pick rfl rfl rfl) ?_)
                refine rl_nil (g_le (Fr.le_keep (Fr.le_keep (Fr.le_keep (Fr.le_keep (Fr.le_keep (Fr.le_keep (Fr.le_keep (Fr.le_keep (Fr.le_keep (Fr.le_keep (Fr.le_keep (Fr.le_refl _)))))))))))) ?_)
                refine g_cond_false rfl ?_
                refine g_skip (g_seq (g_seq ?_))
                refine g_region ?_
                refine rl_v rfl rfl rfl (S := fun _ => True) trivial (v_move rfl) ?_
                refine rl_v rfl rfl rfl (S := fun _ => True) trivial (v_lenSlice T.sl_39_42_8 rfl) ?_
                refine rl_v rfl rfl rfl (S := fun _ => True) trivial (v_move rfl) ?_
                refine rl_nil (g_le (Fr.le_keep (Fr.le_keep (Fr.le_keep (Fr.le_refl _)))) ?_)
                refine g_block ?_
                refine g_loopC (σ := Int) (fun C x => (154, .int .i64 x) :: C) [(0, _), (4, _), (5, _), (7, _), (8, _), (9, _), (10, _), (11, _), (12, _), (13, _), (20, _), (46, _), (47, _), (48, _), (49, _), (50, _), (51, _), (52, _), (53, _), (54, _), (55, _), (56, _), (57, _), (58, _), (59, _), (135, _), (136, _), (137, _), (138, _), (139, _), (140, _), (141, _), (142, _), (143, _), (144, _), (145, _), (146, _), (147, _), (148, _), (149, _), (150, _), (151, _), (152, _), (153, _)] (by repeat (first | exact Fr.le_nil _ | refine Fr.le_cons rfl ?_)) (fun z w => 0 ≤ z ∧ z ≤ s2.l.length ∧ Sat (envOf W) w (pt c (.cells [Value.int .i64 (s2 : Ch).room, lv2, .int .i64 (s2 : Ch).hits, .int .i64 (s2 : Ch).misses].toArray 70 (0, 0)) :: OwnSl 42 8 lv2 (s2 : Ch).l.length cells2 :: pt bk10_3 (.cells [Value.int .i64 x.do_, .int .i64 x.r, .bool x.n.leaf, .slice qa1 qn1 qk1, .slice qa2 qn2 qk2, .slice qa3 qn3 qk3].toArray 49 (0, 0)) :: OwnSl 4 1 (.slice da2 (i.toNat + 1) dc2) (i.toNat + 1) ((done ++ [ok]).map Value.bool) :: RO g4 :: [])) (fun z => (s2.l.length - z).toNat) ?_ 0 (by repeat (first | exact Fr.le_nil _ | refine Fr.le_cons rfl ?_)) ⟨by omega, by omega, hw.sub (by (repeat (first | with_reducible exact Sub.refl _ | exact Sub.nil _ | (apply Sub.cons; focus ((repeat (first | with_reducible exact Pick.here _ | apply Pick.there)); (first | done | fail))) | with_reducible apply Sub.drop)); first | done | fail)⟩
                rintro j w ⟨hj0, hj1, hw⟩ ih2
                refine g_seq ?_
                refine g_region ?_
                first | (refine rl_v rfl rfl rfl (S := fun _ => True) trivial (v_lssT rfl rfl (by omega)) ?_) | (refine rl_v rfl rfl rfl (S := fun _ => True) trivial (v_lssF rfl rfl (by omega)) ?_) | (refine rl_v rfl rfl rfl (S := fun _ => True) trivial (v_lss rfl rfl) ?_)
                refine rl_nil (g_le (Fr.le_keep (Fr.le_refl _)) ?_)
                refine g_seq ?_
                refine g_cond rfl (fun h13 => ?_) (fun h13 => ?_)
                · try with_reducible exact ft_elim h13
                  all_goals
                    try replace h13 := of_decide_eq_true h13
                    try (first | (exfalso; omega))
                    all_goals
                      refine g_skip (g_seq (g_block (g_seq ?_)))
                      have hz := hw
                      clear hw
                      obtain ⟨b5, o5, y, ecs5, rfl, hx5, hat5, hl5, hrd5⟩ := gnow j hj0 (by omega)
                      have hym := List.mem_of_getElem? hx5
                      obtain ⟨hyl, hyp, hyp2⟩ := kt.tell y hym
                      obtain ⟨ea, en, ec, ka, kn, kc, rfl, hnd5, hok5⟩ := hd_told hrd5
                      have hw := hz
                      refine g_region ?_
                      refine rl_v rfl rfl rfl (S := fun _ => True) trivial (v_indexAddr T.sl_39_42_8 rfl rfl (by omega) (by omega)) ?_
                      refine rl_v rfl rfl rfl (by first | exact sat_cells hw (by (repeat (first | with_reducible exact Pick.here _ | apply Pick.there)); first | done | fail) ⟨rfl, rfl, rfl, rfl, rfl, rfl, rfl, rfl, trivial⟩ | exact ro_ats hw (by (repeat (first | with_reducible exact Pick.here _ | apply Pick.there)); first | done | fail) (by assumption) | exact own_cells hw (by (repeat (first | with_reducible exact Pick.here _ | apply Pick.there)); first | done | fail) (by assumption) | exact old_cells hw (by (repeat (first | with_reducible exact Pick.here _ | apply Pick.there)); first | done | fail) (by assumption)) (v_loadAgg (vs := [_, _, _, _, _, _, _, _]) T.agg_42_8 rfl rfl) ?_
                      refine rl_k rfl (k_alloc hw T.zero_42 rfl rfl (fun bk39_2 w hw => ?_))
                      first | (refine rl_k rfl (k_storeWhole hw T.agg_42_8 rfl rfl (by simp [Value.oneCell']) rfl (by (repeat (first | with_reducible exact Pick.here _ | apply Pick.there)); first | done | fail) rfl (fun w hw => ?_))) | (refine rl_k rfl (k_storeAgg hw T.agg_42_8 rfl rfl (by simp [Value.oneCell']) rfl (by (repeat (first | with_reducible exact Pick.here _ | apply Pick.there)); first | done | fail) rfl rfl (fun w hw => ?_))) | (refine rl_k rfl (k_storeOwnAgg hw T.agg_42_8 rfl rfl (by simp [Value.oneCell']) rfl (by (repeat (first | with_reducible exact Pick.here _ | apply Pick.there)); first | done | fail) (by assumption) (by omega) (fun w hw => ?_)))
                      refine rl_nil (g_le (Fr.le_keep (Fr.le_keep (Fr.le_keep (Fr.le_refl _)))) ?_)
                      refine g_seq ?_
                      refine g_drawR ord_f6_r40_C15T (by kernel_rfl) T.mixed hw (fun w hw => ?_)
                      refine rs_a 0 rfl rfl rfl rfl (v_move rfl) ?_
                      refine rs_a 1 rfl rfl rfl rfl (v_move rfl) ?_
                      first | (refine rs_a 2 rfl rfl rfl rfl (v_add rfl rfl (by omega)) ?_) | (refine rs_a 2 rfl rfl rfl rfl (v_addW rfl rfl) ?_)
                      refine rs_a 3 rfl rfl rfl rfl (v_sliceTo T.sl_45_49_6 rfl rfl (by omega) (by omega)) ?_
                      first | (refine rs_a 4 rfl rfl rfl rfl (v_fieldAddr0 T.fld_42_0_0 rfl) ?_) | (refine rs_a 4 rfl rfl rfl rfl (v_fieldAddr T.fld_42_0_0 rfl) ?_)
                      refine rs_a 6 rfl rfl rfl rfl (v_move rfl) ?_
                      refine rs_v 5 rfl rfl rfl rfl (OpV.mono (v_loadAgg (vs := [_, _, _, _]) T.agg_34_4 rfl rfl) (fun w hw => by first | exact sat_cells hw (by (repeat (first | with_reducible exact Pick.here _ | apply Pick.there)); first | done | fail) ⟨rfl, rfl, rfl, rfl, trivial⟩ | exact ro_ats hw (by (repeat (first | with_reducible exact Pick.here _ | apply Pick.there)); first | done | fail) (by assumption) | exact own_cells hw (by (repeat (first | with_reducible exact Pick.here _ | apply Pick.there)); first | done | fail) (by assumption) | exact old_cells hw (by (repeat (first | with_reducible exact Pick.here _ | apply Pick.there)); first | done | fail) (by assumption))) (by first | exact hw | exact Sat.sub hw (by (repeat (first | with_reducible exact Sub.refl _ | exact Sub.nil _ | (apply Sub.cons; focus ((repeat (first | with_reducible exact Pick.here _ | apply Pick.there)); (first | done | fail))) | with_reducible apply Sub.drop)); first | done | fail)) ?_
                      refine rs_b2 7 11 rfl rfl rfl rfl ?_ ?_ 
                      · skip
                        refine (k_callf Try.func24 rfl rfl rfl rfl ?_)
                        refine Calls.mono (last_calls y.ref (rdSl_take (i + 1).toNat (mono_sl mono_Op ((hgW.trans kg).trans hg4) hr) (by omega)) kt.eq (by simp [htl]) (hw.sub (by (repeat (first | with_reducible exact Sub.refl _ | exact Sub.nil _ | (apply Sub.cons; focus ((repeat (first | with_reducible exact Pick.here _ | apply Pick.there)); (first | done | fail))) | with_reducible apply Sub.drop)); first | done | fail))) ?_
                        rw [hyl]
                        rintro _ w ⟨ea2, en2, ec2, ka2, kn2, kc2, rfl, hnd6, hw⟩
                        refine ⟨_, rfl, ?_⟩
                        refine ⟨fun hn => absurd (by decide) hn, ?_⟩
                        refine rs_a 8 rfl rfl rfl rfl (v_move rfl) ?_
                        refine rs_a 9 rfl rfl rfl rfl (v_extract rfl rfl) ?_
                        refine rs_a 10 rfl rfl rfl rfl (v_extract rfl rfl) ?_
                        refine rs_k 11 rfl rfl (k_alloc hw T.zero_25 rfl rfl (fun bk40_11 w hw => ?_))
                        refine ⟨fun _ => (by first | exact hw | exact Sat.sub hw (by (repeat (first | with_reducible exact Sub.refl _ | exact Sub.nil _ | (apply Sub.cons; focus ((repeat (first | with_reducible exact Pick.here _ | apply Pick.there)); (first | done | fail))) | with_reducible apply Sub.drop)); first | done | fail) | exact Sat.sub (Sat.shrink (Sat.pick hw (by (repeat (first | with_reducible exact Pick.here _ | apply Pick.there)); first | done | fail)) (by assumption)) (by (repeat (first | with_reducible exact Sub.refl _ | exact Sub.nil _ | (apply Sub.cons; focus ((repeat (first | with_reducible exact Pick.here _ | apply Pick.there)); (first | done | fail))) | with_reducible apply Sub.drop)); first | done | fail)), ?_⟩
                        first | (refine rs_k 12 rfl rfl (k_storeWhole hw T.agg_25_3 rfl rfl (by simp [Value.oneCell']) rfl (by (repeat (first | with_reducible exact Pick.here _ | apply Pick.there)); first | done | fail) rfl (fun w hw => ?_))) | (refine rs_k 12 rfl rfl (k_storeAgg hw T.agg_25_3 rfl rfl (by simp [Value.oneCell']) rfl (by (repeat (first | with_reducible exact Pick.here _ | apply Pick.there)); first | done | fail) rfl rfl (fun w hw => ?_))) | (refine rs_k 12 rfl rfl (k_storeOwnAgg hw T.agg_25_3 rfl rfl (by simp [Value.oneCell']) rfl (by (repeat (first | with_reducible exact Pick.here _ | apply Pick.there)); first | done | fail) (by assumption) (by omega) (fun w hw => ?_)))
                        refine ⟨fun hn => absurd (by decide) hn, ?_⟩
                        refine rs_kv 13 rfl rfl rfl rfl (S' := fun _ => True) trivial (v_assign rfl) ?_
                        refine rs_done (g_le (Fr.le_keep (Fr.le_keep (Fr.le_keep (Fr.le_keep (Fr.le_keep (Fr.le_keep (Fr.le_keep (Fr.le_keep (Fr.le_keep (Fr.le_keep (Fr.le_keep (Fr.le_keep (Fr.le_keep (Fr.le_refl _)))))))))))))) ?_)
                        refine g_seq ?_
                        refine g_region ?_
                        refine rl_v rfl rfl rfl (S := fun _ => True) trivial (v_move rfl) ?_
                        refine rl_v rfl rfl rfl (S := fun _ => True) trivial (v_not rfl) ?_
                        refine rl_v rfl rfl rfl (S := fun _ => True) trivial (v_move rfl) ?_
                        first | (refine rl_vg (met_on rfl rfl rfl rfl) rfl rfl (S := fun _ => True) trivial (v_fieldAddr0 T.fld_42_1_4 rfl) ?_) | (refine rl_vg (met_on rfl rfl rfl rfl) rfl rfl (S := fun _ => True) trivial (v_fieldAddr T.fld_42_1_4 rfl) ?_) | (refine rl_off (by first | exact met_off rfl rfl rfl rfl rfl | exact met_gone rfl rfl rfl rfl) rfl rfl ?_)
                        first | (refine rl_vg (met_on rfl rfl rfl rfl) rfl rfl (by first | exact sat_cells hw (by (repeat (first | with_reducible exact Pick.here _ | apply Pick.there)); first | done | fail) ⟨rfl, rfl, rfl, trivial⟩ | exact ro_ats hw (by (repeat (first | with_reducible exact Pick.here _ | apply Pick.there)); first | done | fail) (by assumption) | exact own_cells hw (by (repeat (first | with_reducible exact Pick.here _ | apply Pick.there)); first | done | fail) (by assumption) | exact old_cells hw (by (repeat (first | with_reducible exact Pick.here _ | apply Pick.there)); first | done | fail) (by assumption)) (v_loadAgg (vs := [_, _, _]) T.agg_25_3 rfl rfl) ?_) | (refine rl_off (by first | exact met_off rfl rfl rfl rfl rfl | exact met_gone rfl rfl rfl rfl) rfl rfl ?_)
                        first | (refine rl_vg (met_on rfl rfl rfl rfl) rfl rfl (by first | exact sat_cells hw (by (repeat (first | with_reducible exact Pick.here _ | apply Pick.there)); first | done | fail) ⟨rfl, rfl, rfl, trivial⟩ | exact ro_ats hw (by (repeat (first | with_reducible exact Pick.here _ | apply Pick.there)); first | done | fail) (by assumption) | exact own_cells hw (by (repeat (first | with_reducible exact Pick.here _ | apply Pick.there)); first | done | fail) (by assumption) | exact old_cells hw (by (repeat (first | with_reducible exact Pick.here _ | apply Pick.there)); first | done | fail) (by assumption)) (v_loadAgg (vs := [_, _, _]) T.agg_25_3 rfl rfl) ?_) | (refine rl_off (by first | exact met_off rfl rfl rfl rfl rfl | exact met_gone rfl rfl rfl rfl) rfl rfl ?_)
                        first | (refine rl_kg (met_on rfl rfl rfl rfl) (k_callf Try.func15 rfl rfl rfl rfl ?_); refine Calls.mono (likeNd_calls hnd5 hnd6 (hw.pick (by (repeat (first | with_reducible exact Pick.here _ | apply Pick.there)); first | done | fail))) ?_; rw [decide_eq_true rfl]; rintro _ w ⟨rfl, hw⟩; refine ⟨_, rfl, ?_⟩) | (refine rl_off (by first | exact met_off rfl rfl rfl rfl rfl | exact met_gone rfl rfl rfl rfl) rfl rfl ?_)
                        first | (refine rl_vg (met_on rfl rfl rfl rfl) rfl rfl (S := fun _ => True) trivial (v_not rfl) ?_) | (refine rl_off (by first | exact met_off rfl rfl rfl rfl rfl | exact met_gone rfl rfl rfl rfl) rfl rfl ?_)
                        first | (refine rl_v rfl rfl rfl (S := fun _ => True) trivial (v_pick_true rfl rfl) ?_) | (refine rl_v rfl rfl rfl (S := fun _ => True) trivial (v_pick_false rfl rfl) ?_) | (refine rl_v rfl rfl rfl (S := fun _ => True) trivial (v_pick rfl rfl rfl) ?_)
                        refine rl_v rfl rfl rfl (S := fun _ => True) trivial (v_move rfl) ?_
                        first | (refine rl_vg (met_on rfl rfl rfl rfl) rfl rfl (S := fun _ => True) trivial (v_fieldAddr0 T.fld_42_2_7 rfl) ?_) | (refine rl_vg (met_on rfl rfl rfl rfl) rfl rfl (S := fun _ => True) trivial (v_fieldAddr T.fld_42_2_7 rfl) ?_) | (refine rl_off (by first | exact met_off rfl rfl rfl rfl rfl | exact met_gone rfl rfl rfl rfl) rfl rfl ?_)
                        first | (refine rl_vg (met_on rfl rfl rfl rfl) rfl rfl (by first | exact sat_cell hw (by (repeat (first | with_reducible exact Pick.here _ | apply Pick.there)); first | done | fail) rfl | exact own_cell hw (by (repeat (first | with_reducible exact Pick.here _ | apply Pick.there)); first | done | fail) (by first | rfl | assumption) | exact ro_at0 hw (by (repeat (first | with_reducible exact Pick.here _ | apply Pick.there)); first | done | fail) (by assumption) rfl | exact ro_at hw (by (repeat (first | with_reducible exact Pick.here _ | apply Pick.there)); first | done | fail) (by assumption) rfl | exact own_at0 hw (by (repeat (first | with_reducible exact Pick.here _ | apply Pick.there)); first | done | fail) (by assumption) rfl | exact own_at hw (by (repeat (first | with_reducible exact Pick.here _ | apply Pick.there)); first | done | fail) (by assumption) rfl | exact old_cell hw (by (repeat (first | with_reducible exact Pick.here _ | apply Pick.there)); first | done | fail) (by assumption) | assumption) (v_load T.scal_3 rfl) ?_) | (refine rl_off (by first | exact met_off rfl rfl rfl rfl rfl | exact met_gone rfl rfl rfl rfl) rfl rfl ?_)
                        first | (refine rl_vg (met_on rfl rfl rfl rfl) rfl rfl (S := fun _ => True) trivial (v_lssT rfl rfl (by omega)) ?_) | (refine rl_vg (met_on rfl rfl rfl rfl) rfl rfl (S := fun _ => True) trivial (v_lssF rfl rfl (by omega)) ?_) | (refine rl_vg (met_on rfl rfl rfl rfl) rfl rfl (S := fun _ => True) trivial (v_lss rfl rfl) ?_) | (refine rl_off (by first | exact met_off rfl rfl rfl rfl rfl | exact met_gone rfl rfl rfl rfl) rfl rfl ?_)
                        first | (refine rl_v rfl rfl rfl (S := fun _ => True) trivial (v_pick_true rfl rfl) ?_) | (refine rl_v rfl rfl rfl (S := fun _ => True) trivial (v_pick_false rfl rfl) ?_) | (refine rl_v rfl rfl rfl (S := fun _ => True) trivial (v_pick rfl rfl rfl) ?_)
                        refine rl_nil (g_le (Fr.le_keep (Fr.le_keep (Fr.le_keep (Fr.le_keep (Fr.le_keep (Fr.le_keep (Fr.le_keep (Fr.le_keep (Fr.le_keep (Fr.le_keep (Fr.le_keep (Fr.le_keep (Fr.le_keep (Fr.le_keep (Fr.le_refl _))))))))))))))) ?_)
                        refine g_cond_false rfl ?_
                        refine g_skip (g_inBlock ?_)
                        refine g_region ?_
                        first | (refine rl_v rfl rfl rfl (S := fun _ => True) trivial (v_add rfl rfl (by omega)) ?_) | (refine rl_v rfl rfl rfl (S := fun _ => True) trivial (v_addW rfl rfl) ?_)
                        refine rl_v rfl rfl rfl (S := fun _ => True) trivial (v_move rfl) ?_
                        refine rl_nil (g_le (Fr.le_keep (Fr.le_keep (Fr.le_refl _))) ?_)
                        exact g_le (by repeat (first | exact Fr.le_nil _ | refine Fr.le_cons rfl ?_)) (ih2 (j + 1) w ⟨by omega, by omega, hw.sub (by (repeat (first | with_reducible exact Sub.refl _ | exact Sub.nil _ | (apply Sub.cons; focus ((repeat (first | with_reducible exact Pick.here _ | apply Pick.there)); (first | done | fail))) | with_reducible apply Sub.drop)); first | done | fail)⟩ (by omega))
                      · skip
                        refine (k_alloc hw T.zero_25 rfl rfl (fun bk40_11 w hw => ?_))
                        refine ⟨fun _ => (by first | exact hw | exact Sat.sub hw (by (repeat (first | with_reducible exact Sub.refl _ | exact Sub.nil _ | (apply Sub.cons; focus ((repeat (first | with_reducible exact Pick.here _ | apply Pick.there)); (first | done | fail))) | with_reducible apply Sub.drop)); first | done | fail) | exact Sat.sub (Sat.shrink (Sat.pick hw (by (repeat (first | with_reducible exact Pick.here _ | apply Pick.there)); first | done | fail)) (by assumption)) (by (repeat (first | with_reducible exact Sub.refl _ | exact Sub.nil _ | (apply Sub.cons; focus ((repeat (first | with_reducible exact Pick.here _ | apply Pick.there)); (first | done | fail))) | with_reducible apply Sub.drop)); first | done | fail)), ?_⟩
                        refine rs_k 7 rfl rfl (k_callf Try.func24 rfl rfl rfl rfl ?_)
                        refine Calls.mono (last_calls y.ref (rdSl_take (i + 1).toNat (mono_sl mono_Op ((hgW.trans kg).trans hg4) hr) (by omega)) kt.eq (by simp [htl]) (hw.sub (by (repeat (first | with_reducible exact Sub.refl _ | exact Sub.nil _ | (apply Sub.cons; focus ((repeat (first | with_reducible exact Pick.here _ | apply Pick.there)); (first | done | fail))) | with_reducible apply Sub.drop)); first | done | fail))) ?_
                        rw [hyl]
                        rintro _ w ⟨ea2, en2, ec2, ka2, kn2, kc2, rfl, hnd6, hw⟩
                        refine ⟨_, rfl, ?_⟩
                        refine ⟨fun hn => absurd (by decide) hn, ?_⟩
                        refine rs_kv 8 rfl rfl rfl rfl (S' := fun _ => True) trivial (v_move rfl) ?_
                        refine rs_a 9 rfl rfl rfl rfl (v_extract rfl rfl) ?_
                        refine rs_a 10 rfl rfl rfl rfl (v_extract rfl rfl) ?_
                        first | (refine rs_k 12 rfl rfl (k_storeWhole hw T.agg_25_3 rfl rfl (by simp [Value.oneCell']) rfl (by (repeat (first | with_reducible exact Pick.here _ | apply Pick.there)); first | done | fail) rfl (fun w hw => ?_))) | (refine rs_k 12 rfl rfl (k_storeAgg hw T.agg_25_3 rfl rfl (by simp [Value.oneCell']) rfl (by (repeat (first | with_reducible exact Pick.here _ | apply Pick.there)); first | done | fail) rfl rfl (fun w hw => ?_))) | (refine rs_k 12 rfl rfl (k_storeOwnAgg hw T.agg_25_3 rfl rfl (by simp [Value.oneCell']) rfl (by (repeat (first | with_reducible exact Pick.here _ | apply Pick.there)); first | done | fail) (by assumption) (by omega) (fun w hw => ?_)))
                        refine ⟨fun hn => absurd (by decide) hn, ?_⟩
                        refine rs_kv 13 rfl rfl rfl rfl (S' := fun _ => True) trivial (v_assign rfl) ?_
                        refine rs_done (g_le (Fr.le_keep (Fr.le_keep (Fr.le_keep (Fr.le_keep (Fr.le_keep (Fr.le_keep (Fr.le_keep (Fr.le_keep (Fr.le_keep (Fr.le_keep (Fr.le_keep (Fr.le_keep (Fr.le_keep (Fr.le_refl _)))))))))))))) ?_)
                        refine g_seq ?_
                        refine g_region ?_
                        refine rl_v rfl rfl rfl (S := fun _ => True) trivial (v_move rfl) ?_
                        refine rl_v rfl rfl rfl (S := fun _ => True) trivial (v_not rfl) ?_
                        refine rl_v rfl rfl rfl (S := fun _ => True) trivial (v_move rfl) ?_
                        first | (refine rl_vg (met_on rfl rfl rfl rfl) rfl rfl (S := fun _ => True) trivial (v_fieldAddr0 T.fld_42_1_4 rfl) ?_) | (refine rl_vg (met_on rfl rfl rfl rfl) rfl rfl (S := fun _ => True) trivial (v_fieldAddr T.fld_42_1_4 rfl) ?_) | (refine rl_off (by first | exact met_off rfl rfl rfl rfl rfl | exact met_gone rfl rfl rfl rfl) rfl rfl ?_)
                        first | (refine rl_vg (met_on rfl rfl rfl rfl) rfl rfl (by first | exact sat_cells hw (by (repeat (first | with_reducible exact Pick.here _ | apply Pick.there)); first | done | fail) ⟨rfl, rfl, rfl, trivial⟩ | exact ro_ats hw (by (repeat (first | with_reducible exact Pick.here _ | apply Pick.there)); first | done | fail) (by assumption) | exact own_cells hw (by (repeat (first | with_reducible exact Pick.here _ | apply Pick.there)); first | done | fail) (by assumption) | exact old_cells hw (by (repeat (first | with_reducible exact Pick.here _ | apply Pick.there)); first | done | fail) (by assumption)) (v_loadAgg (vs := [_, _, _]) T.agg_25_3 rfl rfl) ?_) | (refine rl_off (by first | exact met_off rfl rfl rfl rfl rfl | exact met_gone rfl rfl rfl rfl) rfl rfl ?_)
                        first | (refine rl_vg (met_on rfl rfl rfl rfl) rfl rfl (by first | exact sat_cells hw (by (repeat (first | with_reducible exact Pick.here _ | apply Pick.there)); first | done | fail) ⟨rfl, rfl, rfl, trivial⟩ | exact ro_ats hw (by (repeat (first | with_reducible exact Pick.here _ | apply Pick.there)); first | done | fail) (by assumption) | exact own_cells hw (by (repeat (first | with_reducible exact Pick.here _ | apply Pick.there)); first | done | fail) (by assumption) | exact old_cells hw (by (repeat (first | with_reducible exact Pick.here _ | apply Pick.there)); first | done | fail) (by assumption)) (v_loadAgg (vs := [_, _, _]) T.agg_25_3 rfl rfl) ?_) | (refine rl_off (by first | exact met_off rfl rfl rfl rfl rfl | exact met_gone rfl rfl rfl rfl) rfl rfl ?_)
                        first | (refine rl_kg (met_on rfl rfl rfl rfl) (k_callf Try.func15 rfl rfl rfl rfl ?_); refine Calls.mono (likeNd_calls hnd5 hnd6 (hw.pick (by (repeat (first | with_reducible exact Pick.here _ | apply Pick.there)); first | done | fail))) ?_; rw [decide_eq_true rfl]; rintro _ w ⟨rfl, hw⟩; refine ⟨_, rfl, ?_⟩) | (refine rl_off (by first | exact met_off rfl rfl rfl rfl rfl | exact met_gone rfl rfl rfl rfl) rfl rfl ?_)
                        first | (refine rl_vg (met_on rfl rfl rfl rfl) rfl rfl (S := fun _ => True) trivial (v_not rfl) ?_) | (refine rl_off (by first | exact met_off rfl rfl rfl rfl rfl | exact met_gone rfl rfl rfl rfl) rfl rfl ?_)
                        first | (refine rl_v rfl rfl rfl (S := fun _ => True) trivial (v_pick_true rfl rfl) ?_) | (refine rl_v rfl rfl rfl (S := fun _ => True) trivial (v_pick_false rfl rfl) ?_) | (refine rl_v rfl rfl rfl (S := fun _ => True) trivial (v_pick rfl rfl rfl) ?_)
                        refine rl_v rfl rfl rfl (S := fun _ => True) trivial (v_move rfl) ?_
                        first | (refine rl_vg (met_on rfl rfl rfl rfl) rfl rfl (S := fun _ => True) trivial (v_fieldAddr0 T.fld_42_2_7 rfl) ?_) | (refine rl_vg (met_on rfl rfl rfl rfl) rfl rfl (S := fun _ => True) trivial (v_fieldAddr T.fld_42_2_7 rfl) ?_) | (refine rl_off (by first | exact met_off rfl rfl rfl rfl rfl | exact met_gone rfl rfl rfl rfl) rfl rfl ?_)
                        first | (refine rl_vg (met_on rfl rfl rfl rfl) rfl rfl (by first | exact sat_cell hw (by (repeat (first | with_reducible exact Pick.here _ | apply Pick.there)); first | done | fail) rfl | exact own_cell hw (by (repeat (first | with_reducible exact Pick.here _ | apply Pick.there)); first | done | fail) (by first | rfl | assumption) | exact ro_at0 hw (by (repeat (first | with_reducible exact Pick.here _ | apply Pick.there)); first | done | fail) (by assumption) rfl | exact ro_at hw (by (repeat (first | with_reducible exact Pick.here _ | apply Pick.there)); first | done | fail) (by assumption) rfl | exact own_at0 hw (by (repeat (first | with_reducible exact Pick.here _ | apply Pick.there)); first | done | fail) (by assumption) rfl | exact own_at hw (by (repeat (first | with_reducible exact Pick.here _ | apply Pick.there)); first | done | fail) (by assumption) rfl | exact old_cell hw (by (repeat (first | with_reducible exact Pick.here _ | apply Pick.there)); first | done | fail) (by assumption) | assumption) (v_load T.scal_3 rfl) ?_) | (refine rl_off (by first | exact met_off rfl rfl rfl rfl rfl | exact met_gone rfl rfl rfl rfl) rfl rfl ?_)
                        first | (refine rl_vg (met_on rfl rfl rfl rfl) rfl rfl (S := fun _ => True) trivial (v_lssT rfl rfl (by omega)) ?_) | (refine rl_vg (met_on rfl rfl rfl rfl) rfl rfl (S := fun _ => True) trivial (v_lssF rfl rfl (by omega)) ?_) | (refine rl_vg (met_on rfl rfl rfl rfl) rfl rfl (S := fun _ => True) trivial (v_lss rfl rfl) ?_) | (refine rl_off (by first | exact met_off rfl rfl rfl rfl rfl | exact met_gone rfl rfl rfl rfl) rfl rfl ?_)
                        first | (refine rl_v rfl rfl rfl (S := fun _ => True) trivial (v_pick_true rfl rfl) ?_) | (refine rl_v rfl rfl rfl (S := fun _ => True) trivial (v_pick_false rfl rfl) ?_) | (refine rl_v rfl rfl rfl (S := fun _ => True) trivial (v_pick rfl rfl rfl) ?_)
                        refine rl_nil (g_le (Fr.le_keep (Fr.le_keep (Fr.le_keep (Fr.le_keep (Fr.le_keep (Fr.le_keep (Fr.le_keep (Fr.le_keep (Fr.le_keep (Fr.le_keep (Fr.le_keep (Fr.le_keep (Fr.le_keep (Fr.le_keep (Fr.le_refl _))))))))))))))) ?_)
                        refine g_cond_false rfl ?_
                        refine g_skip (g_inBlock ?_)
                        refine g_region ?_
                        first | (refine rl_v rfl rfl rfl (S := fun _ => True) trivial (v_add rfl rfl (by omega)) ?_) | (refine rl_v rfl rfl rfl (S := fun _ => True) trivial (v_addW rfl rfl) ?_)
                        refine rl_v rfl rfl rfl (S := fun _ => True) trivial (v_move rfl) ?_
                        refine rl_nil (g_le (Fr.le_keep (Fr.le_keep (Fr.le_refl _))) ?_)
                        exact g_le (by repeat (first | exact Fr.le_nil _ | refine Fr.le_cons rfl ?_)) (ih2 (j + 1) w ⟨by omega, by omega, hw.sub (by (repeat (first | with_reducible exact Sub.refl _ | exact Sub.nil _ | (apply Sub.cons; focus ((repeat (first | with_reducible exact Pick.here _ | apply Pick.there)); (first | done | fail))) | with_reducible apply Sub.drop)); first | done | fail)⟩ (by omega))
                · try with_reducible exact tf_elim h13
                  all_goals
                    try replace h13 := of_decide_eq_false h13
                    try (first | (exfalso; omega))
                    all_goals
                      refine g_exit rfl (g_seq ?_)
                      obtain ⟨_, _, _, _, gbef⟩ := rdSl_get (mono_sl mono_Hd (kg.trans hg4) hbef)
                      refine g_region ?_
                      refine rl_v rfl rfl rfl (S := fun _ => True) trivial (v_move rfl) ?_
                      refine rl_v rfl rfl rfl (S := fun _ => True) trivial (v_lenSlice T.sl_39_42_8 rfl) ?_
                      refine rl_v rfl rfl rfl (S := fun _ => True) trivial (v_move rfl) ?_
                      refine rl_nil (g_le (Fr.le_keep (Fr.le_keep (Fr.le_keep (Fr.le_refl _)))) ?_)
                      refine g_block ?_
                      refine g_loopC (σ := Int) (fun C x => (186, .int .i64 x) :: C) [(0, _), (4, _), (5, _), (7, _), (8, _), (9, _), (10, _), (11, _), (12, _), (13, _), (20, _), (46, _), (47, _), (48, _), (49, _), (50, _), (51, _), (52, _), (53, _), (54, _), (55, _), (56, _), (57, _), (58, _), (59, _), (135, _), (136, _), (137, _), (138, _), (139, _), (140, _), (141, _), (142, _), (143, _), (144, _), (145, _), (146, _), (147, _), (148, _), (149, _), (150, _), (151, _), (152, _), (153, _), (154, _), (155, _), (184, _), (185, _)] (by repeat (first | exact Fr.le_nil _ | refine Fr.le_cons rfl ?_)) (fun z w => 0 ≤ z ∧ z ≤ s.l.length ∧ Sat (envOf W) w (pt c (.cells [Value.int .i64 (s2 : Ch).room, lv2, .int .i64 (s2 : Ch).hits, .int .i64 (s2 : Ch).misses].toArray 70 (0, 0)) :: OwnSl 42 8 lv2 (s2 : Ch).l.length cells2 :: pt bk10_3 (.cells [Value.int .i64 x.do_, .int .i64 x.r, .bool x.n.leaf, .slice qa1 qn1 qk1, .slice qa2 qn2 qk2, .slice qa3 qn3 qk3].toArray 49 (0, 0)) :: OwnSl 4 1 (.slice da2 (i.toNat + 1) dc2) (i.toNat + 1) ((done ++ [ok]).map Value.bool) :: RO g4 :: [])) (fun z => (s.l.length - z).toNat) ?_ 0 (by repeat (first | exact Fr.le_nil _ | refine Fr.le_cons rfl ?_)) ⟨by omega, by omega, hw.sub (by (repeat (first | with_reducible exact Sub.refl _ | exact Sub.nil _ | (apply Sub.cons; focus ((repeat (first | with_reducible exact Pick.here _ | apply Pick.there)); (first | done | fail))) | with_reducible apply Sub.drop)); first | done | fail)⟩
                      rintro m w ⟨hm0, hm1, hw⟩ ih3
                      refine g_seq ?_
                      refine g_region ?_
                      first | (refine rl_v rfl rfl rfl (S := fun _ => True) trivial (v_lssT rfl rfl (by omega)) ?_) | (refine rl_v rfl rfl rfl (S := fun _ => True) trivial (v_lssF rfl rfl (by omega)) ?_) | (refine rl_v rfl rfl rfl (S := fun _ => True) trivial (v_lss rfl rfl) ?_)
                      refine rl_nil (g_le (Fr.le_keep (Fr.le_refl _)) ?_)
                      refine g_seq ?_
                      refine g_cond rfl (fun h15 => ?_) (fun h15 => ?_)
                      · try with_reducible exact ft_elim h15
                        all_goals
                          try replace h15 := of_decide_eq_true h15
                          try (first | (exfalso; omega))
                          all_goals
                            refine g_skip (g_seq (g_block (g_seq ?_)))
                            have hz := hw
                            clear hw
                            obtain ⟨b6, o6, y, ecs6, rfl, hx6, hat6, hl6, hrd6⟩ := gbef m hm0 (by omega)
                            have hym := List.mem_of_getElem? hx6
                            obtain ⟨ea, en, ec, ka, kn, kc, rfl, hnd6, hok6⟩ := hd_told hrd6
                            have hw := hz
                            refine g_region ?_
                            refine rl_v rfl rfl rfl (S := fun _ => True) trivial (v_indexAddr T.sl_39_42_8 rfl rfl (by omega) (by omega)) ?_
                            refine rl_v rfl rfl rfl (by first | exact sat_cells hw (by (repeat (first | with_reducible exact Pick.here _ | apply Pick.there)); first | done | fail) ⟨rfl, rfl, rfl, rfl, rfl, rfl, rfl, rfl, trivial⟩ | exact ro_ats hw (by (repeat (first | with_reducible exact Pick.here _ | apply Pick.there)); first | done | fail) (by assumption) | exact own_cells hw (by (repeat (first | with_reducible exact Pick.here _ | apply Pick.there)); first | done | fail) (by assumption) | exact old_cells hw (by (repeat (first | with_reducible exact Pick.here _ | apply Pick.there)); first | done | fail) (by assumption)) (v_loadAgg (vs := [_, _, _, _, _, _, _, _]) T.agg_42_8 rfl rfl) ?_
                            refine rl_k rfl (k_alloc hw T.zero_42 rfl rfl (fun bk46_2 w hw => ?_))
                            first | (refine rl_k rfl (k_storeWhole hw T.agg_42_8 rfl rfl (by simp [Value.oneCell']) rfl (by (repeat (first | with_reducible exact Pick.here _ | apply Pick.there)); first | done | fail) rfl (fun w hw => ?_))) | (refine rl_k rfl (k_storeAgg hw T.agg_42_8 rfl rfl (by simp [Value.oneCell']) rfl (by (repeat (first | with_reducible exact Pick.here _ | apply Pick.there)); first | done | fail) rfl rfl (fun w hw => ?_))) | (refine rl_k rfl (k_storeOwnAgg hw T.agg_42_8 rfl rfl (by simp [Value.oneCell']) rfl (by (repeat (first | with_reducible exact Pick.here _ | apply Pick.there)); first | done | fail) (by assumption) (by omega) (fun w hw => ?_)))
                            refine rl_nil (g_le (Fr.le_keep (Fr.le_keep (Fr.le_keep (Fr.le_refl _)))) ?_)
                            refine g_seq ?_
                            refine g_region ?_
                            first | (refine rl_v rfl rfl rfl (S := fun _ => True) trivial (v_fieldAddr0 T.fld_42_2_7 rfl) ?_) | (refine rl_v rfl rfl rfl (S := fun _ => True) trivial (v_fieldAddr T.fld_42_2_7 rfl) ?_)
                            refine rl_v rfl rfl rfl (by first | exact sat_cell hw (by (repeat (first | with_reducible exact Pick.here _ | apply Pick.there)); first | done | fail) rfl | exact own_cell hw (by (repeat (first | with_reducible exact Pick.here _ | apply Pick.there)); first | done | fail) (by first | rfl | assumption) | exact ro_at0 hw (by (repeat (first | with_reducible exact Pick.here _ | apply Pick.there)); first | done | fail) (by assumption) rfl | exact ro_at hw (by (repeat (first | with_reducible exact Pick.here _ | apply Pick.there)); first | done | fail) (by assumption) rfl | exact own_at0 hw (by (repeat (first | with_reducible exact Pick.here _ | apply Pick.there)); first | done | fail) (by assumption) rfl | exact own_at hw (by (repeat (first | with_reducible exact Pick.here _ | apply Pick.there)); first | done | fail) (by assumption) rfl | exact old_cell hw (by (repeat (first | with_reducible exact Pick.here _ | apply Pick.there)); first | done | fail) (by assumption) | assumption) (v_load T.scal_3 rfl) ?_
                            first | (refine rl_v rfl rfl rfl (S := fun _ => True) trivial (v_gtrT rfl rfl (by omega)) ?_) | (refine rl_v rfl rfl rfl (S := fun _ => True) trivial (v_gtrF rfl rfl (by omega)) ?_) | (refine rl_v rfl rfl rfl (S := fun _ => True) trivial (v_gtr rfl rfl) ?_)
                            refine rl_v rfl rfl rfl (S := fun _ => True) trivial (v_move rfl) ?_
                            refine rl_split (s := 193) rfl (fun g47_3 => ?_) (fun g47_3 => ?_)
                            · try with_reducible exact ft_elim g47_3
                              all_goals
                                try replace g47_3 := of_decide_eq_true g47_3
                                try (first | (exfalso; omega))
                                all_goals
                                  first | (refine rl_vg (met_on rfl rfl rfl rfl) rfl rfl (S := fun _ => True) trivial (v_fieldAddr0 T.fld_49_0_0 rfl) ?_) | (refine rl_vg (met_on rfl rfl rfl rfl) rfl rfl (S := fun _ => True) trivial (v_fieldAddr T.fld_49_0_0 rfl) ?_)
                                  refine rl_vg (met_on rfl rfl rfl rfl) rfl rfl (by first | exact sat_cell hw (by (repeat (first | with_reducible exact Pick.here _ | apply Pick.there)); first | done | fail) rfl | exact own_cell hw (by (repeat (first | with_reducible exact Pick.here _ | apply Pick.there)); first | done | fail) (by first | rfl | assumption) | exact ro_at0 hw (by (repeat (first | with_reducible exact Pick.here _ | apply Pick.there)); first | done | fail) (by assumption) rfl | exact ro_at hw (by (repeat (first | with_reducible exact Pick.here _ | apply Pick.there)); first | done | fail) (by assumption) rfl | exact own_at0 hw (by (repeat (first | with_reducible exact Pick.here _ | apply Pick.there)); first | done | fail) (by assumption) rfl | exact own_at hw (by (repeat (first | with_reducible exact Pick.here _ | apply Pick.there)); first | done | fail) (by assumption) rfl | exact old_cell hw (by (repeat (first | with_reducible exact Pick.here _ | apply Pick.there)); first | done | fail) (by assumption) | assumption) (v_load T.scal_3 rfl) ?_
                                  first | (refine rl_vg (met_on rfl rfl rfl rfl) rfl rfl (S := fun _ => True) trivial (v_neqT rfl rfl (by omega)) ?_) | (refine rl_vg (met_on rfl rfl rfl rfl) rfl rfl (S := fun _ => True) trivial (v_neqF rfl rfl (by first | omega | rfl)) ?_) | (refine rl_vg (met_on rfl rfl rfl rfl) rfl rfl (S := fun _ => True) trivial (v_neq rfl rfl) ?_)
                                  first | (refine rl_v rfl rfl rfl (S := fun _ => True) trivial (v_pick_true rfl rfl) ?_) | (refine rl_v rfl rfl rfl (S := fun _ => True) trivial (v_pick_false rfl rfl) ?_) | (refine rl_v rfl rfl rfl (S := fun _ => True) trivial (v_pick rfl rfl rfl) ?_)
                                  refine rl_v rfl rfl rfl (S := fun _ => True) trivial (v_move rfl) ?_
                                  refine rl_split (s := 198) rfl (fun g47_8 => ?_) (fun g47_8 => ?_)
                                  · try with_reducible exact ft_elim g47_8
                                    all_goals
                                      try replace g47_8 := of_decide_eq_true g47_8
                                      try (first | (exfalso; omega))
                                      all_goals
                                        first | (refine rl_vg (met_on rfl rfl rfl rfl) rfl rfl (S := fun _ => True) trivial (v_fieldAddr0 T.fld_49_0_0 rfl) ?_) | (refine rl_vg (met_on rfl rfl rfl rfl) rfl rfl (S := fun _ => True) trivial (v_fieldAddr T.fld_49_0_0 rfl) ?_)
                                        refine rl_vg (met_on rfl rfl rfl rfl) rfl rfl (by first | exact sat_cell hw (by (repeat (first | with_reducible exact Pick.here _ | apply Pick.there)); first | done | fail) rfl | exact own_cell hw (by (repeat (first | with_reducible exact Pick.here _ | apply Pick.there)); first | done | fail) (by first | rfl | assumption) | exact ro_at0 hw (by (repeat (first | with_reducible exact Pick.here _ | apply Pick.there)); first | done | fail) (by assumption) rfl | exact ro_at hw (by (repeat (first | with_reducible exact Pick.here _ | apply Pick.there)); first | done | fail) (by assumption) rfl | exact own_at0 hw (by (repeat (first | with_reducible exact Pick.here _ | apply Pick.there)); first | done | fail) (by assumption) rfl | exact own_at hw (by (repeat (first | with_reducible exact Pick.here _ | apply Pick.there)); first | done | fail) (by assumption) rfl | exact old_cell hw (by (repeat (first | with_reducible exact Pick.here _ | apply Pick.there)); first | done | fail) (by assumption) | assumption) (v_load T.scal_3 rfl) ?_
                                        first | (refine rl_vg (met_on rfl rfl rfl rfl) rfl rfl (S := fun _ => True) trivial (v_neqT rfl rfl (by omega)) ?_) | (refine rl_vg (met_on rfl rfl rfl rfl) rfl rfl (S := fun _ => True) trivial (v_neqF rfl rfl (by first | omega | rfl)) ?_) | (refine rl_vg (met_on rfl rfl rfl rfl) rfl rfl (S := fun _ => True) trivial (v_neq rfl rfl) ?_)
                                        first | (refine rl_v rfl rfl rfl (S := fun _ => True) trivial (v_pick_true rfl rfl) ?_) | (refine rl_v rfl rfl rfl (S := fun _ => True) trivial (v_pick_false rfl rfl) ?_) | (refine rl_v rfl rfl rfl (S := fun _ => True) trivial (v_pick rfl rfl rfl) ?_)
                                        refine rl_v rfl rfl rfl (S := fun _ => True) trivial (v_move rfl) ?_
                                        refine rl_split (s := 203) rfl (fun g47_13 => ?_) (fun g47_13 => ?_)
                                        · try with_reducible exact ft_elim g47_13
                                          all_goals
                                            try replace g47_13 := of_decide_eq_true g47_13
                                            try (first | (exfalso; omega))
                                            all_goals
                                              refine rl_vg (met_on rfl rfl rfl rfl) rfl rfl (S := fun _ => True) trivial (v_move rfl) ?_
                                              first | (refine rl_vg (met_on rfl rfl rfl rfl) rfl rfl (S := fun _ => True) trivial (v_fieldAddr0 T.fld_42_0_0 rfl) ?_) | (refine rl_vg (met_on rfl rfl rfl rfl) rfl rfl (S := fun _ => True) trivial (v_fieldAddr T.fld_42_0_0 rfl) ?_)
                                              refine rl_vg (met_on rfl rfl rfl rfl) rfl rfl (by first | exact sat_cells hw (by (repeat (first | with_reducible exact Pick.here _ | apply Pick.there)); first | done | fail) ⟨rfl, rfl, rfl, rfl, trivial⟩ | exact ro_ats hw (by (repeat (first | with_reducible exact Pick.here _ | apply Pick.there)); first | done | fail) (by assumption) | exact own_cells hw (by (repeat (first | with_reducible exact Pick.here _ | apply Pick.there)); first | done | fail) (by assumption) | exact old_cells hw (by (repeat (first | with_reducible exact Pick.here _ | apply Pick.there)); first | done | fail) (by assumption)) (v_loadAgg (vs := [_, _, _, _]) T.agg_34_4 rfl rfl) ?_
                                              refine rl_kg (met_on rfl rfl rfl rfl) (k_callf Try.func21 rfl rfl rfl rfl ?_)
                                              refine Calls.mono (hasYes_calls y.ref hnow (kst y hym g47_3 g47_8 g47_13) (hw.pick (by (repeat (first | with_reducible exact Pick.here _ | apply Pick.there)); first | done | fail))) ?_
                                              rintro _ w ⟨rfl, hw⟩
                                              refine ⟨_, rfl, ?_⟩
                                              refine rl_vg (met_on rfl rfl rfl rfl) rfl rfl (S := fun _ => True) trivial (v_not rfl) ?_
                                              first | (refine rl_v rfl rfl rfl (S := fun _ => True) trivial (v_pick_true rfl rfl) ?_) | (refine rl_v rfl rfl rfl (S := fun _ => True) trivial (v_pick_false rfl rfl) ?_) | (refine rl_v rfl rfl rfl (S := fun _ => True) trivial (v_pick rfl rfl rfl) ?_)
                                              refine rl_nil (g_le (Fr.le_keep (Fr.le_keep (Fr.le_keep (Fr.le_keep (Fr.le_keep (Fr.le_keep (Fr.le_keep (Fr.le_keep (Fr.le_keep (Fr.le_keep (Fr.le_keep (Fr.le_keep (Fr.le_keep (Fr.le_keep (Fr.le_keep (Fr.le_keep (Fr.le_keep (Fr.le_keep (Fr.le_keep (Fr.le_keep (Fr.le_keep (Fr.le_keep (Fr.le_keep (Fr.le_refl _)))))))))))))))))))))))) ?_)
                                              refine g_cond_false rfl ?_
                                              refine g_skip (g_inBlock ?_)
                                              refine g_region ?_
                                              first | (refine rl_v rfl rfl rfl (S := fun _ => True) trivial (v_add rfl rfl (by omega)) ?_) | (refine rl_v rfl rfl rfl (S := fun _ => True) trivial (v_addW rfl rfl) ?_)
                                              refine rl_v rfl rfl rfl (S := fun _ => True) trivial (v_move rfl) ?_
                                              refine rl_nil (g_le (Fr.le_keep (Fr.le_keep (Fr.le_refl _))) ?_)
                                              exact g_le (by repeat (first | exact Fr.le_nil _ | refine Fr.le_cons rfl ?_)) (ih3 (m + 1) w ⟨by omega, by omega, hw.sub (by (repeat (first | with_reducible exact Sub.refl _ | exact Sub.nil _ | (apply Sub.cons; focus ((repeat (first | with_reducible exact Pick.here _ | apply Pick.there)); (first | done | fail))) | with_reducible apply Sub.drop)); first | done | fail)⟩ (by omega))
                                        · try with_reducible exact tf_elim g47_13
                                          all_goals
                                            try replace g47_13 := of_decide_eq_false g47_13
                                            try (first | (exfalso; omega))
                                            all_goals
                                              refine rl_off (met_off rfl rfl rfl rfl rfl) rfl rfl ?_
                                              refine rl_off (met_off rfl rfl rfl rfl rfl) rfl rfl ?_
                                              refine rl_off (met_off rfl rfl rfl rfl rfl) rfl rfl ?_
                                              refine rl_off (met_off rfl rfl rfl rfl rfl) rfl rfl ?_
                                              refine rl_off (met_off rfl rfl rfl rfl rfl) rfl rfl ?_
                                              first | (refine rl_v rfl rfl rfl (S := fun _ => True) trivial (v_pick_true rfl rfl) ?_) | (refine rl_v rfl rfl rfl (S := fun _ => True) trivial (v_pick_false rfl rfl) ?_) | (refine rl_v rfl rfl rfl (S := fun _ => True) trivial (v_pick rfl rfl rfl) ?_)
                                              refine rl_nil (g_le (Fr.le_keep (Fr.le_keep (Fr.le_keep (Fr.le_keep (Fr.le_keep (Fr.le_keep (Fr.le_keep (Fr.le_keep (Fr.le_keep (Fr.le_keep (Fr.le_keep (Fr.le_keep (Fr.le_keep (Fr.le_keep (Fr.le_keep (Fr.le_keep (Fr.le_keep (Fr.le_keep (Fr.le_keep (Fr.le_keep (Fr.le_keep (Fr.le_keep (Fr.le_keep (Fr.le_refl _)))))))))))))))))))))))) ?_)
                                              refine g_cond_false rfl ?_
                                              refine g_skip (g_inBlock ?_)
                                              refine g_region ?_
                                              first | (refine rl_v rfl rfl rfl (S := fun _ => True) trivial (v_add rfl rfl (by omega)) ?_) | (refine rl_v rfl rfl rfl (S := fun _ => True) trivial (v_addW rfl rfl) ?_)
                                              refine rl_v rfl rfl rfl (S := fun _ => True) trivial (v_move rfl) ?_
                                              refine rl_nil (g_le (Fr.le_keep (Fr.le_keep (Fr.le_refl _))) ?_)
                                              exact g_le (by repeat (first | exact Fr.le_nil _ | refine Fr.le_cons rfl ?_)) (ih3 (m + 1) w ⟨by omega, by omega, hw.sub (by (repeat (first | with_reducible exact Sub.refl _ | exact Sub.nil _ | (apply Sub.cons; focus ((repeat (first | with_reducible exact Pick.here _ | apply Pick.there)); (first | done | fail))) | with_reducible apply Sub.drop)); first | done | fail)⟩ (by omega))
                                  · try with_reducible exact tf_elim g47_8
                                    all_goals
                                      try replace g47_8 := of_decide_eq_false g47_8
                                      try (first | (exfalso; omega))
                                      all_goals
                                        refine rl_off (met_off rfl rfl rfl rfl rfl) rfl rfl ?_
                                        refine rl_off (met_off rfl rfl rfl rfl rfl) rfl rfl ?_
                                        refine rl_off (met_off rfl rfl rfl rfl rfl) rfl rfl ?_
                                        first | (refine rl_v rfl rfl rfl (S := fun _ => True) trivial (v_pick_true rfl rfl) ?_) | (refine rl_v rfl rfl rfl (S := fun _ => True) trivial (v_pick_false rfl rfl) ?_) | (refine rl_v rfl rfl rfl (S := fun _ => True) trivial (v_pick rfl rfl rfl) ?_)
                                        refine rl_v rfl rfl rfl (S := fun _ => True) trivial (v_move rfl) ?_
                                        refine rl_off (met_off rfl rfl rfl rfl rfl) rfl rfl ?_
                                        refine rl_off (met_off rfl rfl rfl rfl rfl) rfl rfl ?_
                                        refine rl_off (met_off rfl rfl rfl rfl rfl) rfl rfl ?_
                                        refine rl_off (met_off rfl rfl rfl rfl rfl) rfl rfl ?_
                                        refine rl_off (met_off rfl rfl rfl rfl rfl) rfl rfl ?_
                                        first | (refine rl_v rfl rfl rfl (S := fun _ => True) trivial (v_pick_true rfl rfl) ?_) | (refine rl_v rfl rfl rfl (S := fun _ => True) trivial (v_pick_false rfl rfl) ?_) | (refine rl_v rfl rfl rfl (S := fun _ => True) trivial (v_pick rfl rfl rfl) ?_)
                                        refine rl_nil (g_le (Fr.le_keep (Fr.le_keep (Fr.le_keep (Fr.le_keep (Fr.le_keep (Fr.le_keep (Fr.le_keep (Fr.le_keep (Fr.le_keep (Fr.le_keep (Fr.le_keep (Fr.le_keep (Fr.le_keep (Fr.le_keep (Fr.le_keep (Fr.le_keep (Fr.le_keep (Fr.le_keep (Fr.le_keep (Fr.le_keep (Fr.le_keep (Fr.le_keep (Fr.le_refl _))))))))))))))))))))))) ?_)
                                        refine g_cond_false rfl ?_
                                        refine g_skip (g_inBlock ?_)
                                        refine g_region ?_
                                        first | (refine rl_v rfl rfl rfl (S := fun _ => True) trivial (v_add rfl rfl (by omega)) ?_) | (refine rl_v rfl rfl rfl (S := fun _ => True) trivial (v_addW rfl rfl) ?_)
                                        refine rl_v rfl rfl rfl (S := fun _ => True) trivial (v_move rfl) ?_
                                        refine rl_nil (g_le (Fr.le_keep (Fr.le_keep (Fr.le_refl _))) ?_)
                                        exact g_le (by repeat (first | exact Fr.le_nil _ | refine Fr.le_cons rfl ?_)) (ih3 (m + 1) w ⟨by omega, by omega, hw.sub (by (repeat (first | with_reducible exact Sub.refl _ | exact Sub.nil _ | (apply Sub.cons; focus ((repeat (first | with_reducible exact Pick.here _ | apply Pick.there)); (first | done | fail))) | with_reducible apply Sub.drop)); first | done | fail)⟩ (by omega))
                            · try with_reducible exact tf_elim g47_3
                              all_goals
                                try replace g47_3 := of_decide_eq_false g47_3
                                try (first | (exfalso; omega))
                                all_goals
                                  refine rl_off (met_off rfl rfl rfl rfl rfl) rfl rfl ?_
                                  refine rl_off (met_off rfl rfl rfl rfl rfl) rfl rfl ?_
                                  refine rl_off (met_off rfl rfl rfl rfl rfl) rfl rfl ?_
                                  first | (refine rl_v rfl rfl rfl (S := fun _ => True) trivial (v_pick_true rfl rfl) ?_) | (refine rl_v rfl rfl rfl (S := fun _ => True) trivial (v_pick_false rfl rfl) ?_) | (refine rl_v rfl rfl rfl (S := fun _ => True) trivial (v_pick rfl rfl rfl) ?_)
                                  refine rl_v rfl rfl rfl (S := fun _ => True) trivial (v_move rfl) ?_
                                  refine rl_off (met_off rfl rfl rfl rfl rfl) rfl rfl ?_
                                  refine rl_off (met_off rfl rfl rfl rfl rfl) rfl rfl ?_
                                  refine rl_off (met_off rfl rfl rfl rfl rfl) rfl rfl ?_
                                  first | (refine rl_v rfl rfl rfl (S := fun _ => True) trivial (v_pick_true rfl rfl) ?_) | (refine rl_v rfl rfl rfl (S := fun _ => True) trivial (v_pick_false rfl rfl) ?_) | (refine rl_v rfl rfl rfl (S := fun _ => True) trivial (v_pick rfl rfl rfl) ?_)
                                  refine rl_v rfl rfl rfl (S := fun _ => True) trivial (v_move rfl) ?_
                                  refine rl_off (met_off rfl rfl rfl rfl rfl) rfl rfl ?_
                                  refine rl_off (met_off rfl rfl rfl rfl rfl) rfl rfl ?_
                                  refine rl_off (met_off rfl rfl rfl rfl rfl) rfl rfl ?_
                                  refine rl_off (met_off rfl rfl rfl rfl rfl) rfl rfl ?_
                                  refine rl_off (met_off rfl rfl rfl rfl rfl) rfl rfl ?_
                                  first | (refine rl_v rfl rfl rfl (S := fun _ => True) trivial (v_pick_true rfl rfl) ?_) | (refine rl_v rfl rfl rfl (S := fun _ => True) trivial (v_pick_false rfl rfl) ?_) | (refine rl_v rfl rfl rfl (S := fun _ => True) trivial (v_pick rfl rfl rfl) ?_)
                                  refine rl_nil (g_le (Fr.le_keep (Fr.le_keep (Fr.le_keep (Fr.le_keep (Fr.le_keep (Fr.le_keep (Fr.le_keep (Fr.le_keep (Fr.le_keep (Fr.le_keep (Fr.le_keep (Fr.le_keep (Fr.le_keep (Fr.le_keep (Fr.le_keep (Fr.le_keep (Fr.le_keep (Fr.le_keep (Fr.le_keep (Fr.le_keep (Fr.le_keep (Fr.le_refl _)))))))))))))))))))))) ?_)
                                  refine g_cond_false rfl ?_
                                  refine g_skip (g_inBlock ?_)
                                  refine g_region ?_
                                  first | (refine rl_v rfl rfl rfl (S := fun _ => True) trivial (v_add rfl rfl (by omega)) ?_) | (refine rl_v rfl rfl rfl (S := fun _ => True) trivial (v_addW rfl rfl) ?_)
                                  refine rl_v rfl rfl rfl (S := fun _ => True) trivial (v_move rfl) ?_
                                  refine rl_nil (g_le (Fr.le_keep (Fr.le_keep (Fr.le_refl _))) ?_)
                                  exact g_le (by repeat (first | exact Fr.le_nil _ | refine Fr.le_cons rfl ?_)) (ih3 (m + 1) w ⟨by omega, by omega, hw.sub (by (repeat (first | with_reducible exact Sub.refl _ | exact Sub.nil _ | (apply Sub.cons; focus ((repeat (first | with_reducible exact Pick.here _ | apply Pick.there)); (first | done | fail))) | with_reducible apply Sub.drop)); first | done | fail)⟩ (by omega))
                      · try with_reducible exact tf_elim h15
                        all_goals
                          try replace h15 := of_decide_eq_false h15
                          try (first | (exfalso; omega))
                          all_goals
                            refine g_exit rfl (g_inBlock ?_)
                            refine g_region ?_
                            first | (refine rl_v rfl rfl rfl (S := fun _ => True) trivial (v_add rfl rfl (by omega)) ?_) | (refine rl_v rfl rfl rfl (S := fun _ => True) trivial (v_addW rfl rfl) ?_)
                            refine rl_v rfl rfl rfl (S := fun _ => True) trivial (v_move rfl) ?_
                            refine rl_nil (g_le (Fr.le_keep (Fr.le_keep (Fr.le_refl _))) ?_)
                            exact g_le (by repeat (first | exact Fr.le_nil _ | refine Fr.le_cons rfl ?_)) (ih (i + 1, s2, g4, lv2, cells2, done ++ [ok], _) w ⟨by simp only; omega, by simp only; omega, kt, hgW.trans (kg.trans hg4), kels.mono mono_Hd hg4, by dsimp only; rw [show (i + 1).toNat = i.toNat + 1 by omega]; exact hw.sub (by (repeat (first | with_reducible exact Sub.refl _ | exact Sub.nil _ | (apply Sub.cons; focus ((repeat (first | with_reducible exact Pick.here _ | apply Pick.there)); (first | done | fail))) | with_reducible apply Sub.drop)); first | done | fail)⟩ (by simp only; omega))
            · intro joinb2
              refine g_block (g_seq ?_)
              refine g_region ?_
              first | (refine rl_v rfl rfl rfl (S := fun _ => True) trivial (v_eqlT rfl rfl (by first | omega | rfl)) ?_) | (refine rl_v rfl rfl rfl (S := fun _ => True) trivial (v_eqlF rfl rfl (by omega)) ?_) | (refine rl_v rfl rfl rfl (S := fun _ => True) trivial (v_eql rfl rfl) ?_)
              refine rl_v rfl rfl rfl (S := fun _ => True) trivial (v_assign rfl) ?_
              refine rl_nil (g_le (Fr.le_keep (Fr.le_keep (Fr.le_refl _))) ?_)
              refine g_cond rfl (fun h4 => ?_) (fun h4 => ?_)
              · try with_reducible exact ft_elim h4
                all_goals
                  try replace h4 := of_decide_eq_true h4
                  try (first | (exfalso; omega))
                  all_goals
                    refine g_seq ?_
                    refine g_region ?_
                    refine rl_v rfl rfl rfl (S := fun _ => True) trivial (v_move rfl) ?_
                    refine rl_v rfl rfl rfl (by first | exact sat_cells hw (by (repeat (first | with_reducible exact Pick.here _ | apply Pick.there)); first | done | fail) ⟨rfl, rfl, rfl, rfl, trivial⟩ | exact ro_ats hw (by (repeat (first | with_reducible exact Pick.here _ | apply Pick.there)); first | done | fail) (by assumption) | exact own_cells hw (by (repeat (first | with_reducible exact Pick.here _ | apply Pick.there)); first | done | fail) (by assumption) | exact old_cells hw (by (repeat (first | with_reducible exact Pick.here _ | apply Pick.there)); first | done | fail) (by assumption)) (v_loadAgg (vs := [_, _, _, _]) T.agg_34_4 rfl rfl) ?_
                    refine rl_k rfl (k_callf Try.func13 rfl rfl rfl rfl ?_)
                    obtain ⟨t1, t2⟩ := ht.get h4 (ofR x.r)
                    refine Calls.mono (cgetF_calls (ofR x.r) hels hb' (hw.sub (by (repeat (first | with_reducible exact Sub.refl _ | exact Sub.nil _ | (apply Sub.cons; focus ((repeat (first | with_reducible exact Pick.here _ | apply Pick.there)); (first | done | fail))) | with_reducible apply Sub.drop)); first | done | fail))) ?_
                    rintro _ w ⟨g2, lv2, cells2, ea, en, ec, ka, kn, kc, hg2, rfl, hnd1, hels2, hw⟩
                    refine ⟨_, rfl, ?_⟩
                    refine rl_v rfl rfl rfl (S := fun _ => True) trivial (v_move rfl) ?_
                    refine rl_v rfl rfl rfl (S := fun _ => True) trivial (v_extract rfl rfl) ?_
                    refine rl_v rfl rfl rfl (S := fun _ => True) trivial (v_extract rfl rfl) ?_
                    refine rl_k rfl (k_alloc hw T.zero_25 rfl rfl (fun bk20_6 w hw => ?_))
                    first | (refine rl_k rfl (k_storeWhole hw T.agg_25_3 rfl rfl (by simp [Value.oneCell']) rfl (by (repeat (first | with_reducible exact Pick.here _ | apply Pick.there)); first | done | fail) rfl (fun w hw => ?_))) | (refine rl_k rfl (k_storeAgg hw T.agg_25_3 rfl rfl (by simp [Value.oneCell']) rfl (by (repeat (first | with_reducible exact Pick.here _ | apply Pick.there)); first | done | fail) rfl rfl (fun w hw => ?_))) | (refine rl_k rfl (k_storeOwnAgg hw T.agg_25_3 rfl rfl (by simp [Value.oneCell']) rfl (by (repeat (first | with_reducible exact Pick.here _ | apply Pick.there)); first | done | fail) (by assumption) (by omega) (fun w hw => ?_)))
                    refine rl_v rfl rfl rfl (S := fun _ => True) trivial (v_assign rfl) ?_
                    refine rl_nil (g_le (Fr.le_keep (Fr.le_keep (Fr.le_keep (Fr.le_keep (Fr.le_keep (Fr.le_keep (Fr.le_keep (Fr.le_keep (Fr.le_refl _))))))))) ?_)
                    obtain ⟨gb2, hgb2⟩ : ∃ b, (s.get (ofR x.r)).2.1 = b := ⟨_, rfl⟩
                    rw [hgb2]
                    refine g_seq ?_
                    refine g_drawR ord_f6_r21_C15T (by kernel_rfl) T.mixed hw (fun w hw => ?_)
                    refine rs_a 0 rfl rfl rfl rfl (v_move rfl) ?_
                    refine rs_a 1 rfl rfl rfl rfl (v_move rfl) ?_
                    refine rs_a 2 rfl rfl rfl rfl (v_sliceTo T.sl_45_49_6 rfl rfl (by omega) (by omega)) ?_
                    refine rs_a 4 rfl rfl rfl rfl (v_move rfl) ?_
                    refine rs_v 3 rfl rfl rfl rfl (OpV.mono (v_loadAgg (vs := [_, _, _, _]) T.agg_34_4 rfl rfl) (fun w hw => by first | exact sat_cells hw (by (repeat (first | with_reducible exact Pick.here _ | apply Pick.there)); first | done | fail) ⟨rfl, rfl, rfl, rfl, trivial⟩ | exact ro_ats hw (by (repeat (first | with_reducible exact Pick.here _ | apply Pick.there)); first | done | fail) (by assumption) | exact own_cells hw (by (repeat (first | with_reducible exact Pick.here _ | apply Pick.there)); first | done | fail) (by assumption) | exact old_cells hw (by (repeat (first | with_reducible exact Pick.here _ | apply Pick.there)); first | done | fail) (by assumption))) (by first | exact hw | exact Sat.sub hw (by (repeat (first | with_reducible exact Sub.refl _ | exact Sub.nil _ | (apply Sub.cons; focus ((repeat (first | with_reducible exact Pick.here _ | apply Pick.there)); (first | done | fail))) | with_reducible apply Sub.drop)); first | done | fail)) ?_
                    refine rs_b2 5 9 rfl rfl rfl rfl ?_ ?_ 
                    · skip
                      refine (k_callf Try.func24 rfl rfl rfl rfl ?_)
                      obtain ⟨⟨ln, lb⟩, hlo⟩ : ∃ p, lastOf (xs.take i.toNat) done (ofR x.r) = p := ⟨_, rfl⟩
                      refine Calls.mono (last_calls (ofR x.r) (rdSl_take i.toNat (mono_sl mono_Op (hgW.trans hg2) hr) (by omega)) ht.eq htl.symm (hw.sub (by (repeat (first | with_reducible exact Sub.refl _ | exact Sub.nil _ | (apply Sub.cons; focus ((repeat (first | with_reducible exact Pick.here _ | apply Pick.there)); (first | done | fail))) | with_reducible apply Sub.drop)); first | done | fail))) ?_
                      rw [hlo]
                      rintro _ w ⟨ea2, en2, ec2, ka2, kn2, kc2, rfl, hnd2, hw⟩
                      refine ⟨_, rfl, ?_⟩
                      refine ⟨fun hn => absurd (by decide) hn, ?_⟩
                      refine rs_a 6 rfl rfl rfl rfl (v_move rfl) ?_
                      refine rs_a 7 rfl rfl rfl rfl (v_extract rfl rfl) ?_
                      refine rs_a 8 rfl rfl rfl rfl (v_extract rfl rfl) ?_
                      refine rs_k 9 rfl rfl (k_alloc hw T.zero_25 rfl rfl (fun bk21_9 w hw => ?_))
                      refine ⟨fun _ => (by first | exact hw | exact Sat.sub hw (by (repeat (first | with_reducible exact Sub.refl _ | exact Sub.nil _ | (apply Sub.cons; focus ((repeat (first | with_reducible exact Pick.here _ | apply Pick.there)); (first | done | fail))) | with_reducible apply Sub.drop)); first | done | fail) | exact Sat.sub (Sat.shrink (Sat.pick hw (by (repeat (first | with_reducible exact Pick.here _ | apply Pick.there)); first | done | fail)) (by assumption)) (by (repeat (first | with_reducible exact Sub.refl _ | exact Sub.nil _ | (apply Sub.cons; focus ((repeat (first | with_reducible exact Pick.here _ | apply Pick.there)); (first | done | fail))) | with_reducible apply Sub.drop)); first | done | fail)), ?_⟩
                      first | (refine rs_k 10 rfl rfl (k_storeWhole hw T.agg_25_3 rfl rfl (by simp [Value.oneCell']) rfl (by (repeat (first | with_reducible exact Pick.here _ | apply Pick.there)); first | done | fail) rfl (fun w hw => ?_))) | (refine rs_k 10 rfl rfl (k_storeAgg hw T.agg_25_3 rfl rfl (by simp [Value.oneCell']) rfl (by (repeat (first | with_reducible exact Pick.here _ | apply Pick.there)); first | done | fail) rfl rfl (fun w hw => ?_))) | (refine rs_k 10 rfl rfl (k_storeOwnAgg hw T.agg_25_3 rfl rfl (by simp [Value.oneCell']) rfl (by (repeat (first | with_reducible exact Pick.here _ | apply Pick.there)); first | done | fail) (by assumption) (by omega) (fun w hw => ?_)))
                      refine ⟨fun hn => absurd (by decide) hn, ?_⟩
                      refine rs_kv 11 rfl rfl rfl rfl (S' := fun _ => True) trivial (v_assign rfl) ?_
                      refine rs_done (g_le (Fr.le_keep (Fr.le_keep (Fr.le_keep (Fr.le_keep (Fr.le_keep (Fr.le_keep (Fr.le_keep (Fr.le_keep (Fr.le_keep (Fr.le_keep (Fr.le_keep (Fr.le_refl _)))))))))))) ?_)
                      refine g_seq ?_
                      refine g_region ?_
                      refine rl_v rfl rfl rfl (S := fun _ => True) trivial (v_move rfl) ?_
                      refine rl_v rfl rfl rfl (S := fun _ => True) trivial (v_move rfl) ?_
                      refine rl_split (s := 102) rfl (fun g22_1 => ?_) (fun g22_1 => ?_)
                      · try with_reducible exact ft_elim g22_1
                        all_goals
                          try replace g22_1 := of_decide_eq_true g22_1
                          obtain ⟨y, hy, hyr, hyn⟩ := get_some (hgb2.trans g22_1)
                          have he := hlo.symm.trans (hyr ▸ (ht.tell y hy).1)
                          simp only [Prod.mk.injEq] at he
                          obtain ⟨rfl, rfl⟩ := he
                          try (first | (exfalso; omega))
                          all_goals
                            refine rl_vg (met_on rfl rfl rfl rfl) rfl rfl (S := fun _ => True) trivial (v_move rfl) ?_
                            refine rl_vg (met_on rfl rfl rfl rfl) rfl rfl (S := fun _ => True) trivial (v_not rfl) ?_
                            refine rl_vg (met_on rfl rfl rfl rfl) rfl rfl (S := fun _ => True) trivial (v_move rfl) ?_
                            refine rl_split (s := 105) rfl (fun g22_4 => ?_) (fun g22_4 => ?_)
                            · try with_reducible exact ft_elim g22_4
                              all_goals
                                try replace g22_4 := of_decide_eq_true g22_4
                                simp at g22_4
                            · try with_reducible exact tf_elim g22_4
                              all_goals
                                try replace g22_4 := of_decide_eq_false g22_4
                                try (first | (exfalso; omega))
                                all_goals
                                  refine rl_vg (met_on rfl rfl rfl rfl) rfl rfl (by first | exact sat_cells hw (by (repeat (first | with_reducible exact Pick.here _ | apply Pick.there)); first | done | fail) ⟨rfl, rfl, rfl, trivial⟩ | exact ro_ats hw (by (repeat (first | with_reducible exact Pick.here _ | apply Pick.there)); first | done | fail) (by assumption) | exact own_cells hw (by (repeat (first | with_reducible exact Pick.here _ | apply Pick.there)); first | done | fail) (by assumption) | exact old_cells hw (by (repeat (first | with_reducible exact Pick.here _ | apply Pick.there)); first | done | fail) (by assumption)) (v_loadAgg (vs := [_, _, _]) T.agg_25_3 rfl rfl) ?_
                                  refine rl_vg (met_on rfl rfl rfl rfl) rfl rfl (by first | exact sat_cells hw (by (repeat (first | with_reducible exact Pick.here _ | apply Pick.there)); first | done | fail) ⟨rfl, rfl, rfl, trivial⟩ | exact ro_ats hw (by (repeat (first | with_reducible exact Pick.here _ | apply Pick.there)); first | done | fail) (by assumption) | exact own_cells hw (by (repeat (first | with_reducible exact Pick.here _ | apply Pick.there)); first | done | fail) (by assumption) | exact old_cells hw (by (repeat (first | with_reducible exact Pick.here _ | apply Pick.there)); first | done | fail) (by assumption)) (v_loadAgg (vs := [_, _, _]) T.agg_25_3 rfl rfl) ?_
                                  refine rl_kg (met_on rfl rfl rfl rfl) (k_callf Try.func15 rfl rfl rfl rfl ?_)
                                  refine Calls.mono (likeNd_calls hnd1 hnd2 (hw.pick (by (repeat (first | with_reducible exact Pick.here _ | apply Pick.there)); first | done | fail))) ?_
                                  rw [decide_eq_true hyn.symm]
                                  rintro _ w ⟨rfl, hw⟩
                                  refine ⟨_, rfl, ?_⟩
                                  refine rl_vg (met_on rfl rfl rfl rfl) rfl rfl (S := fun _ => True) trivial (v_not rfl) ?_
                                  first | (refine rl_vg (met_on rfl rfl rfl rfl) rfl rfl (S := fun _ => True) trivial (v_pick_true rfl rfl) ?_) | (refine rl_vg (met_on rfl rfl rfl rfl) rfl rfl (S := fun _ => True) trivial (v_pick_false rfl rfl) ?_) | (refine rl_vg (met_on rfl rfl rfl rfl) rfl rfl (S := fun _ => True) trivial (v_pick rfl rfl rfl) ?_)
                                  first | (refine rl_v rfl rfl rfl (S := fun _ => True) trivial (v_pick_true rfl rfl) ?_) | (refine rl_v rfl rfl rfl (S := fun _ => True) trivial (v_pick_false rfl rfl) ?_) | (refine rl_v rfl rfl rfl (S := fun _ => True) trivial (v_pick rfl rfl rfl) ?_)
                                  refine rl_nil (g_le (Fr.le_keep (Fr.le_keep (Fr.le_keep (Fr.le_keep (Fr.le_keep (Fr.le_keep (Fr.le_keep (Fr.le_keep (Fr.le_keep (Fr.le_keep (Fr.le_keep (Fr.le_keep (Fr.le_keep (Fr.le_refl _)))))))))))))) ?_)
                                  refine g_cond_false rfl ?_
                                  refine g_skip (g_inBlock ?_)
                                  rw [htk] at joinb2
                                  first | exact joinb2 ((s.get (ofR x.r)).2.2, g2, lv2, cells2, true) w _ (by repeat (first | exact Fr.le_nil _ | refine Fr.le_cons rfl ?_)) ⟨t1, t2, hg2, hels2, hw.sub (by (repeat (first | with_reducible exact Sub.refl _ | exact Sub.nil _ | (apply Sub.cons; focus ((repeat (first | with_reducible exact Pick.here _ | apply Pick.there)); (first | done | fail))) | with_reducible apply Sub.drop)); first | done | fail)⟩ | exact joinb2 ((s2.get (ofR x.r)).2.2, g3, lv3, cells3, _) w _ (by repeat (first | exact Fr.le_nil _ | refine Fr.le_cons rfl ?_)) ⟨t1.perm hpm hgf.2, t2.perm hpm, hg2.trans hg3, hels3, hw.sub (by (repeat (first | with_reducible exact Sub.refl _ | exact Sub.nil _ | (apply Sub.cons; focus ((repeat (first | with_reducible exact Pick.here _ | apply Pick.there)); (first | done | fail))) | with_reducible apply Sub.drop)); first | done | fail)⟩
                      · try with_reducible exact tf_elim g22_1
                        all_goals
                          try replace g22_1 := of_decide_eq_false g22_1
                          try (first | (exfalso; omega))
                          all_goals
                            refine rl_off (met_off rfl rfl rfl rfl rfl) rfl rfl ?_
                            refine rl_off (met_off rfl rfl rfl rfl rfl) rfl rfl ?_
                            refine rl_off (met_off rfl rfl rfl rfl rfl) rfl rfl ?_
                            refine rl_off (met_gone rfl rfl rfl rfl) rfl rfl ?_
                            refine rl_off (met_gone rfl rfl rfl rfl) rfl rfl ?_
                            refine rl_off (met_gone rfl rfl rfl rfl) rfl rfl ?_
                            refine rl_off (met_gone rfl rfl rfl rfl) rfl rfl ?_
                            refine rl_off (met_off rfl rfl rfl rfl rfl) rfl rfl ?_
                            first | (refine rl_v rfl rfl rfl (S := fun _ => True) trivial (v_pick_true rfl rfl) ?_) | (refine rl_v rfl rfl rfl (S := fun _ => True) trivial (v_pick_false rfl rfl) ?_) | (refine rl_v rfl rfl rfl (S := fun _ => True) trivial (v_pick rfl rfl rfl) ?_)
                            refine rl_nil (g_le (Fr.le_keep (Fr.le_keep (Fr.le_keep (Fr.le_keep (Fr.le_keep (Fr.le_keep (Fr.le_keep (Fr.le_keep (Fr.le_keep (Fr.le_keep (Fr.le_keep (Fr.le_keep (Fr.le_refl _))))))))))))) ?_)
                            refine g_cond_false rfl ?_
                            refine g_skip (g_inBlock ?_)
                            rw [htk] at joinb2
                            first | exact joinb2 ((s.get (ofR x.r)).2.2, g2, lv2, cells2, true) w _ (by repeat (first | exact Fr.le_nil _ | refine Fr.le_cons rfl ?_)) ⟨t1, t2, hg2, hels2, hw.sub (by (repeat (first | with_reducible exact Sub.refl _ | exact Sub.nil _ | (apply Sub.cons; focus ((repeat (first | with_reducible exact Pick.here _ | apply Pick.there)); (first | done | fail))) | with_reducible apply Sub.drop)); first | done | fail)⟩ | exact joinb2 ((s2.get (ofR x.r)).2.2, g3, lv3, cells3, _) w _ (by repeat (first | exact Fr.le_nil _ | refine Fr.le_cons rfl ?_)) ⟨t1.perm hpm hgf.2, t2.perm hpm, hg2.trans hg3, hels3, hw.sub (by (repeat (first | with_reducible exact Sub.refl _ | exact Sub.nil _ | (apply Sub.cons; focus ((repeat (first | with_reducible exact Pick.here _ | apply Pick.there)); (first | done | fail))) | with_reducible apply Sub.drop)); first | done | fail)⟩
                    · skip
                      refine (k_alloc hw T.zero_25 rfl rfl (fun bk21_9 w hw => ?_))
                      refine ⟨fun _ => (by first | exact hw | exact Sat.sub hw (by (repeat (first | with_reducible exact Sub.refl _ | exact Sub.nil _ | (apply Sub.cons; focus ((repeat (first | with_reducible exact Pick.here _ | apply Pick.there)); (first | done | fail))) | with_reducible apply Sub.drop)); first | done | fail) | exact Sat.sub (Sat.shrink (Sat.pick hw (by (repeat (first | with_reducible exact Pick.here _ | apply Pick.there)); first | done | fail)) (by assumption)) (by (repeat (first | with_reducible exact Sub.refl _ | exact Sub.nil _ | (apply Sub.cons; focus ((repeat (first | with_reducible exact Pick.here _ | apply Pick.there)); (first | done | fail))) | with_reducible apply Sub.drop)); first | done | fail)), ?_⟩
                      refine rs_k 5 rfl rfl (k_callf Try.func24 rfl rfl rfl rfl ?_)
                      obtain ⟨⟨ln, lb⟩, hlo⟩ : ∃ p, lastOf (xs.take i.toNat) done (ofR x.r) = p := ⟨_, rfl⟩
                      refine Calls.mono (last_calls (ofR x.r) (rdSl_take i.toNat (mono_sl mono_Op (hgW.trans hg2) hr) (by omega)) ht.eq htl.symm (hw.sub (by (repeat (first | with_reducible exact Sub.refl _ | exact Sub.nil _ | (apply Sub.cons; focus ((repeat (first | with_reducible exact Pick.here _ | apply Pick.there)); (first | done | fail))) | with_reducible apply Sub.drop)); first | done | fail))) ?_
                      rw [hlo]
                      rintro _ w ⟨ea2, en2, ec2, ka2, kn2, kc2, rfl, hnd2, hw⟩
                      refine ⟨_, rfl, ?_⟩
                      refine ⟨fun hn => absurd (by decide) hn, ?_⟩
                      refine rs_kv 6 rfl rfl rfl rfl (S' := fun _ => True) trivial (v_move rfl) ?_
                      refine rs_a 7 rfl rfl rfl rfl (v_extract rfl rfl) ?_
                      refine rs_a 8 rfl rfl rfl rfl (v_extract rfl rfl) ?_
                      first | (refine rs_k 10 rfl rfl (k_storeWhole hw T.agg_25_3 rfl rfl (by simp [Value.oneCell']) rfl (by (repeat (first | with_reducible exact Pick.here _ | apply Pick.there)); first | done | fail) rfl (fun w hw => ?_))) | (refine rs_k 10 rfl rfl (k_storeAgg hw T.agg_25_3 rfl rfl (by simp [Value.oneCell']) rfl (by (repeat (first | with_reducible exact Pick.here _ | apply Pick.there)); first | done | fail) rfl rfl (fun w hw => ?_))) | (refine rs_k 10 rfl rfl (k_storeOwnAgg hw T.agg_25_3 rfl rfl (by simp [Value.oneCell']) rfl (by (repeat (first | with_reducible exact Pick.here _ | apply Pick.there)); first | done | fail) (by assumption) (by omega) (fun w hw => ?_)))
                      refine ⟨fun hn => absurd (by decide) hn, ?_⟩
                      refine rs_kv 11 rfl rfl rfl rfl (S' := fun _ => True) trivial (v_assign rfl) ?_
                      refine rs_done (g_le (Fr.le_keep (Fr.le_keep (Fr.le_keep (Fr.le_keep (Fr.le_keep (Fr.le_keep (Fr.le_keep (Fr.le_keep (Fr.le_keep (Fr.le_keep (Fr.le_keep (Fr.le_refl _)))))))))))) ?_)
                      refine g_seq ?_
                      refine g_region ?_
                      refine rl_v rfl rfl rfl (S := fun _ => True) trivial (v_move rfl) ?_
                      refine rl_v rfl rfl rfl (S := fun _ => True) trivial (v_move rfl) ?_
                      refine rl_split (s := 102) rfl (fun g22_1 => ?_) (fun g22_1 => ?_)
                      · try with_reducible exact ft_elim g22_1
                        all_goals
                          try replace g22_1 := of_decide_eq_true g22_1
                          obtain ⟨y, hy, hyr, hyn⟩ := get_some (hgb2.trans g22_1)
                          have he := hlo.symm.trans (hyr ▸ (ht.tell y hy).1)
                          simp only [Prod.mk.injEq] at he
                          obtain ⟨rfl, rfl⟩ := he
                          try (first | (exfalso; omega))
                          all_goals
                            refine rl_vg (met_on rfl rfl rfl rfl) rfl rfl (S := fun _ => True) trivial (v_move rfl) ?_
                            refine rl_vg (met_on rfl rfl rfl rfl) rfl rfl (S := fun _ => True) trivial (v_not rfl) ?_
                            refine rl_vg (met_on rfl rfl rfl rfl) rfl rfl (S := fun _ => True) trivial (v_move rfl) ?_
                            refine rl_split (s := 105) rfl (fun g22_4 => ?_) (fun g22_4 => ?_)
                            · try with_reducible exact ft_elim g22_4
                              all_goals
                                try replace g22_4 := of_decide_eq_true g22_4
                                simp at g22_4
                            · try with_reducible exact tf_elim g22_4
                              all_goals
                                try replace g22_4 := of_decide_eq_false g22_4
                                try (first | (exfalso; omega))
                                all_goals
                                  refine rl_vg (met_on rfl rfl rfl rfl) rfl rfl (by first | exact sat_cells hw (by (repeat (first | with_reducible exact Pick.here _ | apply Pick.there)); first | done | fail) ⟨rfl, rfl, rfl, trivial⟩ | exact ro_ats hw (by (repeat (first | with_reducible exact Pick.here _ | apply Pick.there)); first | done | fail) (by assumption) | exact own_cells hw (by (repeat (first | with_reducible exact Pick.here _ | apply Pick.there)); first | done | fail) (by assumption) | exact old_cells hw (by (repeat (first | with_reducible exact Pick.here _ | apply Pick.there)); first | done | fail) (by assumption)) (v_loadAgg (vs := [_, _, _]) T.agg_25_3 rfl rfl) ?_
                                  refine rl_vg (met_on rfl rfl rfl rfl) rfl rfl (by first | exact sat_cells hw (by (repeat (first | with_reducible exact Pick.here _ | apply Pick.there)); first | done | fail) ⟨rfl, rfl, rfl, trivial⟩ | exact ro_ats hw (by (repeat (first | with_reducible exact Pick.here _ | apply Pick.there)); first | done | fail) (by assumption) | exact own_cells hw (by (repeat (first | with_reducible exact Pick.here _ | apply Pick.there)); first | done | fail) (by assumption) | exact old_cells hw (by (repeat (first | with_reducible exact Pick.here _ | apply Pick.there)); first | done | fail) (by assumption)) (v_loadAgg (vs := [_, _, _]) T.agg_25_3 rfl rfl) ?_
                                  refine rl_kg (met_on rfl rfl rfl rfl) (k_callf Try.func15 rfl rfl rfl rfl ?_)
                                  refine Calls.mono (likeNd_calls hnd1 hnd2 (hw.pick (by (repeat (first | with_reducible exact Pick.here _ | apply Pick.there)); first | done | fail))) ?_
                                  rw [decide_eq_true hyn.symm]
                                  rintro _ w ⟨rfl, hw⟩
                                  refine ⟨_, rfl, ?_⟩
                                  refine rl_vg (met_on rfl rfl rfl rfl) rfl rfl (S := fun _ => True) trivial (v_not rfl) ?_
                                  first | (refine rl_vg (met_on rfl rfl rfl rfl) rfl rfl (S := fun _ => True) trivial (v_pick_true rfl rfl) ?_) | (refine rl_vg (met_on rfl rfl rfl rfl) rfl rfl (S := fun _ => True) trivial (v_pick_false rfl rfl) ?_) | (refine rl_vg (met_on rfl rfl rfl rfl) rfl rfl (S := fun _ => True) trivial (v_pick rfl rfl rfl) ?_)
                                  first | (refine rl_v rfl rfl rfl (S := fun _ => True) trivial (v_pick_true rfl rfl) ?_) | (refine rl_v rfl rfl rfl (S := fun _ => True) trivial (v_pick_false rfl rfl) ?_) | (refine rl_v rfl rfl rfl (S := fun _ => True) trivial (v_pick rfl rfl rfl) ?_)
                                  refine rl_nil (g_le (Fr.le_keep (Fr.le_keep (Fr.le_keep (Fr.le_keep (Fr.le_keep (Fr.le_keep (Fr.le_keep (Fr.le_keep (Fr.le_keep (Fr.le_keep (Fr.le_keep (Fr.le_keep (Fr.le_keep (Fr.le_refl _)))))))))))))) ?_)
                                  refine g_cond_false rfl ?_
                                  refine g_skip (g_inBlock ?_)
                                  rw [htk] at joinb2
                                  first | exact joinb2 ((s.get (ofR x.r)).2.2, g2, lv2, cells2, true) w _ (by repeat (first | exact Fr.le_nil _ | refine Fr.le_cons rfl ?_)) ⟨t1, t2, hg2, hels2, hw.sub (by (repeat (first | with_reducible exact Sub.refl _ | exact Sub.nil _ | (apply Sub.cons; focus ((repeat (first | with_reducible exact Pick.here _ | apply Pick.there)); (first | done | fail))) | with_reducible apply Sub.drop)); first | done | fail)⟩ | exact joinb2 ((s2.get (ofR x.r)).2.2, g3, lv3, cells3, _) w _ (by repeat (first | exact Fr.le_nil _ | refine Fr.le_cons rfl ?_)) ⟨t1.perm hpm hgf.2, t2.perm hpm, hg2.trans hg3, hels3, hw.sub (by (repeat (first | with_reducible exact Sub.refl _ | exact Sub.nil _ | (apply Sub.cons; focus ((repeat (first | with_reducible exact Pick.here _ | apply Pick.there)); (first | done | fail))) | with_reducible apply Sub.drop)); first | done | fail)⟩
                      · try with_reducible exact tf_elim g22_1
                        all_goals
                          try replace g22_1 := of_decide_eq_false g22_1
                          try (first | (exfalso; omega))
                          all_goals
                            refine rl_off (met_off rfl rfl rfl rfl rfl) rfl rfl ?_
                            refine rl_off (met_off rfl rfl rfl rfl rfl) rfl rfl ?_
                            refine rl_off (met_off rfl rfl rfl rfl rfl) rfl rfl ?_
                            refine rl_off (met_gone rfl rfl rfl rfl) rfl rfl ?_
                            refine rl_off (met_gone rfl rfl rfl rfl) rfl rfl ?_
                            refine rl_off (met_gone rfl rfl rfl rfl) rfl rfl ?_
                            refine rl_off (met_gone rfl rfl rfl rfl) rfl rfl ?_
                            refine rl_off (met_off rfl rfl rfl rfl rfl) rfl rfl ?_
                            first | (refine rl_v rfl rfl rfl (S := fun _ => True) trivial (v_pick_true rfl rfl) ?_) | (refine rl_v rfl rfl rfl (S := fun _ => True) trivial (v_pick_false rfl rfl) ?_) | (refine rl_v rfl rfl rfl (S := fun _ => True) trivial (v_pick rfl rfl rfl) ?_)
                            refine rl_nil (g_le (Fr.le_keep (Fr.le_keep (Fr.le_keep (Fr.le_keep (Fr.le_keep (Fr.le_keep (Fr.le_keep (Fr.le_keep (Fr.le_keep (Fr.le_keep (Fr.le_keep (Fr.le_keep (Fr.le_refl _))))))))))))) ?_)
                            refine g_cond_false rfl ?_
                            refine g_skip (g_inBlock ?_)
                            rw [htk] at joinb2
                            first | exact joinb2 ((s.get (ofR x.r)).2.2, g2, lv2, cells2, true) w _ (by repeat (first | exact Fr.le_nil _ | refine Fr.le_cons rfl ?_)) ⟨t1, t2, hg2, hels2, hw.sub (by (repeat (first | with_reducible exact Sub.refl _ | exact Sub.nil _ | (apply Sub.cons; focus ((repeat (first | with_reducible exact Pick.here _ | apply Pick.there)); (first | done | fail))) | with_reducible apply Sub.drop)); first | done | fail)⟩ | exact joinb2 ((s2.get (ofR x.r)).2.2, g3, lv3, cells3, _) w _ (by repeat (first | exact Fr.le_nil _ | refine Fr.le_cons rfl ?_)) ⟨t1.perm hpm hgf.2, t2.perm hpm, hg2.trans hg3, hels3, hw.sub (by (repeat (first | with_reducible exact Sub.refl _ | exact Sub.nil _ | (apply Sub.cons; focus ((repeat (first | with_reducible exact Pick.here _ | apply Pick.there)); (first | done | fail))) | with_reducible apply Sub.drop)); first | done | fail)⟩
              · try with_reducible exact tf_elim h4
                all_goals
                  try replace h4 := of_decide_eq_false h4
                  try (first | (exfalso; omega))
                  all_goals
                    refine g_seq ?_
                    refine g_region ?_
                    first | (refine rl_v rfl rfl rfl (S := fun _ => True) trivial (v_eqlT rfl rfl (by first | omega | rfl)) ?_) | (refine rl_v rfl rfl rfl (S := fun _ => True) trivial (v_eqlF rfl rfl (by omega)) ?_) | (refine rl_v rfl rfl rfl (S := fun _ => True) trivial (v_eql rfl rfl) ?_)
                    refine rl_v rfl rfl rfl (S := fun _ => True) trivial (v_assign rfl) ?_
                    refine rl_nil (g_le (Fr.le_keep (Fr.le_keep (Fr.le_refl _))) ?_)
                    refine g_cond rfl (fun h6 => ?_) (fun h6 => ?_)
                    · try with_reducible exact ft_elim h6
                      all_goals
                        try replace h6 := of_decide_eq_true h6
                        try (first | (exfalso; omega))
                        all_goals
                          refine g_region ?_
                          refine rl_v rfl rfl rfl (S := fun _ => True) trivial (v_move rfl) ?_
                          refine rl_v rfl rfl rfl (by first | exact sat_cells hw (by (repeat (first | with_reducible exact Pick.here _ | apply Pick.there)); first | done | fail) ⟨rfl, rfl, rfl, rfl, trivial⟩ | exact ro_ats hw (by (repeat (first | with_reducible exact Pick.here _ | apply Pick.there)); first | done | fail) (by assumption) | exact own_cells hw (by (repeat (first | with_reducible exact Pick.here _ | apply Pick.there)); first | done | fail) (by assumption) | exact old_cells hw (by (repeat (first | with_reducible exact Pick.here _ | apply Pick.there)); first | done | fail) (by assumption)) (v_loadAgg (vs := [_, _, _, _]) T.agg_34_4 rfl rfl) ?_
                          refine rl_k rfl (k_callf Try.func17 rfl rfl rfl rfl ?_)
                          obtain ⟨t1, t2⟩ := ht.pin h6 (ofR x.r) (by omega)
                          refine Calls.mono (cpin_calls (ofR x.r) hels hb' (hw.sub (by (repeat (first | with_reducible exact Sub.refl _ | exact Sub.nil _ | (apply Sub.cons; focus ((repeat (first | with_reducible exact Pick.here _ | apply Pick.there)); (first | done | fail))) | with_reducible apply Sub.drop)); first | done | fail))) ?_
                          rintro _ w ⟨cells2, rfl, hels2, hw⟩
                          refine ⟨_, rfl, ?_⟩
                          refine rl_nil (g_le (Fr.le_skip rfl (Fr.le_keep (Fr.le_keep (Fr.le_refl _)))) ?_)
                          refine g_inBlock ?_
                          rw [htk] at joinb2
                          exact joinb2 ((s.pin (ofR x.r)).2, gb, lv, cells2, true) w _ (by repeat (first | exact Fr.le_nil _ | refine Fr.le_cons rfl ?_)) ⟨t1, t2, Hp.le_refl _, hels2, hw.sub (by (repeat (first | with_reducible exact Sub.refl _ | exact Sub.nil _ | (apply Sub.cons; focus ((repeat (first | with_reducible exact Pick.here _ | apply Pick.there)); (first | done | fail))) | with_reducible apply Sub.drop)); first | done | fail)⟩
                    · try with_reducible exact tf_elim h6
                      all_goals
                        try replace h6 := of_decide_eq_false h6
                        try (first | (exfalso; omega))
                        all_goals
                          refine g_seq ?_
                          refine g_region ?_
                          first | (refine rl_v rfl rfl rfl (S := fun _ => True) trivial (v_eqlT rfl rfl (by first | omega | rfl)) ?_) | (refine rl_v rfl rfl rfl (S := fun _ => True) trivial (v_eqlF rfl rfl (by omega)) ?_) | (refine rl_v rfl rfl rfl (S := fun _ => True) trivial (v_eql rfl rfl) ?_)
                          refine rl_v rfl rfl rfl (S := fun _ => True) trivial (v_assign rfl) ?_
                          refine rl_nil (g_le (Fr.le_keep (Fr.le_keep (Fr.le_refl _))) ?_)
                          refine g_cond rfl (fun h7 => ?_) (fun h7 => ?_)
                          · try with_reducible exact ft_elim h7
                            all_goals
                              try replace h7 := of_decide_eq_true h7
                              try (first | (exfalso; omega))
                              all_goals
                                refine g_region ?_
                                refine rl_v rfl rfl rfl (S := fun _ => True) trivial (v_move rfl) ?_
                                refine rl_v rfl rfl rfl (by first | exact sat_cells hw (by (repeat (first | with_reducible exact Pick.here _ | apply Pick.there)); first | done | fail) ⟨rfl, rfl, rfl, rfl, trivial⟩ | exact ro_ats hw (by (repeat (first | with_reducible exact Pick.here _ | apply Pick.there)); first | done | fail) (by assumption) | exact own_cells hw (by (repeat (first | with_reducible exact Pick.here _ | apply Pick.there)); first | done | fail) (by assumption) | exact old_cells hw (by (repeat (first | with_reducible exact Pick.here _ | apply Pick.there)); first | done | fail) (by assumption)) (v_loadAgg (vs := [_, _, _, _]) T.agg_34_4 rfl rfl) ?_
                                refine rl_k rfl (k_callf Try.func25 rfl rfl rfl rfl ?_)
                                obtain ⟨t1, t2⟩ := ht.unpin h7 (ofR x.r) (by omega)
                                refine Calls.mono (cunpin_calls (ofR x.r) hels hb' (hw.sub (by (repeat (first | with_reducible exact Sub.refl _ | exact Sub.nil _ | (apply Sub.cons; focus ((repeat (first | with_reducible exact Pick.here _ | apply Pick.there)); (first | done | fail))) | with_reducible apply Sub.drop)); first | done | fail))) ?_
                                rintro _ w ⟨cells2, rfl, hels2, hw⟩
                                refine ⟨_, rfl, ?_⟩
                                refine rl_nil (g_le (Fr.le_skip rfl (Fr.le_keep (Fr.le_keep (Fr.le_refl _)))) ?_)
                                refine g_inBlock ?_
                                rw [htk] at joinb2
                                exact joinb2 ((s.unpin (ofR x.r)).2, gb, lv, cells2, true) w _ (by repeat (first | exact Fr.le_nil _ | refine Fr.le_cons rfl ?_)) ⟨t1, t2, Hp.le_refl _, hels2, hw.sub (by (repeat (first | with_reducible exact Sub.refl _ | exact Sub.nil _ | (apply Sub.cons; focus ((repeat (first | with_reducible exact Pick.here _ | apply Pick.there)); (first | done | fail))) | with_reducible apply Sub.drop)); first | done | fail)⟩
                          · try with_reducible exact tf_elim h7
                            all_goals
                              try replace h7 := of_decide_eq_false h7
                              try (first | (exfalso; omega))
                              all_goals
                                refine g_seq ?_
                                refine g_region ?_
                                first | (refine rl_v rfl rfl rfl (S := fun _ => True) trivial (v_eqlT rfl rfl (by first | omega | rfl)) ?_) | (refine rl_v rfl rfl rfl (S := fun _ => True) trivial (v_eqlF rfl rfl (by omega)) ?_) | (refine rl_v rfl rfl rfl (S := fun _ => True) trivial (v_eql rfl rfl) ?_)
                                refine rl_v rfl rfl rfl (S := fun _ => True) trivial (v_assign rfl) ?_
                                refine rl_nil (g_le (Fr.le_keep (Fr.le_keep (Fr.le_refl _))) ?_)
                                refine g_cond rfl (fun h8 => ?_) (fun h8 => ?_)
                                · try with_reducible exact ft_elim h8
                                  all_goals
                                    try replace h8 := of_decide_eq_true h8
                                    try (first | (exfalso; omega))
                                    all_goals
                                      refine g_region ?_
                                      refine rl_v rfl rfl rfl (S := fun _ => True) trivial (v_move rfl) ?_
                                      first | (refine rl_v rfl rfl rfl (S := fun _ => True) trivial (v_fieldAddr0 T.fld_49_3_5 rfl) ?_) | (refine rl_v rfl rfl rfl (S := fun _ => True) trivial (v_fieldAddr T.fld_49_3_5 rfl) ?_)
                                      refine rl_v rfl rfl rfl (by first | exact sat_cell hw (by (repeat (first | with_reducible exact Pick.here _ | apply Pick.there)); first | done | fail) rfl | exact own_cell hw (by (repeat (first | with_reducible exact Pick.here _ | apply Pick.there)); first | done | fail) (by first | rfl | assumption) | exact ro_at0 hw (by (repeat (first | with_reducible exact Pick.here _ | apply Pick.there)); first | done | fail) (by assumption) rfl | exact ro_at hw (by (repeat (first | with_reducible exact Pick.here _ | apply Pick.there)); first | done | fail) (by assumption) rfl | exact own_at0 hw (by (repeat (first | with_reducible exact Pick.here _ | apply Pick.there)); first | done | fail) (by assumption) rfl | exact own_at hw (by (repeat (first | with_reducible exact Pick.here _ | apply Pick.there)); first | done | fail) (by assumption) rfl | exact old_cell hw (by (repeat (first | with_reducible exact Pick.here _ | apply Pick.there)); first | done | fail) (by assumption) | assumption) (v_load T.scal_46 rfl) ?_
                                      refine rl_k rfl (k_callf Try.func20 rfl rfl rfl rfl ?_)
                                      obtain ⟨t1, t2⟩ := ht.drop h8
                                      refine Calls.mono (refs_calls hrf (hw.sub (by (repeat (first | with_reducible exact Sub.refl _ | exact Sub.nil _ | (apply Sub.cons; focus ((repeat (first | with_reducible exact Pick.here _ | apply Pick.there)); (first | done | fail))) | with_reducible apply Sub.drop)); first | done | fail))) ?_
                                      rintro _ w ⟨g2, ra, rm2, rk, hg2, rfl, hrs, hw⟩
                                      refine ⟨_, rfl, ?_⟩
                                      refine rl_k rfl (k_callf Try.func19 rfl rfl rfl rfl ?_)
                                      refine Calls.mono (cdrop_calls hrs (hels.mono mono_Hd hg2) hb' (hw.sub (by (repeat (first | with_reducible exact Sub.refl _ | exact Sub.nil _ | (apply Sub.cons; focus ((repeat (first | with_reducible exact Pick.here _ | apply Pick.there)); (first | done | fail))) | with_reducible apply Sub.drop)); first | done | fail))) ?_
                                      rintro _ w ⟨lv2, cells2, rfl, hels2, hw⟩
                                      refine ⟨_, rfl, ?_⟩
                                      refine rl_nil (g_le (Fr.le_skip rfl (Fr.le_keep (Fr.le_keep (Fr.le_keep (Fr.le_keep (Fr.le_refl _)))))) ?_)
                                      refine g_inBlock ?_
                                      rw [htk] at joinb2
                                      exact joinb2 (((refsOf x.refs).foldl Ch.drop1 (s, 0)).1, g2, lv2, cells2, true) w _ (by repeat (first | exact Fr.le_nil _ | refine Fr.le_cons rfl ?_)) ⟨t1, t2, hg2, hels2, hw.sub (by (repeat (first | with_reducible exact Sub.refl _ | exact Sub.nil _ | (apply Sub.cons; focus ((repeat (first | with_reducible exact Pick.here _ | apply Pick.there)); (first | done | fail))) | with_reducible apply Sub.drop)); first | done | fail)⟩
                                · try with_reducible exact tf_elim h8
                                  all_goals
                                    try replace h8 := of_decide_eq_false h8
                                    try (first | (exfalso; omega))
                                    all_goals
                                      refine g_seq ?_
                                      refine g_region ?_
                                      first | (refine rl_v rfl rfl rfl (S := fun _ => True) trivial (v_eqlT rfl rfl (by first | omega | rfl)) ?_) | (refine rl_v rfl rfl rfl (S := fun _ => True) trivial (v_eqlF rfl rfl (by omega)) ?_) | (refine rl_v rfl rfl rfl (S := fun _ => True) trivial (v_eql rfl rfl) ?_)
                                      refine rl_v rfl rfl rfl (S := fun _ => True) trivial (v_assign rfl) ?_
                                      refine rl_nil (g_le (Fr.le_keep (Fr.le_keep (Fr.le_refl _))) ?_)
                                      refine g_cond rfl (fun h9 => ?_) (fun h9 => ?_)
                                      · try with_reducible exact ft_elim h9
                                        all_goals
                                          try replace h9 := of_decide_eq_true h9
                                          try (first | (exfalso; omega))
                                          all_goals
                                            refine g_region ?_
                                            refine rl_v rfl rfl rfl (S := fun _ => True) trivial (v_move rfl) ?_
                                            refine rl_k rfl (k_callf Try.func22 rfl rfl rfl rfl ?_)
                                            obtain ⟨t1, t2⟩ := ht.wipe hrm0 h9
                                            refine Calls.mono (cwipe_calls (hw.sub (by (repeat (first | with_reducible exact Sub.refl _ | exact Sub.nil _ | (apply Sub.cons; focus ((repeat (first | with_reducible exact Pick.here _ | apply Pick.there)); (first | done | fail))) | with_reducible apply Sub.drop)); first | done | fail))) ?_
                                            rintro _ w ⟨rfl, hw⟩
                                            refine ⟨_, rfl, ?_⟩
                                            refine rl_nil (g_le (Fr.le_skip rfl (Fr.le_keep (Fr.le_refl _))) ?_)
                                            refine g_inBlock ?_
                                            rw [htk] at joinb2
                                            refine joinb2 ((⟨s.room, [], s.hits, s.misses⟩ : Ch), gb, .slice none 0 0, [], true) w _ (by repeat (first | exact Fr.le_nil _ | refine Fr.le_cons rfl ?_)) ⟨t1, t2, Hp.le_refl _, Els.nil, ?_⟩
                                            dsimp only [List.length_nil] at hw ⊢
                                            exact hw.sub (by (repeat (first | with_reducible exact Sub.refl _ | exact Sub.nil _ | (apply Sub.cons; focus ((repeat (first | with_reducible exact Pick.here _ | apply Pick.there)); (first | done | fail))) | with_reducible apply Sub.drop)); first | done | fail)
                                      · try with_reducible exact tf_elim h9
                                        all_goals
                                          try replace h9 := of_decide_eq_false h9
                                          try (first | (exfalso; omega))
                                          all_goals
                                            refine g_seq ?_
                                            refine g_region ?_
                                            first | (refine rl_v rfl rfl rfl (S := fun _ => True) trivial (v_eqlT rfl rfl (by first | omega | rfl)) ?_) | (refine rl_v rfl rfl rfl (S := fun _ => True) trivial (v_eqlF rfl rfl (by omega)) ?_) | (refine rl_v rfl rfl rfl (S := fun _ => True) trivial (v_eql rfl rfl) ?_)
                                            refine rl_v rfl rfl rfl (S := fun _ => True) trivial (v_assign rfl) ?_
                                            refine rl_nil (g_le (Fr.le_keep (Fr.le_keep (Fr.le_refl _))) ?_)
                                            refine g_cond rfl (fun h10 => ?_) (fun h10 => ?_)
                                            · try with_reducible exact ft_elim h10
                                              all_goals
                                                try replace h10 := of_decide_eq_true h10
                                                try (first | (exfalso; omega))
                                                all_goals
                                                  refine g_skip (g_inBlock ?_)
                                                  rw [htk] at joinb2
                                                  obtain ⟨t1, t2⟩ := ht.same (o := x) true (by omega)
                                                  exact joinb2 (s, gb, lv, cells, true) w _ (by repeat (first | exact Fr.le_nil _ | refine Fr.le_cons rfl ?_)) ⟨t1, t2, Hp.le_refl _, hels, hw.sub (by (repeat (first | with_reducible exact Sub.refl _ | exact Sub.nil _ | (apply Sub.cons; focus ((repeat (first | with_reducible exact Pick.here _ | apply Pick.there)); (first | done | fail))) | with_reducible apply Sub.drop)); first | done | fail)⟩
                                            · try with_reducible exact tf_elim h10
                                              all_goals
                                                try replace h10 := of_decide_eq_false h10
                                                try (first | (exfalso; omega))
                                                all_goals
                                                  refine g_seq ?_
                                                  refine g_region ?_
                                                  refine rl_v rfl rfl rfl (S := fun _ => True) trivial (v_move rfl) ?_
                                                  refine rl_v rfl rfl rfl (by first | exact sat_cells hw (by (repeat (first | with_reducible exact Pick.here _ | apply Pick.there)); first | done | fail) ⟨rfl, rfl, rfl, rfl, trivial⟩ | exact ro_ats hw (by (repeat (first | with_reducible exact Pick.here _ | apply Pick.there)); first | done | fail) (by assumption) | exact own_cells hw (by (repeat (first | with_reducible exact Pick.here _ | apply Pick.there)); first | done | fail) (by assumption) | exact old_cells hw (by (repeat (first | with_reducible exact Pick.here _ | apply Pick.there)); first | done | fail) (by assumption)) (v_loadAgg (vs := [_, _, _, _]) T.agg_34_4 rfl rfl) ?_
                                                  first | (refine rl_v rfl rfl rfl (S := fun _ => True) trivial (v_fieldAddr0 T.fld_49_2_2 rfl) ?_) | (refine rl_v rfl rfl rfl (S := fun _ => True) trivial (v_fieldAddr T.fld_49_2_2 rfl) ?_)
                                                  refine rl_v rfl rfl rfl (by first | exact sat_cells hw (by (repeat (first | with_reducible exact Pick.here _ | apply Pick.there)); first | done | fail) ⟨rfl, rfl, rfl, trivial⟩ | exact ro_ats hw (by (repeat (first | with_reducible exact Pick.here _ | apply Pick.there)); first | done | fail) (by assumption) | exact own_cells hw (by (repeat (first | with_reducible exact Pick.here _ | apply Pick.there)); first | done | fail) (by assumption) | exact old_cells hw (by (repeat (first | with_reducible exact Pick.here _ | apply Pick.there)); first | done | fail) (by assumption)) (v_loadAgg (vs := [_, _, _]) T.agg_25_3 rfl rfl) ?_
                                                  refine rl_k rfl (k_callf Try.func10 rfl rfl rfl rfl ?_)
                                                  obtain ⟨t1, t2, t3⟩ := ht.put (o := x) (by omega) hi0
                                                  have hpf := put_facts s (ofR x.r) x.n
                                                  refine Calls.mono (cput_calls (ofR x.r) (ofR_ok _) hnd hels hb' (hw.sub (by (repeat (first | with_reducible exact Sub.refl _ | exact Sub.nil _ | (apply Sub.cons; focus ((repeat (first | with_reducible exact Pick.here _ | apply Pick.there)); (first | done | fail))) | with_reducible apply Sub.drop)); first | done | fail))) ?_
                                                  rintro _ w ⟨g2, lv2, cells2, hg2, rfl, hels2, hw⟩
                                                  refine ⟨_, rfl, ?_⟩
                                                  first | (refine rl_v rfl rfl rfl (S := fun _ => True) trivial (v_eqlT rfl rfl (by first | omega | rfl)) ?_) | (refine rl_v rfl rfl rfl (S := fun _ => True) trivial (v_eqlF rfl rfl (by omega)) ?_) | (refine rl_v rfl rfl rfl (S := fun _ => True) trivial (v_eql rfl rfl) ?_)
                                                  refine rl_v rfl rfl rfl (S := fun _ => True) trivial (v_assign rfl) ?_
                                                  refine rl_nil (g_le (Fr.le_keep (Fr.le_keep (Fr.le_keep (Fr.le_keep (Fr.le_keep (Fr.le_keep (Fr.le_keep (Fr.le_refl _)))))))) ?_)
                                                  generalize s.put (ofR x.r) x.n = pp at t1 t2 t3 hpf hels2 hw ⊢
                                                  obtain ⟨pe, s2⟩ := pp
                                                  dsimp only at t1 t2 t3 hpf hels2 hw ⊢
                                                  refine g_seq ?_
                                                  refine g_region ?_
                                                  refine rl_v rfl rfl rfl (S := fun _ => True) trivial (v_move rfl) ?_
                                                  refine rl_v rfl rfl rfl (by first | exact sat_cells hw (by (repeat (first | with_reducible exact Pick.here _ | apply Pick.there)); first | done | fail) ⟨rfl, rfl, rfl, rfl, trivial⟩ | exact ro_ats hw (by (repeat (first | with_reducible exact Pick.here _ | apply Pick.there)); first | done | fail) (by assumption) | exact own_cells hw (by (repeat (first | with_reducible exact Pick.here _ | apply Pick.there)); first | done | fail) (by assumption) | exact old_cells hw (by (repeat (first | with_reducible exact Pick.here _ | apply Pick.there)); first | done | fail) (by assumption)) (v_loadAgg (vs := [_, _, _, _]) T.agg_34_4 rfl rfl) ?_
                                                  refine rl_k rfl (k_callf Try.func13 rfl rfl rfl rfl ?_)
                                                  have hpm := get_perm s2 (ofR x.r)
                                                  have hgf := s2.get_facts (ofR x.r)
                                                  refine Calls.mono (cgetF_calls (ofR x.r) hels2 (by have := t1.len; omega) (hw.sub (by (repeat (first | with_reducible exact Sub.refl _ | exact Sub.nil _ | (apply Sub.cons; focus ((repeat (first | with_reducible exact Pick.here _ | apply Pick.there)); (first | done | fail))) | with_reducible apply Sub.drop)); first | done | fail))) ?_
                                                  rintro _ w ⟨g3, lv3, cells3, ea, en, ec, ka, kn, kc, hg3, rfl, hnd1, hels3, hw⟩
                                                  refine ⟨_, rfl, ?_⟩
                                                  refine rl_v rfl rfl rfl (S := fun _ => True) trivial (v_move rfl) ?_
                                                  refine rl_v rfl rfl rfl (S := fun _ => True) trivial (v_extract rfl rfl) ?_
                                                  refine rl_v rfl rfl rfl (S := fun _ => True) trivial (v_extract rfl rfl) ?_
                                                  refine rl_k rfl (k_alloc hw T.zero_25 rfl rfl (fun bk16_6 w hw => ?_))
                                                  first | (refine rl_k rfl (k_storeWhole hw T.agg_25_3 rfl rfl (by simp [Value.oneCell']) rfl (by (repeat (first | with_reducible exact Pick.here _ | apply Pick.there)); first | done | fail) rfl (fun w hw => ?_))) | (refine rl_k rfl (k_storeAgg hw T.agg_25_3 rfl rfl (by simp [Value.oneCell']) rfl (by (repeat (first | with_reducible exact Pick.here _ | apply Pick.there)); first | done | fail) rfl rfl (fun w hw => ?_))) | (refine rl_k rfl (k_storeOwnAgg hw T.agg_25_3 rfl rfl (by simp [Value.oneCell']) rfl (by (repeat (first | with_reducible exact Pick.here _ | apply Pick.there)); first | done | fail) (by assumption) (by omega) (fun w hw => ?_)))
                                                  refine rl_v rfl rfl rfl (S := fun _ => True) trivial (v_assign rfl) ?_
                                                  refine rl_nil (g_le (Fr.le_keep (Fr.le_keep (Fr.le_keep (Fr.le_keep (Fr.le_keep (Fr.le_keep (Fr.le_keep (Fr.le_keep (Fr.le_refl _))))))))) ?_)
                                                  obtain ⟨gb2, hgb2⟩ : ∃ b, (s2.get (ofR x.r)).2.1 = b := ⟨_, rfl⟩
                                                  rw [hgb2]
                                                  refine g_seq ?_
                                                  refine g_region ?_
                                                  refine rl_v rfl rfl rfl (S := fun _ => True) trivial (v_move rfl) ?_
                                                  refine rl_v rfl rfl rfl (S := fun _ => True) trivial (v_move rfl) ?_
                                                  refine rl_split (s := 73) rfl (fun g17_1 => ?_) (fun g17_1 => ?_)
                                                  · try with_reducible exact ft_elim g17_1
                                                    all_goals
                                                      try replace g17_1 := of_decide_eq_true g17_1
                                                      obtain ⟨y, hy, hyr, hyn⟩ := t3 g17_1
                                                      have hgt := hyr ▸ get_there t1.uniq hy
                                                      obtain rfl := hgb2.symm.trans hgt.1
                                                      try (first | (exfalso; omega))
                                                      all_goals
                                                        refine rl_vg (met_on rfl rfl rfl rfl) rfl rfl (S := fun _ => True) trivial (v_move rfl) ?_
                                                        refine rl_vg (met_on rfl rfl rfl rfl) rfl rfl (S := fun _ => True) trivial (v_not rfl) ?_
                                                        refine rl_vg (met_on rfl rfl rfl rfl) rfl rfl (S := fun _ => True) trivial (v_move rfl) ?_
                                                        refine rl_split (s := 76) rfl (fun g17_4 => ?_) (fun g17_4 => ?_)
                                                        · try with_reducible exact ft_elim g17_4
                                                          all_goals
                                                            try replace g17_4 := of_decide_eq_true g17_4
                                                            simp at g17_4
                                                        · try with_reducible exact tf_elim g17_4
                                                          all_goals
                                                            try replace g17_4 := of_decide_eq_false g17_4
                                                            try (first | (exfalso; omega))
                                                            all_goals
                                                              refine rl_vg (met_on rfl rfl rfl rfl) rfl rfl (by first | exact sat_cells hw (by (repeat (first | with_reducible exact Pick.here _ | apply Pick.there)); first | done | fail) ⟨rfl, rfl, rfl, trivial⟩ | exact ro_ats hw (by (repeat (first | with_reducible exact Pick.here _ | apply Pick.there)); first | done | fail) (by assumption) | exact own_cells hw (by (repeat (first | with_reducible exact Pick.here _ | apply Pick.there)); first | done | fail) (by assumption) | exact old_cells hw (by (repeat (first | with_reducible exact Pick.here _ | apply Pick.there)); first | done | fail) (by assumption)) (v_loadAgg (vs := [_, _, _]) T.agg_25_3 rfl rfl) ?_
                                                              first | (refine rl_vg (met_on rfl rfl rfl rfl) rfl rfl (S := fun _ => True) trivial (v_fieldAddr0 T.fld_49_2_2 rfl) ?_) | (refine rl_vg (met_on rfl rfl rfl rfl) rfl rfl (S := fun _ => True) trivial (v_fieldAddr T.fld_49_2_2 rfl) ?_)
                                                              refine rl_vg (met_on rfl rfl rfl rfl) rfl rfl (by first | exact sat_cells hw (by (repeat (first | with_reducible exact Pick.here _ | apply Pick.there)); first | done | fail) ⟨rfl, rfl, rfl, trivial⟩ | exact ro_ats hw (by (repeat (first | with_reducible exact Pick.here _ | apply Pick.there)); first | done | fail) (by assumption) | exact own_cells hw (by (repeat (first | with_reducible exact Pick.here _ | apply Pick.there)); first | done | fail) (by assumption) | exact old_cells hw (by (repeat (first | with_reducible exact Pick.here _ | apply Pick.there)); first | done | fail) (by assumption)) (v_loadAgg (vs := [_, _, _]) T.agg_25_3 rfl rfl) ?_
                                                              refine rl_kg (met_on rfl rfl rfl rfl) (k_callf Try.func15 rfl rfl rfl rfl ?_)
                                                              refine Calls.mono (likeNd_calls hnd1 (mono_Nd (hg2.trans hg3) hnd) (hw.pick (by (repeat (first | with_reducible exact Pick.here _ | apply Pick.there)); first | done | fail))) ?_
                                                              rw [decide_eq_true (hgt.2.trans hyn)]
                                                              rintro _ w ⟨rfl, hw⟩
                                                              refine ⟨_, rfl, ?_⟩
                                                              refine rl_vg (met_on rfl rfl rfl rfl) rfl rfl (S := fun _ => True) trivial (v_not rfl) ?_
                                                              first | (refine rl_vg (met_on rfl rfl rfl rfl) rfl rfl (S := fun _ => True) trivial (v_pick_true rfl rfl) ?_) | (refine rl_vg (met_on rfl rfl rfl rfl) rfl rfl (S := fun _ => True) trivial (v_pick_false rfl rfl) ?_) | (refine rl_vg (met_on rfl rfl rfl rfl) rfl rfl (S := fun _ => True) trivial (v_pick rfl rfl rfl) ?_)
                                                              first | (refine rl_v rfl rfl rfl (S := fun _ => True) trivial (v_pick_true rfl rfl) ?_) | (refine rl_v rfl rfl rfl (S := fun _ => True) trivial (v_pick_false rfl rfl) ?_) | (refine rl_v rfl rfl rfl (S := fun _ => True) trivial (v_pick rfl rfl rfl) ?_)
                                                              refine rl_nil (g_le (Fr.le_keep (Fr.le_keep (Fr.le_keep (Fr.le_keep (Fr.le_keep (Fr.le_keep (Fr.le_keep (Fr.le_keep (Fr.le_keep (Fr.le_keep (Fr.le_keep (Fr.le_keep (Fr.le_keep (Fr.le_keep (Fr.le_refl _))))))))))))))) ?_)
                                                              refine g_cond_false rfl ?_
                                                              refine g_skip (g_inBlock ?_)
                                                              rw [htk] at joinb2
                                                              first | exact joinb2 ((s.get (ofR x.r)).2.2, g2, lv2, cells2, true) w _ (by repeat (first | exact Fr.le_nil _ | refine Fr.le_cons rfl ?_)) ⟨t1, t2, hg2, hels2, hw.sub (by (repeat (first | with_reducible exact Sub.refl _ | exact Sub.nil _ | (apply Sub.cons; focus ((repeat (first | with_reducible exact Pick.here _ | apply Pick.there)); (first | done | fail))) | with_reducible apply Sub.drop)); first | done | fail)⟩ | exact joinb2 ((s2.get (ofR x.r)).2.2, g3, lv3, cells3, _) w _ (by repeat (first | exact Fr.le_nil _ | refine Fr.le_cons rfl ?_)) ⟨t1.perm hpm hgf.2, t2.perm hpm, hg2.trans hg3, hels3, hw.sub (by (repeat (first | with_reducible exact Sub.refl _ | exact Sub.nil _ | (apply Sub.cons; focus ((repeat (first | with_reducible exact Pick.here _ | apply Pick.there)); (first | done | fail))) | with_reducible apply Sub.drop)); first | done | fail)⟩
                                                  · try with_reducible exact tf_elim g17_1
                                                    all_goals
                                                      try replace g17_1 := of_decide_eq_false g17_1
                                                      try (first | (exfalso; omega))
                                                      all_goals
                                                        refine rl_off (met_off rfl rfl rfl rfl rfl) rfl rfl ?_
                                                        refine rl_off (met_off rfl rfl rfl rfl rfl) rfl rfl ?_
                                                        refine rl_off (met_off rfl rfl rfl rfl rfl) rfl rfl ?_
                                                        refine rl_off (met_gone rfl rfl rfl rfl) rfl rfl ?_
                                                        refine rl_off (met_gone rfl rfl rfl rfl) rfl rfl ?_
                                                        refine rl_off (met_gone rfl rfl rfl rfl) rfl rfl ?_
                                                        refine rl_off (met_gone rfl rfl rfl rfl) rfl rfl ?_
                                                        refine rl_off (met_gone rfl rfl rfl rfl) rfl rfl ?_
                                                        refine rl_off (met_off rfl rfl rfl rfl rfl) rfl rfl ?_
                                                        first | (refine rl_v rfl rfl rfl (S := fun _ => True) trivial (v_pick_true rfl rfl) ?_) | (refine rl_v rfl rfl rfl (S := fun _ => True) trivial (v_pick_false rfl rfl) ?_) | (refine rl_v rfl rfl rfl (S := fun _ => True) trivial (v_pick rfl rfl rfl) ?_)
                                                        refine rl_nil (g_le (Fr.le_keep (Fr.le_keep (Fr.le_keep (Fr.le_keep (Fr.le_keep (Fr.le_keep (Fr.le_keep (Fr.le_keep (Fr.le_keep (Fr.le_keep (Fr.le_keep (Fr.le_keep (Fr.le_keep (Fr.le_refl _)))))))))))))) ?_)
                                                        refine g_cond_false rfl ?_
                                                        refine g_skip (g_inBlock ?_)
                                                        rw [htk] at joinb2
                                                        first | exact joinb2 ((s.get (ofR x.r)).2.2, g2, lv2, cells2, true) w _ (by repeat (first | exact Fr.le_nil _ | refine Fr.le_cons rfl ?_)) ⟨t1, t2, hg2, hels2, hw.sub (by (repeat (first | with_reducible exact Sub.refl _ | exact Sub.nil _ | (apply Sub.cons; focus ((repeat (first | with_reducible exact Pick.here _ | apply Pick.there)); (first | done | fail))) | with_reducible apply Sub.drop)); first | done | fail)⟩ | exact joinb2 ((s2.get (ofR x.r)).2.2, g3, lv3, cells3, _) w _ (by repeat (first | exact Fr.le_nil _ | refine Fr.le_cons rfl ?_)) ⟨t1.perm hpm hgf.2, t2.perm hpm, hg2.trans hg3, hels3, hw.sub (by (repeat (first | with_reducible exact Sub.refl _ | exact Sub.nil _ | (apply Sub.cons; focus ((repeat (first | with_reducible exact Pick.here _ | apply Pick.there)); (first | done | fail))) | with_reducible apply Sub.drop)); first | done | fail)⟩
      · try with_reducible exact tf_elim h3
        all_goals
          try replace h3 := of_decide_eq_false h3
          try (first | (exfalso; omega))
          all_goals
            refine g_exit rfl (g_seq ?_)
            have hfin := ht.len
            refine g_region ?_
            refine rl_v rfl rfl rfl (S := fun _ => True) trivial (v_move rfl) ?_
            refine rl_k rfl (k_callf Try.func18 rfl rfl rfl rfl ?_)
            refine Calls.mono (ckept_calls (hw.sub (by (repeat (first | with_reducible exact Sub.refl _ | exact Sub.nil _ | (apply Sub.cons; focus ((repeat (first | with_reducible exact Pick.here _ | apply Pick.there)); (first | done | fail))) | with_reducible apply Sub.drop)); first | done | fail))) ?_
            rintro _ w ⟨rfl, hw⟩
            refine ⟨_, rfl, ?_⟩
            refine rl_v rfl rfl rfl (S := fun _ => True) trivial (v_move rfl) ?_
            first | (refine rl_v rfl rfl rfl (S := fun _ => True) trivial (v_leqT rfl rfl (by omega)) ?_) | (refine rl_v rfl rfl rfl (S := fun _ => True) trivial (v_leqF rfl rfl (by omega)) ?_) | (refine rl_v rfl rfl rfl (S := fun _ => True) trivial (v_leq rfl rfl) ?_)
            refine rl_v rfl rfl rfl (S := fun _ => True) trivial (v_assign rfl) ?_
            refine rl_nil (g_le (Fr.le_keep (Fr.le_skip rfl (Fr.le_skip rfl (Fr.le_skip rfl (Fr.le_skip rfl (Fr.le_refl _)))))) ?_)
            refine g_ret1 Try.func6 rfl rfl ?_
            exact ⟨rfl, (hw.sub (by (repeat (first | with_reducible exact Sub.refl _ | exact Sub.nil _ | (apply Sub.cons; focus ((repeat (first | with_reducible exact Pick.here _ | apply Pick.there)); (first | done | fail))) | with_reducible apply Sub.drop)); first | done | fail) : Sat (envOf W) w [RO g]).shrink hg⟩
  · intro joinr1
    refine g_region ?_
    refine rl_v rfl rfl rfl (S := fun _ => True) trivial (v_move rfl) ?_
    first | (refine rl_v rfl rfl rfl (S := fun _ => True) trivial (v_lssT rfl rfl (by omega)) ?_) | (refine rl_v rfl rfl rfl (S := fun _ => True) trivial (v_lssF rfl rfl (by omega)) ?_) | (refine rl_v rfl rfl rfl (S := fun _ => True) trivial (v_lss rfl rfl) ?_)
    refine rl_v rfl rfl rfl (S := fun _ => True) trivial (v_move rfl) ?_
    refine rl_split (s := 29) rfl (fun g1_2 => ?_) (fun g1_2 => ?_)
    · try with_reducible exact ft_elim g1_2
      all_goals
        try replace g1_2 := of_decide_eq_true g1_2
        try (first | (exfalso; omega))
        all_goals
          refine rl_off (met_off rfl rfl rfl rfl rfl) rfl rfl ?_
          refine rl_off (met_off rfl rfl rfl rfl rfl) rfl rfl ?_
          first | (refine rl_v rfl rfl rfl (S := fun _ => True) trivial (v_pick_true rfl rfl) ?_) | (refine rl_v rfl rfl rfl (S := fun _ => True) trivial (v_pick_false rfl rfl) ?_) | (refine rl_v rfl rfl rfl (S := fun _ => True) trivial (v_pick rfl rfl rfl) ?_)
          refine rl_nil (g_le (Fr.le_keep (Fr.le_skip rfl (Fr.le_skip rfl (Fr.le_skip rfl (Fr.le_skip rfl (Fr.le_skip rfl (Fr.le_skip rfl (Fr.le_refl _)))))))) ?_)
          refine g_cond_true rfl ?_
          refine g_region ?_
          refine rl_v rfl rfl rfl (S := fun _ => True) trivial (v_assign rfl) ?_
          refine rl_nil (g_le (Fr.le_keep (Fr.le_refl _)) ?_)
          exact joinr1 _ _ _ (by repeat (first | exact Fr.le_nil _ | refine Fr.le_cons rfl ?_)) ⟨by omega, by omega, hw⟩
    · try with_reducible exact tf_elim g1_2
      all_goals
        try replace g1_2 := of_decide_eq_false g1_2
        try (first | (exfalso; omega))
        all_goals
          refine rl_vg (met_on rfl rfl rfl rfl) rfl rfl (S := fun _ => True) trivial (v_move rfl) ?_
          first | (refine rl_vg (met_on rfl rfl rfl rfl) rfl rfl (S := fun _ => True) trivial (v_gtrT rfl rfl (by omega)) ?_) | (refine rl_vg (met_on rfl rfl rfl rfl) rfl rfl (S := fun _ => True) trivial (v_gtrF rfl rfl (by omega)) ?_) | (refine rl_vg (met_on rfl rfl rfl rfl) rfl rfl (S := fun _ => True) trivial (v_gtr rfl rfl) ?_)
          first | (refine rl_v rfl rfl rfl (S := fun _ => True) trivial (v_pick_true rfl rfl) ?_) | (refine rl_v rfl rfl rfl (S := fun _ => True) trivial (v_pick_false rfl rfl) ?_) | (refine rl_v rfl rfl rfl (S := fun _ => True) trivial (v_pick rfl rfl rfl) ?_)
          refine rl_nil (g_le (Fr.le_keep (Fr.le_skip rfl (Fr.le_skip rfl (Fr.le_skip rfl (Fr.le_skip rfl (Fr.le_skip rfl (Fr.le_skip rfl (Fr.le_refl _)))))))) ?_)
          refine g_cond rfl (fun h1 => ?_) (fun h1 => ?_)
          · try with_reducible exact ft_elim h1
            all_goals
              try replace h1 := of_decide_eq_true h1
              try (first | (exfalso; omega))
              all_goals
                refine g_region ?_
                refine rl_v rfl rfl rfl (S := fun _ => True) trivial (v_assign rfl) ?_
                refine rl_nil (g_le (Fr.le_keep (Fr.le_refl _)) ?_)
                exact joinr1 _ _ _ (by repeat (first | exact Fr.le_nil _ | refine Fr.le_cons rfl ?_)) ⟨by omega, by omega, hw⟩
          · try with_reducible exact tf_elim h1
            all_goals
              try replace h1 := of_decide_eq_false h1
              try (first | (exfalso; omega))
              all_goals
                refine g_skip ?_
                exact joinr1 _ _ _ (by repeat (first | exact Fr.le_nil _ | refine Fr.le_cons rfl ?_)) ⟨by omega, by omega, hw⟩

set_option maxRecDepth 100000 in
theorem CacheTrue_lifted (os : Os) (started : os.Started) (H : Type) (enc : TypeId × Value → H) :
    ReturnsInHanded {} Try.checked os 6 .any (Rows.cacheTrueSpec.pre6 enc Try.prog Try.f6 Rows.cacheTrueRow.domain false) (Rows.cacheTrueSpec.post enc Try.prog Try.f6 false true false false) := by
  refine returnsInHanded_of_change_sized (C := Try.checked) T.own started (by kernel_rfl) Try.func6
    (ChangeSpec.witness6 (enc := enc) (C := Try.checked) false ⟨#[], #[(.int .i64 0), (.slice none 0 0)], []⟩ 8 (by kernel_rfl) (by kernel_rfl) (by kernel_rfl) (by kernel_rfl)) ?_
  intro W base args ds gs before hval0 hW hcnd hsz0 _
  have hval : ∀ (j : Nat) t v, Try.f6.params[j]? = some t → args[j]? = some v → Value.okWide Try.prog W .any base t v := hval0
  have hW' := hW
  obtain ⟨p, q, hA0, hV, rfl, hfz, hnd⟩ := hW
  have hA : DataW.TrodAll enc Try.prog W 0 (fun _ => true) true Try.f6.params.toList args.toList ds p := hA0
  obtain ⟨rfl, rfl⟩ := trodVars_none hV
  have hsz : (DataW.weightsEach Try.prog (Try.f6.params.toList ++ []) (ds ++ [])).all (· ≤ reachBytes) = true := hsz0
  rw [List.append_nil, List.append_nil] at hsz
  rw [Try.params6] at hA hval hsz
  obtain ⟨v0, vs0, d0, ds0, p0, q0, hargs, rfl, rfl, h0, r0⟩ := trodAll_cons hA
  obtain ⟨v1, vs1, d1, ds1, p1, q1, rfl, rfl, rfl, h1, r1⟩ := trodAll_cons r0
  obtain ⟨rfl, rfl, rfl⟩ := trodAll_nil r1
  obtain rfl : args = #[v0, v1] := by cases args; simp_all
  have lt0 : ∀ x ∈ p0, x.block < W.heap.size := by obtain ⟨m, hm⟩ := h0; exact DataW.trod_lt m _ _ _ hm
  obtain ⟨x0, w0⟩ := arg_of (j := 0) (reads_int T.int_3_i64) h0 hsz rfl rfl
  have lt1 : ∀ x ∈ p1, x.block < W.heap.size := by obtain ⟨m, hm⟩ := h1; exact DataW.trod_lt m _ _ _ hm
  obtain ⟨x1, w1⟩ := arg_of (j := 1) (reads_sl T.sl_45_49_6 T.bytes_49_96 (by decide) reads_Op) h1 hsz rfl rfl
  obtain ⟨n0, rfl⟩ := okWide_int Try.underlying3 (hval 0 3 v0 rfl rfl)
  obtain ⟨a1, l1, c1, rfl⟩ := okWide_slice Try.underlying45 (hval 1 45 v1 rfl rfl)
  obtain ⟨hc0, hr0⟩ := w0
  cases hc0
  refine (CacheTrue_law hr0 w1).mono fun e W' ⟨he, hb⟩ => ?_
  have bel := hb.below
  subst he
  exact ⟨_, rfl, _, _, _, [], _, [], hW', trodAll_mk1 (shut_bool Try.underlying4 _), (trodAll_cons_mk (Below.trod T.laidOut (by kernel_rfl) (of_decide_eq_true (by kernel_rfl)) h0 bel lt0) (trodAll_cons_mk (Below.trod T.laidOut (by kernel_rfl) (of_decide_eq_true (by kernel_rfl)) h1 bel lt1) trodAll_mk0)), rfl, bel.frame _, fun h => by cases h⟩
theorem CacheTrue_holds : Rows.CacheTrueSaid :=
  OpenClaim.holds_of_wide 6 Try.f6 rfl rfl rfl rfl rfl rfl rfl ⟨rfl, rfl, rfl, rfl, rfl⟩ rfl rfl rfl rfl rfl (by kernel_rfl) Try.func6 (by kernel_rfl)
    (of_decide_eq_true (by kernel_rfl)) (by unfold Func.isWrapper; rw [if_neg (of_decide_eq_false (by kernel_rfl))]; exact ⟨rfl, rfl⟩)
    (fun os started H enc _ => CacheTrue_lifted os started H enc)
#print axioms CacheTrue_holds
end Go.Proofs.Ytnkddbbcfolcdaa
