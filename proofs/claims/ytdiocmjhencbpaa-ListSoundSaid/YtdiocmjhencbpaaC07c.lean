/-
  The search tree over any pages: a page's node, parts laid down.
-/
import Derived.Test.YtdiocmjhencbpaaC07b
namespace Go.Proofs.Ytdiocmjhencbpaa
set_option maxRecDepth 8000
set_option linter.unusedSimpArgs false
set_option linter.unusedVariables false
open Go Xe
/-- Pages: what their calls do (ops), the interface's value, and what memory holds of a state. -/
structure Pg (σ : Type) where
  ops : PgOps σ
  t : Nat
  u : Value
  I : Hp → σ → As → Prop
  mono : ∀ {g h s A}, g.le h → I g s A → I h s A
  read : ∀ {E w L g s A} (r : Rf), r.ok → I g s A → Sat E w (A :: RO g :: L) → CallsM Try.prog (.iface t u) "Read" [.agg r.cells.toArray] w fun e w' =>
    ∃ g' A' ea ec ka kc cells, g.le g' ∧ I g' (ops.rd s r).2.2 A' ∧ e = .returned (.tuple #[.agg #[.bool (ops.rd s r).1.leaf, .slice ea (ops.rd s r).1.entries.length ec, .slice ka (ops.rd s r).1.kids.length kc], .int .i64 (ops.rd s r).2.1]) ∧
      Els rdEn 2 g' cells (ops.rd s r).1.entries ∧ (ops.rd s r).1.fine ∧ (ops.rd s r).1.small ∧
      Sat E w' (A' :: OwnSl 40 2 (.slice ea (ops.rd s r).1.entries.length ec) (ops.rd s r).1.entries.length cells :: OwnSl 104 5 (.slice ka (ops.rd s r).1.kids.length kc) (ops.rd s r).1.kids.length ((ops.rd s r).1.kids.flatMap Kd.cells) :: RO g' :: L)
  write : ∀ {E w L g s A} {n : Nd} {ncs : List Value}, rdNd g ncs n → n.small → I g s A → Sat E w (A :: RO g :: L) → CallsM Try.prog (.iface t u) "Write" [.agg ncs.toArray] w fun e w' =>
    ∃ g' A', g.le g' ∧ I g' (ops.wr s n).2.2 A' ∧ e = .returned (.tuple #[.agg (ops.wr s n).1.cells.toArray, .int .i64 (ops.wr s n).2.1]) ∧ (ops.wr s n).1.ok ∧ Sat E w' (A' :: RO g' :: L)
theorem nd0_fine : nd0.fine := by simp [Nd.fine, nd0]
theorem nd0_small : nd0.small := by simp [Nd.small, nd0]
theorem own_nd0 {E : Env} {w : World} {L : List As} (h : Sat E w L) : Sat E w (OwnSl 40 2 (.slice none nd0.entries.length 0) nd0.entries.length [] :: OwnSl 104 5 (.slice none nd0.kids.length 0) nd0.kids.length (nd0.kids.flatMap Kd.cells) :: L) :=
  (h.own_nil 104 5).own_nil 40 2
theorem own_kd0 {E : Env} {w : World} {L : List As} (h : Sat E w L) : Sat E w (OwnSl 104 5 (.slice none 0 0) ([] : List Kd).length (([] : List Kd).flatMap Kd.cells) :: L) := h.own_nil 104 5
theorem own_kd0' {E : Env} {w : World} {L : List As} (h : Sat E w L) : Sat E w (OwnSl 104 5 (.slice none ([] : List Kd).length 0) ([] : List Kd).length (([] : List Kd).flatMap Kd.cells) :: L) := h.own_nil 104 5
theorem at_calls {σ : Type} (D : Pg σ) {E : Env} {w : World} {L : List As} {g : Hp} {s : σ} {A : As} (r : Rf) (hr : r.ok) (k : Nat) (deep : Int) (hk : deep + k = 9) (hI : D.I g s A) (hw : Sat E w (A :: RO g :: L)) :
    Calls Try.prog 63 #[.agg #[.iface D.t D.u], .agg r.cells.toArray, .int .i64 deep] w fun e w' =>
    ∃ g' A' ea ec ka kc cells, g.le g' ∧ D.I g' (atO D.ops k s r).2.2 A' ∧ e = .returned (.tuple #[.agg #[.bool (atO D.ops k s r).1.leaf, .slice ea (atO D.ops k s r).1.entries.length ec, .slice ka (atO D.ops k s r).1.kids.length kc], .int .i64 (atO D.ops k s r).2.1]) ∧
      Els rdEn 2 g' cells (atO D.ops k s r).1.entries ∧ (atO D.ops k s r).1.fine ∧ (atO D.ops k s r).1.small ∧
      Sat E w' (A' :: OwnSl 40 2 (.slice ea (atO D.ops k s r).1.entries.length ec) (atO D.ops k s r).1.entries.length cells :: OwnSl 104 5 (.slice ka (atO D.ops k s r).1.kids.length kc) (atO D.ops k s r).1.kids.length ((atO D.ops k s r).1.kids.flatMap Kd.cells) :: RO g' :: L) := by
  refine calls_of_g (n := 36) Try.func63 rfl rfl rfl ?_
  change G _ _ _ _ _ [(0, _), (1, _), (2, _)] _
  refine g_seq ?_
  refine g_region ?_
  refine rl_k rfl (k_box hw rfl rfl rfl (fun bk0_0 w hw => ?_))
  refine rl_k rfl (k_box hw rfl rfl rfl (fun bk0_1 w hw => ?_))
  refine rl_k rfl (k_alloc hw T.zero_117 rfl rfl (fun bk0_2 w hw => ?_))
  refine xV rfl rfl rfl (v_assign rfl) ?_
  refine rl_nil (g_le (xK (xK (xK (xK (Fr.le_refl _))))) ?_)
  refine g_seq (g_seq ?_)
  refine g_region ?_
  refine xV rfl rfl rfl (v_move rfl) ?_
  refine xV rfl rfl rfl (v_gtr rfl rfl) ?_
  refine rl_nil (g_le (xK (xS rfl (Fr.le_refl _))) ?_)
  refine g_cond rfl (fun h1 => ?_) (fun h1 => ?_)
  · try with_reducible exact ft_elim h1
    all_goals
      try replace h1 := of_decide_eq_true h1
      obtain rfl : k = 0 := by omega
      refine g_seq ?_
      refine g_region ?_
      refine xV rfl rfl rfl (v_build rfl (T.build_117 ..)) ?_
      refine rl_k rfl (k_storeWhole hw T.agg_117_3 rfl rfl (by simp [Value.oneCell']) rfl (by (repeat first | with_reducible exact xH | apply xT); first | done | fail) rfl (fun w hw => ?_))
      refine xV rfl rfl rfl (v_assign rfl) ?_
      refine rl_nil (g_le (xK (xS rfl (Fr.le_refl _))) ?_)
      refine g_res2 Try.func63 rfl ⟨_, rfl, holds_agg (vs := [_, _, _]) T.agg_117_3 rfl (by exact sat_cells hw (by (repeat first | with_reducible exact xH | apply xT); first | done | fail) ⟨rfl, rfl, rfl, trivial⟩)⟩ rfl ?_
      exact ⟨g, A, none, 0, none, 0, [], Hp.le_refl _, hI, rfl, .nil, nd0_fine, nd0_small, by dsimp only [atO]; exact (own_nd0 (hw.xQ : Sat E w (A :: RO g :: L))).xQ⟩
  · try with_reducible exact tf_elim h1
    all_goals
      try replace h1 := of_decide_eq_false h1
      obtain ⟨k, rfl⟩ : ∃ q, k = q + 1 := ⟨k - 1, by omega⟩
      refine g_skip (g_seq ?_)
      refine g_region ?_
      refine xV rfl rfl rfl (v_fieldAddr0 T.fld_101_0_0 rfl) ?_
      refine rl_v rfl rfl rfl (by exact sat_cell hw (by (repeat first | with_reducible exact xH | apply xT); first | done | fail) rfl) (v_load T.scal_71 rfl) ?_
      refine rl_v rfl rfl rfl (by exact sat_cells hw (by (repeat first | with_reducible exact xH | apply xT); first | done | fail) ⟨rfl, rfl, rfl, rfl, trivial⟩) (v_loadAgg (vs := [_, _, _, _]) T.agg_26_4 rfl rfl) ?_
      refine rl_k rfl (k_callm rfl rfl rfl ?_)
      refine CallsM.mono (D.read r hr hI (hw.xQ)) ?_
      generalize hq : D.ops.rd s r = q
      obtain ⟨x, bad, s1⟩ := q
      dsimp only
      rintro _ w ⟨g1, A1, ea, ec, ka, kc, cells, hg1, hI1, rfl, hels, hfine, hsm, hw⟩
      refine ⟨_, rfl, ?_⟩
      refine xV rfl rfl rfl (v_move rfl) ?_
      refine xV rfl rfl rfl (v_extract rfl rfl) ?_
      refine xV rfl rfl rfl (v_extract rfl rfl) ?_
      refine rl_k rfl (k_alloc hw T.zero_84 rfl rfl (fun bk3_7 w hw => ?_))
      refine rl_k rfl (k_storeWhole hw T.agg_84_3 rfl rfl (by simp [Value.oneCell']) rfl (by (repeat first | with_reducible exact xH | apply xT); first | done | fail) rfl (fun w hw => ?_))
      refine xV rfl rfl rfl (v_assign rfl) ?_
      refine rl_nil (g_le (xK (xK (xS rfl (xS rfl (xS rfl (xS rfl (xS rfl (xS rfl (xS rfl (Fr.le_refl _)))))))))) ?_)
      refine g_seq (g_seq ?_)
      refine g_region ?_
      refine xV rfl rfl rfl (v_move rfl) ?_
      refine xV rfl rfl rfl (v_neq rfl rfl) ?_
      refine rl_nil (g_le (xK (xS rfl (Fr.le_refl _))) ?_)
      refine g_cond rfl (fun h2 => ?_) (fun h2 => ?_)
      · try with_reducible exact ft_elim h2
        all_goals
          try replace h2 := of_decide_eq_true h2
          refine g_seq ?_
          refine g_region ?_
          refine xV rfl rfl rfl (v_build rfl (T.build_117 ..)) ?_
          refine xV rfl rfl rfl (v_move rfl) ?_
          refine rl_k rfl (k_storeWhole hw T.agg_117_3 rfl rfl (by simp [Value.oneCell']) rfl (by (repeat first | with_reducible exact xH | apply xT); first | done | fail) rfl (fun w hw => ?_))
          refine xV rfl rfl rfl (v_assign rfl) ?_
          refine rl_nil (g_le (xK (xS rfl (xS rfl (Fr.le_refl _)))) ?_)
          refine g_res2 Try.func63 rfl ⟨_, rfl, holds_agg (vs := [_, _, _]) T.agg_117_3 rfl (by exact sat_cells hw (by (repeat first | with_reducible exact xH | apply xT); first | done | fail) ⟨rfl, rfl, rfl, trivial⟩)⟩ rfl ?_
          have e : atO D.ops (k + 1) s r = (nd0, bad, s1) := by simp only [atO, at1, hq]; exact if_pos h2
          rw [e]
          exact ⟨g1, A1, none, 0, none, 0, [], hg1, hI1, rfl, .nil, nd0_fine, nd0_small, by dsimp only; exact (own_nd0 (hw.xQ : Sat E w (A1 :: RO g1 :: L))).xQ⟩
      · try with_reducible exact tf_elim h2
        all_goals
          try replace h2 := of_decide_eq_false h2
          have hb0 : bad = 0 := by omega
          refine g_skip (g_seq (g_seq ?_))
          refine g_region ?_
          refine xV rfl rfl rfl (v_fieldAddr0 T.fld_84_0_0 rfl) ?_
          refine rl_v rfl rfl rfl (by exact sat_cell hw (by (repeat first | with_reducible exact xH | apply xT); first | done | fail) rfl) (v_load T.scal_4 rfl) ?_
          refine xV rfl rfl rfl (v_not rfl) ?_
          refine xV rfl rfl rfl (v_move rfl) ?_
          refine rl_split (s := 27) rfl (fun g6_3 => ?_) (fun g6_3 => ?_)
          · try with_reducible exact ft_elim g6_3
            all_goals
              try replace g6_3 := of_decide_eq_true g6_3
              refine rl_vg (met_on rfl rfl rfl rfl) rfl rfl (S := fun _ => True) trivial (v_fieldAddr0 T.fld_84_2_2 rfl) ?_
              refine rl_vg (met_on rfl rfl rfl rfl) rfl rfl (by exact sat_cell hw (by (repeat first | with_reducible exact xH | apply xT); first | done | fail) rfl) (v_load T.scal_82 rfl) ?_
              refine rl_vg (met_on rfl rfl rfl rfl) rfl rfl (S := fun _ => True) trivial (v_lenSlice T.sl_82_104_5 rfl) ?_
              refine rl_vg (met_on rfl rfl rfl rfl) rfl rfl (S := fun _ => True) trivial (v_eql rfl rfl) ?_
              refine xV rfl rfl rfl (v_pick_true rfl rfl) ?_
              refine rl_nil (g_le (xK (xS rfl (xS rfl (xS rfl (xS rfl (xS rfl (xS rfl (xS rfl (xS rfl (xS rfl (Fr.le_refl _))))))))))) ?_)
              refine g_cond rfl (fun h3 => ?_) (fun h3 => ?_)
              · try with_reducible exact ft_elim h3
                all_goals
                  try replace h3 := of_decide_eq_true h3
                  refine g_seq ?_
                  refine g_region ?_
                  refine xV rfl rfl rfl (v_build rfl (T.build_117 ..)) ?_
                  refine rl_k rfl (k_storeWhole hw T.agg_117_3 rfl rfl (by simp [Value.oneCell']) rfl (by (repeat first | with_reducible exact xH | apply xT); first | done | fail) rfl (fun w hw => ?_))
                  refine xV rfl rfl rfl (v_assign rfl) ?_
                  refine rl_nil (g_le (xK (xS rfl (Fr.le_refl _))) ?_)
                  refine g_res2 Try.func63 rfl ⟨_, rfl, holds_agg (vs := [_, _, _]) T.agg_117_3 rfl (by exact sat_cells hw (by (repeat first | with_reducible exact xH | apply xT); first | done | fail) ⟨rfl, rfl, rfl, trivial⟩)⟩ rfl ?_
                  have e : atO D.ops (k + 1) s r = (nd0, 70, s1) := by simp only [atO, at1, hq]; rw [if_neg h2, if_pos ⟨by simpa using g6_3, List.eq_nil_of_length_eq_zero (by omega)⟩]
                  rw [e]
                  exact ⟨g1, A1, none, 0, none, 0, [], hg1, hI1, rfl, .nil, nd0_fine, nd0_small, by dsimp only; exact (own_nd0 (hw.xQ : Sat E w (A1 :: RO g1 :: L))).xQ⟩
              · try with_reducible exact tf_elim h3
                all_goals
                  try replace h3 := of_decide_eq_false h3
                  refine g_skip (g_seq ?_)
                  refine g_region ?_
                  refine rl_v rfl rfl rfl (by exact sat_cells hw (by (repeat first | with_reducible exact xH | apply xT); first | done | fail) ⟨rfl, rfl, rfl, trivial⟩) (v_loadAgg (vs := [_, _, _]) T.agg_84_3 rfl rfl) ?_
                  refine xV rfl rfl rfl (v_build rfl (T.build_117_0 ..)) ?_
                  refine rl_k rfl (k_storeWhole hw T.agg_117_3 rfl rfl (by simp [Value.oneCell']) rfl (by (repeat first | with_reducible exact xH | apply xT); first | done | fail) rfl (fun w hw => ?_))
                  refine xV rfl rfl rfl (v_assign rfl) ?_
                  refine rl_nil (g_le (xK (xS rfl (xS rfl (Fr.le_refl _)))) ?_)
                  refine g_res2 Try.func63 rfl ⟨_, rfl, holds_agg (vs := [_, _, _]) T.agg_117_3 rfl (by exact sat_cells hw (by (repeat first | with_reducible exact xH | apply xT); first | done | fail) ⟨rfl, rfl, rfl, trivial⟩)⟩ rfl ?_
                  have e : atO D.ops (k + 1) s r = (x, 0, s1) := by simp only [atO, at1, hq]; rw [if_neg h2, if_neg (fun hh => by simp_all)]
                  rw [e]
                  exact ⟨g1, A1, ea, ec, ka, kc, cells, hg1, hI1, rfl, hels, hfine, hsm, hw.xQ⟩
          · try with_reducible exact tf_elim g6_3
            all_goals
              try replace g6_3 := of_decide_eq_false g6_3
              refine rl_off (met_off rfl rfl rfl rfl rfl) rfl rfl ?_
              refine rl_off (met_off rfl rfl rfl rfl rfl) rfl rfl ?_
              refine rl_off (met_off rfl rfl rfl rfl rfl) rfl rfl ?_
              refine rl_off (met_off rfl rfl rfl rfl rfl) rfl rfl ?_
              refine xV rfl rfl rfl (v_pick_false rfl rfl) ?_
              refine rl_nil (g_le (xK (xS rfl (xS rfl (xS rfl (xS rfl (xS rfl (xS rfl (xS rfl (xS rfl (xS rfl (Fr.le_refl _))))))))))) ?_)
              refine g_cond_false rfl ?_
              refine g_skip (g_seq ?_)
              refine g_region ?_
              refine rl_v rfl rfl rfl (by exact sat_cells hw (by (repeat first | with_reducible exact xH | apply xT); first | done | fail) ⟨rfl, rfl, rfl, trivial⟩) (v_loadAgg (vs := [_, _, _]) T.agg_84_3 rfl rfl) ?_
              refine xV rfl rfl rfl (v_build rfl (T.build_117_0 ..)) ?_
              refine rl_k rfl (k_storeWhole hw T.agg_117_3 rfl rfl (by simp [Value.oneCell']) rfl (by (repeat first | with_reducible exact xH | apply xT); first | done | fail) rfl (fun w hw => ?_))
              refine xV rfl rfl rfl (v_assign rfl) ?_
              refine rl_nil (g_le (xK (xS rfl (xS rfl (Fr.le_refl _)))) ?_)
              refine g_res2 Try.func63 rfl ⟨_, rfl, holds_agg (vs := [_, _, _]) T.agg_117_3 rfl (by exact sat_cells hw (by (repeat first | with_reducible exact xH | apply xT); first | done | fail) ⟨rfl, rfl, rfl, trivial⟩)⟩ rfl ?_
              have e : atO D.ops (k + 1) s r = (x, 0, s1) := by simp only [atO, at1, hq]; rw [if_neg h2, if_neg (fun hh => by simp_all)]
              rw [e]
              exact ⟨g1, A1, ea, ec, ka, kc, cells, hg1, hI1, rfl, hels, hfine, hsm, hw.xQ⟩
theorem lowN_size {x : Nd} (h : x.fine) : (lowN x).size ≤ reachBytes := by
  unfold lowN
  split
  · split
    · rename_i e es he
      exact (h.1 e (by rw [he]; simp)).1
    · simp
  · split
    · rename_i k ks hk
      exact (h.2.2.1 k (by rw [hk]; simp)).1
    · simp
theorem layO_cons {σ : Type} (P : PgOps σ) (s : σ) (x : Nd) (l : List Nd) (acc : List Kd) : layO P s (x :: l) acc = if (P.wr s x).2.1 ≠ 0 then ([], (P.wr s x).2.1, (P.wr s x).2.2) else layO P (P.wr s x).2.2 l (acc ++ [⟨lowN x, (P.wr s x).1⟩]) := rfl
theorem ord_f60_r8_C07c : orderOfB Try.f60 8 [6, 7] (.a 0 (.a 1 (.v 2 (.v 4 (.k 3 (.k 5 (.k 6 (.k 7 (.k 8 .done))))))))) = true := by kernel_rfl
theorem lay_calls {σ : Type} (D : Pg σ) {E : Env} {w : World} {L : List As} {g : Hp} {s : σ} {A : As} {la : Option Addr} {ln lc : Nat} {l : List Nd} (hl : (rdSl 56 3 rdNd) g [.slice la ln lc] l) (hsm : ∀ x ∈ l, x.small) (hn : l.length ≤ 1000) (hI : D.I g s A) (hw : Sat E w (A :: RO g :: L)) :
    Calls Try.prog 60 #[.agg #[.iface D.t D.u], .slice la ln lc] w fun e w' =>
    ∃ g' A' ka kc, g.le g' ∧ D.I g' (layO D.ops s l []).2.2 A' ∧ e = .returned (.tuple #[.slice ka (layO D.ops s l []).1.length kc, .int .i64 (layO D.ops s l []).2.1]) ∧ (∀ k ∈ (layO D.ops s l []).1, k.ok) ∧ (layO D.ops s l []).1.length ≤ l.length ∧
      Sat E w' (A' :: OwnSl 104 5 (.slice ka (layO D.ops s l []).1.length kc) (layO D.ops s l []).1.length ((layO D.ops s l []).1.flatMap Kd.cells) :: RO g' :: L) := by
  obtain ⟨rfl, hb1, hc1, hm1, g1⟩ := rdSl_get hl
  refine calls_of_g (n := 38) Try.func60 rfl rfl rfl ?_
  change G _ _ _ _ _ [(0, _), (1, _)] _
  refine g_seq ?_
  refine g_region ?_
  refine rl_k rfl (k_box hw rfl rfl rfl (fun bk0_0 w hw => ?_))
  refine xV rfl rfl rfl (v_assign rfl) ?_
  refine xV rfl rfl rfl (v_assign rfl) ?_
  refine rl_nil (g_le (xK (xK (xK (Fr.le_refl _)))) ?_)
  refine g_seq ?_
  refine g_region ?_
  refine xV rfl rfl rfl (v_assign rfl) ?_
  refine rl_nil (g_le (xK (Fr.le_refl _)) ?_)
  refine g_seq (g_seq ?_)
  refine g_region ?_
  refine xV rfl rfl rfl (v_move rfl) ?_
  refine xV rfl rfl rfl (v_lenSlice T.sl_108_117_3 rfl) ?_
  refine xV rfl rfl rfl (v_move rfl) ?_
  refine rl_nil (g_le (xK (xK (xK (Fr.le_refl _)))) ?_)
  refine g_block ?_
  refine g_loopC (σ := Int × Hp × σ × As × List Kd × Value) (fun C x => (13, .int .i64 x.1) :: (6, x.2.2.2.2.2) :: C) [(2, _), (4, _), (5, _), (11, _), (12, _)] (by repeat (first | exact Fr.le_nil _ | refine Fr.le_cons rfl ?_)) (fun z w => 0 ≤ z.1 ∧ z.1 ≤ l.length ∧ g.le z.2.1 ∧ D.I z.2.1 z.2.2.1 z.2.2.2.1 ∧ layO D.ops s l [] = layO D.ops z.2.2.1 (l.drop z.1.toNat) z.2.2.2.2.1 ∧ (z.2.2.2.2.1.length : Int) = z.1 ∧ (∀ k ∈ z.2.2.2.2.1, k.ok) ∧ Sat E w (z.2.2.2.1 :: OwnSl 104 5 z.2.2.2.2.2 z.2.2.2.2.1.length (z.2.2.2.2.1.flatMap Kd.cells) :: pt bk0_0 (.cells [Value.iface D.t D.u].toArray 101 (0, 0)) :: RO z.2.1 :: L)) (fun z => (l.length - z.1).toNat) ?_ (0, g, s, A, [], .slice none 0 0) (by repeat (first | exact Fr.le_nil _ | refine Fr.le_cons rfl ?_)) ⟨by simp, by simp, Hp.le_refl _, hI, by simp, by simp, by simp, by dsimp only; exact (own_kd0 hw).xQ⟩
  rintro ⟨i, g2, s2, A2, acc, kv⟩ w ⟨hi0, hi1, hg2, hI2, hla, hal, hok, hw⟩ ih
  dsimp only at hi0 hi1 hg2 hI2 hla hal hok hw ⊢
  refine g_seq ?_
  refine g_region ?_
  refine xV rfl rfl rfl (v_lss rfl rfl) ?_
  refine rl_nil (g_le (xK (Fr.le_refl _)) ?_)
  refine g_seq ?_
  refine g_cond rfl (fun h1 => ?_) (fun h1 => ?_)
  · try with_reducible exact ft_elim h1
    all_goals
      try replace h1 := of_decide_eq_true h1
      refine g_skip (g_seq (g_block (g_seq ?_)))
      have hz := hw
      clear hw
      obtain ⟨_, _, _, _, g1'⟩ := rdSl_get (mono_sl mono_Nd hg2 hl)
      obtain ⟨b4, o1, x, ecs, rfl, hx, hat1, hl1, hrd⟩ := g1' i hi0 (by omega)
      obtain ⟨ea, en, ec, ka, kn, kc, rfl, hnd⟩ := nd_told hrd
      have hdr : l.drop i.toNat = x :: l.drop (i.toNat + 1) := by obtain ⟨h9, h8⟩ := List.getElem?_eq_some_iff.1 hx; rw [List.drop_eq_getElem_cons h9, h8]
      rw [hdr, layO_cons] at hla
      have hw := hz
      refine g_region ?_
      refine xV rfl rfl rfl (v_indexAddr T.sl_108_117_3 rfl rfl (by omega) (by omega)) ?_
      refine rl_v rfl rfl rfl (by exact ro_ats hw (by (repeat first | with_reducible exact xH | apply xT); first | done | fail) (by assumption)) (v_loadAgg (vs := [_, _, _]) T.agg_117_3 rfl rfl) ?_
      refine rl_k rfl (k_alloc hw T.zero_117 rfl rfl (fun bk4_2 w hw => ?_))
      refine rl_k rfl (k_storeWhole hw T.agg_117_3 rfl rfl (by simp [Value.oneCell']) rfl (by (repeat first | with_reducible exact xH | apply xT); first | done | fail) rfl (fun w hw => ?_))
      refine rl_nil (g_le (xK (xK (xK (Fr.le_refl _)))) ?_)
      refine g_seq ?_
      refine g_region ?_
      refine xV rfl rfl rfl (v_fieldAddr0 T.fld_101_0_0 rfl) ?_
      refine rl_v rfl rfl rfl (by exact sat_cell hw (by (repeat first | with_reducible exact xH | apply xT); first | done | fail) rfl) (v_load T.scal_71 rfl) ?_
      refine xV rfl rfl rfl (v_fieldAddr0 T.fld_117_0_0 rfl) ?_
      refine rl_v rfl rfl rfl (by exact sat_cells hw (by (repeat first | with_reducible exact xH | apply xT); first | done | fail) ⟨rfl, rfl, rfl, trivial⟩) (v_loadAgg (vs := [_, _, _]) T.agg_84_3 rfl rfl) ?_
      refine rl_k rfl (k_callm rfl rfl rfl ?_)
      refine CallsM.mono (D.write hnd (hsm x (List.mem_of_getElem? hx)) hI2 (hw.xQ)) ?_
      generalize hq : D.ops.wr s2 x = q at hla ⊢
      obtain ⟨rf, bad, s3⟩ := q
      dsimp only at hla ⊢
      rintro _ w ⟨g3, A3, hg3, hI3, rfl, hrok, hw⟩
      refine ⟨_, rfl, ?_⟩
      refine xV rfl rfl rfl (v_move rfl) ?_
      refine xV rfl rfl rfl (v_extract rfl rfl) ?_
      refine xV rfl rfl rfl (v_extract rfl rfl) ?_
      refine rl_k rfl (k_alloc hw T.zero_26 rfl rfl (fun bk5_8 w hw => ?_))
      refine rl_k rfl (k_storeWhole hw T.agg_26_4 rfl rfl (by simp [Value.oneCell']) rfl (by (repeat first | with_reducible exact xH | apply xT); first | done | fail) rfl (fun w hw => ?_))
      refine xV rfl rfl rfl (v_assign rfl) ?_
      refine rl_nil (g_le (xK (xK (xK (xK (xK (xK (xK (xK (xK (xK (Fr.le_refl _))))))))))) ?_)
      refine g_seq (g_seq ?_)
      refine g_region ?_
      refine xV rfl rfl rfl (v_move rfl) ?_
      refine xV rfl rfl rfl (v_neq rfl rfl) ?_
      refine rl_nil (g_le (xK (xK (Fr.le_refl _))) ?_)
      refine g_cond rfl (fun h2 => ?_) (fun h2 => ?_)
      · try with_reducible exact ft_elim h2
        all_goals
          try replace h2 := of_decide_eq_true h2
          refine g_seq ?_
          refine g_region ?_
          refine xV rfl rfl rfl (v_move rfl) ?_
          refine xV rfl rfl rfl (v_assign rfl) ?_
          refine xV rfl rfl rfl (v_assign rfl) ?_
          refine rl_nil (g_le (xK (xK (xK (Fr.le_refl _)))) ?_)
          refine g_ret2 Try.func60 rfl rfl rfl ?_
          rw [if_pos h2] at hla
          rw [hla]
          refine ⟨g3, A3, none, 0, hg2.trans hg3, hI3, rfl, by simp, by simp, ?_⟩
          exact (own_kd0' (hw.xQ : Sat E w (A3 :: RO g3 :: L))).xQ
      · try with_reducible exact tf_elim h2
        all_goals
          try replace h2 := of_decide_eq_false h2
          have hb0 : bad = 0 := by omega
          rw [if_neg h2] at hla
          obtain ⟨kb, kc2, rfl, _, _, _⟩ := (hw.xP (A := OwnSl 104 5 kv acc.length (acc.flatMap Kd.cells))).own_shape
          refine g_skip ?_
          refine g_drawR ord_f60_r8_C07c (by kernel_rfl) T.mixed hw (fun w hw => ?_)
          refine rs_a 0 rfl rfl rfl rfl (v_move rfl) ?_
          refine rs_a 1 rfl rfl rfl rfl (v_fieldAddr0 T.fld_117_0_0 rfl) ?_
          refine rs_v 2 rfl rfl rfl rfl (OpV.mono (v_loadAgg (vs := [_, _, _]) T.agg_84_3 rfl rfl) (fun w hw => by exact sat_cells hw (by (repeat first | with_reducible exact xH | apply xT); first | done | fail) ⟨rfl, rfl, rfl, trivial⟩)) (by exact hw) ?_
          refine rs_v 4 rfl rfl rfl rfl (OpV.mono (v_loadAgg (vs := [_, _, _, _]) T.agg_26_4 rfl rfl) (fun w hw => by exact sat_cells hw (by (repeat first | with_reducible exact xH | apply xT); first | done | fail) ⟨rfl, rfl, rfl, rfl, trivial⟩)) (by exact hw) ?_
          refine rs_k 3 rfl rfl (k_callf Try.func57 rfl rfl rfl rfl ?_)
          refine Calls.mono (low_calls (mono_Nd hg3 hnd) (hw.xP)) ?_
          rintro _ w ⟨rfl, hw⟩
          refine ⟨_, rfl, ?_⟩
          refine ⟨fun _ => (by exact Sat.sub hw (by (repeat (first | with_reducible exact Sub.refl _ | exact Sub.nil _ | (apply Sub.cons; focus ((repeat (first | with_reducible exact Pick.here _ | apply Pick.there)); (first | done | fail))) | with_reducible apply Sub.drop)); first | done | fail)), ?_⟩
          refine rs_kv 5 rfl rfl rfl rfl (S' := fun _ => True) trivial (v_build rfl (T.build_104_0_1 ..)) ?_
          refine rs_k 6 rfl rfl (k_buildSlice (cells := [_, _, _, _, _]) hw T.sl_82_104_5 T.zero_104 rfl rfl rfl rfl rfl rfl (fun bk8_6 w hw => ?_))
          refine ⟨fun hn => absurd (by decide) hn, ?_⟩
          refine rs_k 7 rfl rfl (k_append (news := [_, _, _, _, _]) hw T.sl_82_104_5 T.zero_104 T.bytes_104_48 rfl (by decide) rfl rfl (by (repeat first | with_reducible exact xH | apply xT); first | done | fail) rfl (by exact sat_cells hw (by (repeat first | with_reducible exact xH | apply xT); first | done | fail) ⟨rfl, rfl, rfl, rfl, rfl, trivial⟩) (by simp [Value.oneCell']) (by omega) (by simp only [maxLen]; omega) rfl (fun vv8_7 w hw hnil => ?_))
          refine ⟨fun hn => absurd (by decide) hn, ?_⟩
          refine rs_kv 8 rfl rfl rfl rfl (S' := fun _ => True) trivial (v_assign rfl) ?_
          refine rs_done (g_le (xK (xK (xK (xK (xK (xK (xK (xK (xK (Fr.le_refl _)))))))))) ?_)
          refine g_inBlock ?_
          refine g_region ?_
          refine xV rfl rfl rfl (v_add rfl rfl (by omega)) ?_
          refine xV rfl rfl rfl (v_move rfl) ?_
          refine rl_nil (g_le (xK (xK (Fr.le_refl _))) ?_)
          have hkd : (⟨lowN x, rf⟩ : Kd).ok := ⟨lowN_size (Nd.fine_of hnd), hrok⟩
          exact g_le (by repeat (first | exact Fr.le_nil _ | refine Fr.le_cons rfl ?_)) (ih (i + 1, g3, s3, A3, acc ++ [⟨lowN x, rf⟩], vv8_7) w ⟨by simp only; omega, by simp only; omega, hg2.trans hg3, hI3, by simp only; rw [show (i + 1).toNat = i.toNat + 1 by omega]; exact hla, by simp; omega, fun k hk => (List.mem_append.1 hk).elim (hok k) (fun h => by rw [List.mem_singleton.1 h]; exact hkd), by dsimp only; rw [List.length_append, List.flatMap_append, show List.flatMap Kd.cells [(⟨lowN x, rf⟩ : Kd)] = (⟨lowN x, rf⟩ : Kd).cells by simp, show [(⟨lowN x, rf⟩ : Kd)].length = 1 from rfl]; exact hw.xQ⟩ (by simp only; omega))
  · try with_reducible exact tf_elim h1
    all_goals
      try replace h1 := of_decide_eq_false h1
      refine g_exit rfl (g_seq ?_)
      refine g_region ?_
      refine xV rfl rfl rfl (v_move rfl) ?_
      refine xV rfl rfl rfl (v_assign rfl) ?_
      refine xV rfl rfl rfl (v_assign rfl) ?_
      refine rl_nil (g_le (xK (xK (xS rfl (Fr.le_refl _)))) ?_)
      refine g_ret2 Try.func60 rfl rfl rfl ?_
      rw [List.drop_eq_nil_of_le (by omega)] at hla
      have hla : layO D.ops s l [] = (acc, 0, s2) := hla
      obtain ⟨kb, kc2, rfl, _, _, _⟩ := (hw.xP (A := OwnSl 104 5 kv acc.length (acc.flatMap Kd.cells))).own_shape
      rw [hla]
      exact ⟨g2, A2, kb, kc2, hg2, hI2, rfl, hok, by dsimp only; omega, hw.xQ⟩
end Go.Proofs.Ytdiocmjhencbpaa
