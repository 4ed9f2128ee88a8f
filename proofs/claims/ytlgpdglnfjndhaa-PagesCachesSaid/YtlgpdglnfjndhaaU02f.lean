/-
  Terms (layer 2): a whole term read; boxes opened (layer 3).
-/
import Derived.Test.YtlgpdglnfjndhaaU02e
namespace Go.Proofs.Ytlgpdglnfjndhaa
set_option maxRecDepth 8000
set_option linter.unusedSimpArgs false
set_option linter.unusedVariables false
open Go Xe Go.Lib
def finD (kd n : Int) (b : ByteArray) (l : List Tm × ByteArray × Nat × Int) : Tm × ByteArray × Nat × Int :=
  if l.2.2.2 ≠ 0 then (tm0, l.2.1, l.2.2.1, l.2.2.2) else (.mk kd n b l.1, l.2.1, l.2.2.1, 0)
theorem decT_head {k c : Nat} {s : ByteArray} (h : (headD (k + 1) s c).2.2.2 ≠ 0) : (decT (k + 1) s c) = (tm0, s, c, (headD (k + 1) s c).2.2.2) := by
  unfold decT; rw [if_pos h]
theorem decT_more {k c n many : Nat} {s rest : ByteArray} {kd : Int} (hd : headD (k + 1) s c = (kd, n, rest, 0)) (h2 : kd ≠ 2) (hm : (if kd = 4 then 1 else if kd = 5 then n else 0) = many) :
    decT (k + 1) s c = finD kd (if kd = 5 then 0 else n) ByteArray.empty (decMany (decT k) many rest (c + 1) []) := by
  simp only [decT, hd, hm, finD]
  rw [if_neg (by simp), if_neg h2]
theorem decT_atom' {k c n : Nat} {s rest : ByteArray} (hd : headD (k + 1) s c = (2, n, rest, 0)) (h1 : n ≤ 4000) (h2 : n ≤ rest.size) :
    decT (k + 1) s c = finD 2 0 (rest.extract 0 n) (decMany (decT k) 0 (rest.extract n rest.size) (c + 1) []) := by
  rw [decT_atom hd h1 h2]; rfl
theorem decT_big {k c n : Nat} {s rest : ByteArray} (hd : headD (k + 1) s c = (2, n, rest, 0)) (h1 : 4000 < n) : decT (k + 1) s c = (tm0, s, c, 25) := by
  simp only [decT, hd]
  rw [if_neg (by simp), if_pos (by simp), if_pos h1]
theorem decT_short {k c n : Nat} {s rest : ByteArray} (hd : headD (k + 1) s c = (2, n, rest, 0)) (h1 : n ≤ 4000) (h2 : rest.size < n) : decT (k + 1) s c = (tm0, s, c, 20) := by
  simp only [decT, hd]
  rw [if_neg (by simp), if_pos (by simp), if_neg (by omega), if_pos h2]
theorem headD_0 (s : ByteArray) (c : Nat) : headD 0 s c = (0, 0, s, if 4000 ≤ c then 23 else 22) := by
  unfold headD; split <;> simp
theorem decMany_succ (f : ByteArray → Nat → Tm × ByteArray × Nat × Int) (m : Nat) (s : ByteArray) (c : Nat) (acc : List Tm) :
    decMany f (m + 1) s c acc = if (f s c).2.2.2 ≠ 0 then ([], (f s c).2.1, (f s c).2.2.1, (f s c).2.2.2) else decMany f m (f s c).2.1 (f s c).2.2.1 (acc ++ [(f s c).1]) := rfl
theorem readT0_calls {E : Env} {w : World} {L : List As} {g : Hp} {p : Nat} {s : ByteArray} {c : Nat} {ar : Int} (hs : s.size ≤ reachBytes) (hk : ar + (0 : Nat) = 12) (h0 : 0 ≤ ar) (hc : c ≤ 4000) (hw : Sat E w (RdrAt p s c :: RO g :: L)) :
    Calls Try.prog 91 #[.pointer (some ⟨p, 0, none⟩), .int .i64 ar] w fun e w' => ∃ g' cs s' c', g.le g' ∧ e = .returned (.tuple #[.agg cs.toArray, .int .i64 (decT 0 s c).2.2.2]) ∧ rdTm g' cs (decT 0 s c).1 ∧
      ((decT 0 s c).2.2.2 = 0 → s' = (decT 0 s c).2.1 ∧ c' = (decT 0 s c).2.2.1) ∧ Sat E w' (RdrAt p s' c' :: RO g' :: L) := by
  have e8 := headD_0 s c
  have e9 : decT 0 s c = (tm0, s, c, if 4000 ≤ c then 23 else 22) := rfl
  generalize hee : (if 4000 ≤ c then (23 : Int) else 22) = ee at e8 e9
  have hne : ee ≠ 0 := by rw [← hee]; split <;> omega
  refine calls_of_g (n := 91) Try.func91 rfl rfl rfl ?_
  change G _ _ _ _ _ [(0, _), (1, _)] _
  refine g_seq ?_
  refine g_region ?_
  refine rl_k rfl (k_alloc hw T.zero_111 rfl rfl (fun bk0_0 w hw => ?_))
  refine xV rfl rfl rfl (v_assign rfl) ?_
  refine rl_nil (g_le (xK (xK (Fr.le_refl _))) ?_)
  refine g_seq ?_
  refine g_region ?_
  refine xV rfl rfl rfl (v_move rfl) ?_
  refine xV rfl rfl rfl (v_move rfl) ?_
  refine rl_k rfl (k_callf Try.func99 rfl rfl rfl rfl ?_)
  refine Calls.mono (head_calls (k := 0) hs hk h0 hc (hw.xQ)) ?_
  rw [e8]
  dsimp only
  rintro _ w ⟨rfl, s1, c1, _, hw⟩
  refine ⟨_, rfl, ?_⟩
  refine xV rfl rfl rfl (v_move rfl) ?_
  refine xV rfl rfl rfl (v_extract rfl rfl) ?_
  refine xV rfl rfl rfl (v_extract rfl rfl) ?_
  refine xV rfl rfl rfl (v_extract rfl rfl) ?_
  refine xV rfl rfl rfl (v_assign rfl) ?_
  refine xV rfl rfl rfl (v_assign rfl) ?_
  refine xV rfl rfl rfl (v_assign rfl) ?_
  refine rl_nil (g_le (xK (xK (xK (xS rfl (xS rfl (xS rfl (xS rfl (xS rfl (xS rfl (xS rfl (Fr.le_refl _))))))))))) ?_)
  refine g_seq (g_seq ?_)
  refine g_region ?_
  refine xV rfl rfl rfl (v_move rfl) ?_
  refine xV rfl rfl rfl (v_neqT rfl rfl (by omega)) ?_
  refine rl_nil (g_le (xK (xS rfl (Fr.le_refl _))) ?_)
  refine g_cond rfl (fun h1 => ?_) (fun h1 => ?_)
  · try with_reducible exact ft_elim h1
    all_goals
      try replace h1 := of_decide_eq_true h1
      refine g_seq ?_
      refine g_region ?_
      refine xV rfl rfl rfl (v_build rfl (T.build_111 ..)) ?_
      refine xV rfl rfl rfl (v_move rfl) ?_
      refine rl_k rfl (k_storeWhole hw T.agg_111_4 rfl rfl (by simp [Value.oneCell']) rfl (by (repeat first | with_reducible exact xH | apply xT); first | done | fail) rfl (fun w hw => ?_))
      refine xV rfl rfl rfl (v_assign rfl) ?_
      refine rl_nil (g_le (xK (xS rfl (xS rfl (Fr.le_refl _)))) ?_)
      refine g_res2 Try.func91 rfl ⟨_, rfl, holds_agg (vs := [_, _, _, _]) T.agg_111_4 rfl (by exact sat_cells hw (by (repeat first | with_reducible exact xH | apply xT); first | done | fail) ⟨rfl, rfl, rfl, rfl, trivial⟩)⟩ rfl ?_
      rw [e9]
      exact ⟨g, _, s1, c1, Hp.le_refl _, rfl, rd_tm0 g, fun h => absurd h hne, hw.xQ⟩
  · try with_reducible exact tf_elim h1
    all_goals
      try replace h1 := of_decide_eq_false h1
      exact absurd h1 hne
set_option maxHeartbeats 4000000 in
theorem readT_calls : ∀ (k : Nat) {E : Env} {w : World} {L : List As} {g : Hp} {p : Nat} {s : ByteArray} {c : Nat} {ar : Int}, s.size ≤ reachBytes → ar + k = 12 → 0 ≤ ar → c ≤ 4000 → Sat E w (RdrAt p s c :: RO g :: L) →
    Calls Try.prog 91 #[.pointer (some ⟨p, 0, none⟩), .int .i64 ar] w fun e w' => ∃ g' cs s' c', g.le g' ∧ e = .returned (.tuple #[.agg cs.toArray, .int .i64 (decT k s c).2.2.2]) ∧ rdTm g' cs (decT k s c).1 ∧
      ((decT k s c).2.2.2 = 0 → s' = (decT k s c).2.1 ∧ c' = (decT k s c).2.2.1) ∧ Sat E w' (RdrAt p s' c' :: RO g' :: L) := by
  intro k
  induction k with
  | zero =>
    intro E w L g p s c ar hs hk h0 hc hw
    exact readT0_calls hs hk h0 hc hw
  | succ k ih0 =>
  intro E w L g p s c ar hs hk h0 hc hw
  have hok := headD_ok (k := k + 1) (s := s) (c := c)
  have hhd := decT_head (k := k) (s := s) (c := c)
  have hmo := fun {kd n many rest} => decT_more (k := k) (s := s) (c := c) (kd := kd) (n := n) (many := many) (rest := rest)
  have hat := fun {n rest} => decT_atom' (k := k) (s := s) (c := c) (n := n) (rest := rest)
  have hbg := fun {n rest} => decT_big (k := k) (s := s) (c := c) (n := n) (rest := rest)
  have hsh := fun {n rest} => decT_short (k := k) (s := s) (c := c) (n := n) (rest := rest)
  refine calls_of_g (n := 91) Try.func91 rfl rfl rfl ?_
  change G _ _ _ _ _ [(0, _), (1, _)] _
  refine g_seq ?_
  refine g_region ?_
  refine rl_k rfl (k_alloc hw T.zero_111 rfl rfl (fun bk0_0 w hw => ?_))
  refine xV rfl rfl rfl (v_assign rfl) ?_
  refine rl_nil (g_le (xK (xK (Fr.le_refl _))) ?_)
  refine g_seq ?_
  refine g_region ?_
  refine xV rfl rfl rfl (v_move rfl) ?_
  refine xV rfl rfl rfl (v_move rfl) ?_
  refine rl_k rfl (k_callf Try.func99 rfl rfl rfl rfl ?_)
  refine Calls.mono (head_calls (k := k + 1) hs hk h0 hc (hw.xQ)) ?_
  generalize headD (k + 1) s c = hd at *
  obtain ⟨kd, n, rest, er⟩ := hd
  dsimp only at *
  rintro _ w ⟨rfl, s1, c1, hsc, hw⟩
  refine ⟨_, rfl, ?_⟩
  refine xV rfl rfl rfl (v_move rfl) ?_
  refine xV rfl rfl rfl (v_extract rfl rfl) ?_
  refine xV rfl rfl rfl (v_extract rfl rfl) ?_
  refine xV rfl rfl rfl (v_extract rfl rfl) ?_
  refine xV rfl rfl rfl (v_assign rfl) ?_
  refine xV rfl rfl rfl (v_assign rfl) ?_
  refine xV rfl rfl rfl (v_assign rfl) ?_
  refine rl_nil (g_le (xK (xK (xK (xS rfl (xS rfl (xS rfl (xS rfl (xS rfl (xS rfl (xS rfl (Fr.le_refl _))))))))))) ?_)
  refine g_seq (g_seq ?_)
  refine g_region ?_
  refine xV rfl rfl rfl (v_move rfl) ?_
  refine xV rfl rfl rfl (v_neq rfl rfl) ?_
  refine rl_nil (g_le (xK (xS rfl (Fr.le_refl _))) ?_)
  refine g_cond rfl (fun h1 => ?_) (fun h1 => ?_)
  · try with_reducible exact ft_elim h1
    all_goals
      try replace h1 := of_decide_eq_true h1
      refine g_seq ?_
      refine g_region ?_
      refine xV rfl rfl rfl (v_build rfl (T.build_111 ..)) ?_
      refine xV rfl rfl rfl (v_move rfl) ?_
      refine rl_k rfl (k_storeWhole hw T.agg_111_4 rfl rfl (by simp [Value.oneCell']) rfl (by (repeat first | with_reducible exact xH | apply xT); first | done | fail) rfl (fun w hw => ?_))
      refine xV rfl rfl rfl (v_assign rfl) ?_
      refine rl_nil (g_le (xK (xS rfl (xS rfl (Fr.le_refl _)))) ?_)
      refine g_res2 Try.func91 rfl ⟨_, rfl, holds_agg (vs := [_, _, _, _]) T.agg_111_4 rfl (by exact sat_cells hw (by (repeat first | with_reducible exact xH | apply xT); first | done | fail) ⟨rfl, rfl, rfl, rfl, trivial⟩)⟩ rfl ?_
      rw [hhd h1]
      exact ⟨g, _, s1, c1, Hp.le_refl _, rfl, rd_tm0 g, fun h => absurd h h1, hw.xQ⟩
  · try with_reducible exact tf_elim h1
    all_goals
      try replace h1 := of_decide_eq_false h1
      obtain rfl : er = 0 := by omega
      obtain ⟨q1, _, q3, q4, q5, q6⟩ := hok rfl
      obtain ⟨rfl, rfl⟩ := hsc rfl
      simp only [reachBytes] at hs
      refine g_skip (g_seq ?_)
      refine g_region ?_
      refine xV rfl rfl rfl (v_move rfl) ?_
      refine xV rfl rfl rfl (v_build rfl (T.build_111_0 ..)) ?_
      refine rl_k rfl (k_alloc hw T.zero_111 rfl rfl (fun bk4_2 w hw => ?_))
      refine rl_k rfl (k_storeWhole hw T.agg_111_4 rfl rfl (by simp [Value.oneCell']) rfl (by (repeat first | with_reducible exact xH | apply xT); first | done | fail) rfl (fun w hw => ?_))
      refine rl_nil (g_le (xK (xS rfl (xS rfl (Fr.le_refl _)))) ?_)
      refine g_seq ?_
      refine g_region ?_
      refine xV rfl rfl rfl (v_assign rfl) ?_
      refine rl_nil (g_le (xK (Fr.le_refl _)) ?_)
      refine g_seq (g_seq ?_)
      refine g_region ?_
      refine xV rfl rfl rfl (v_move rfl) ?_
      refine rl_nil (g_le (xK (Fr.le_refl _)) ?_)
      refine g_cutc (σ := Nat × Int × ByteArray × ByteArray) (fun C x => (10, .int .u64 (x.1 : Nat)) :: C) [(0, _), (1, _), (4, _), (5, _), (9, _)] (by repeat (first | exact Fr.le_nil _ | refine Fr.le_cons rfl ?_)) (fun z w => z.1 < 2 ^ 64 ∧ (0 ≤ z.2.1 ∧ z.2.1 ≤ 18446744073709551615) ∧ z.2.2.1.size ≤ 140737488351232 ∧ z.2.2.2.size ≤ 140737488351232 ∧ decT (k + 1) s c = finD kd z.2.1 z.2.2.1 (decMany (decT k) z.1 z.2.2.2 (c + 1) []) ∧ Sat E w (pt bk4_2 (.cells (tmC kd z.2.1 z.2.2.1 (.slice none 0 0)).toArray 111 (0, 0)) :: RdrAt p z.2.2.2 (c + 1) :: pt bk0_0 (.cells (tmC 0 0 ByteArray.empty (.slice none 0 0)).toArray 111 (0, 0)) :: RO g :: L)) ?_ ?_
      · skip
        rintro ⟨many, num, bs, s2⟩ w ⟨hmy, hnum, hbs, hs2, heq, hw⟩
        dsimp only at hmy hnum hbs hs2 heq hw
        all_goals
          refine g_seq (g_block ?_)
          refine g_loopC (σ := Nat × List Tm × List Value × Value × ByteArray × Nat × Hp) (fun C x => (10, .int .u64 (x.1 : Nat)) :: C) [(0, _), (1, _), (4, _), (5, _), (9, _)] (by repeat (first | exact Fr.le_nil _ | refine Fr.le_cons rfl ?_)) (fun z w => z.1 < 2 ^ 64 ∧ z.2.1.length ≤ z.2.2.2.2.2.1 ∧ z.2.2.2.2.2.1 ≤ 4000 ∧ z.2.2.2.2.1.size ≤ 140737488351232 ∧ decMany (decT k) many s2 (c + 1) [] = decMany (decT k) z.1 z.2.2.2.2.1 z.2.2.2.2.2.1 z.2.1 ∧ g.le z.2.2.2.2.2.2 ∧ Els rdTm 4 z.2.2.2.2.2.2 z.2.2.1 z.2.1 ∧ Sat E w (OwnSl 111 4 z.2.2.2.1 z.2.1.length z.2.2.1 :: pt bk4_2 (.cells (tmC kd num bs z.2.2.2.1).toArray 111 (0, 0)) :: RdrAt p z.2.2.2.2.1 z.2.2.2.2.2.1 :: pt bk0_0 (.cells (tmC 0 0 ByteArray.empty (.slice none 0 0)).toArray 111 (0, 0)) :: RO z.2.2.2.2.2.2 :: L)) (fun z => z.1) ?_ (many, [], [], .slice none 0 0, s2, c + 1, g) (by repeat (first | exact Fr.le_nil _ | refine Fr.le_cons rfl ?_)) ⟨hmy, by simp, by simp only; omega, hs2, rfl, Hp.le_refl _, .nil, by simp only [List.length_nil]; exact (hw.own_nil 111 4).xQ⟩
          rintro ⟨m, acc, cells, v, s3, c3, g2⟩ w ⟨hm, hal, hc3, hs3, hde, hg2, hels, hw⟩ ih
          dsimp only at hm hal hc3 hs3 hde hg2 hels hw ih ⊢
          have hz := hw
          clear hw
          obtain ⟨va, vc, rfl, _, _, _⟩ := hz.own_shape
          have hw := hz
          clear hz
          refine g_seq (g_seq ?_)
          refine g_region ?_
          refine xV rfl rfl rfl (v_move rfl) ?_
          refine xV rfl rfl rfl (v_gtr rfl rfl) ?_
          refine rl_nil (g_le (xK (xK (Fr.le_refl _))) ?_)
          refine g_cond rfl (fun h9 => ?_) (fun h9 => ?_)
          · try with_reducible exact ft_elim h9
            all_goals
              try replace h9 := of_decide_eq_true h9
              obtain ⟨m, rfl⟩ : ∃ q, m = q + 1 := ⟨m - 1, by omega⟩
              rw [decMany_succ] at hde
              have hone := Els.ones one_Tm hels
              have hlen := hels.len
              have hdz := decT_size k s3 c3
              refine g_skip (g_seq (g_block (g_seq ?_)))
              refine g_region ?_
              refine xV rfl rfl rfl (v_move rfl) ?_
              refine xV rfl rfl rfl (v_move rfl) ?_
              refine xV rfl rfl rfl (v_add rfl rfl (by omega)) ?_
              refine rl_k rfl (k_callf Try.func91 rfl rfl rfl rfl ?_)
              refine Calls.mono (ih0 (by simp only [reachBytes]; omega) (by omega) (by omega) hc3 (hw.xQ)) ?_
              generalize decT k s3 c3 = dd at *
              obtain ⟨x, s4, c4, er⟩ := dd
              dsimp only at *
              rintro _ w ⟨g3, ecs, s5, c5, hg3, rfl, hrd, hsc, hw⟩
              obtain ⟨xa, xc, rfl, _⟩ := tm_shape hrd
              refine ⟨_, rfl, ?_⟩
              refine xV rfl rfl rfl (v_move rfl) ?_
              refine xV rfl rfl rfl (v_extract rfl rfl) ?_
              refine xV rfl rfl rfl (v_extract rfl rfl) ?_
              refine rl_k rfl (k_alloc hw T.zero_111 rfl rfl (fun bk24_7 w hw => ?_))
              refine rl_k rfl (k_storeWhole hw T.agg_111_4 rfl rfl (by simp [Value.oneCell']) rfl (by (repeat first | with_reducible exact xH | apply xT); first | done | fail) rfl (fun w hw => ?_))
              refine xV rfl rfl rfl (v_assign rfl) ?_
              refine rl_nil (g_le (xK (xK (xK (xK (xK (xK (xK (xK (xK (Fr.le_refl _)))))))))) ?_)
              refine g_seq (g_seq ?_)
              refine g_region ?_
              refine xV rfl rfl rfl (v_move rfl) ?_
              refine xV rfl rfl rfl (v_neq rfl rfl) ?_
              refine rl_nil (g_le (xK (xK (Fr.le_refl _))) ?_)
              refine g_cond rfl (fun h10 => ?_) (fun h10 => ?_)
              · try with_reducible exact ft_elim h10
                all_goals
                  try replace h10 := of_decide_eq_true h10
                  refine g_seq ?_
                  refine g_region ?_
                  refine xV rfl rfl rfl (v_build rfl (T.build_111 ..)) ?_
                  refine xV rfl rfl rfl (v_move rfl) ?_
                  refine rl_k rfl (k_storeWhole hw T.agg_111_4 rfl rfl (by simp [Value.oneCell']) rfl (by (repeat first | with_reducible exact xH | apply xT); first | done | fail) rfl (fun w hw => ?_))
                  refine xV rfl rfl rfl (v_assign rfl) ?_
                  refine rl_nil (g_le (xK (xK (xK (Fr.le_refl _)))) ?_)
                  refine g_res2 Try.func91 rfl ⟨_, rfl, holds_agg (vs := [_, _, _, _]) T.agg_111_4 rfl (by exact sat_cells hw (by (repeat first | with_reducible exact xH | apply xT); first | done | fail) ⟨rfl, rfl, rfl, rfl, trivial⟩)⟩ rfl ?_
                  rw [if_pos h10] at hde
                  rw [heq, hde]
                  unfold finD
                  dsimp only
                  rw [if_pos h10]
                  exact ⟨g3, _, _, _, hg2.trans hg3, rfl, rd_tm0 g3, fun h => absurd h h10, hw.xQ⟩
              · try with_reducible exact tf_elim h10
                all_goals
                  try replace h10 := of_decide_eq_false h10
                  obtain rfl : er = 0 := by omega
                  obtain ⟨rfl, rfl⟩ := hsc rfl
                  obtain ⟨d1, d2, d3⟩ := hdz rfl hc3
                  rw [if_neg h10] at hde
                  refine g_skip ?_
                  refine g_region ?_
                  refine xV rfl rfl rfl (v_fieldAddr0 T.fld_111_3_3 rfl) ?_
                  refine rl_v rfl rfl rfl (by exact sat_cell hw (by (repeat first | with_reducible exact xH | apply xT); first | done | fail) rfl) (v_load T.scal_109 rfl) ?_
                  refine rl_v rfl rfl rfl (by exact sat_cells hw (by (repeat first | with_reducible exact xH | apply xT); first | done | fail) ⟨rfl, rfl, rfl, rfl, trivial⟩) (v_loadAgg (vs := [_, _, _, _]) T.agg_111_4 rfl rfl) ?_
                  refine rl_k rfl (k_buildSlice (cells := [_, _, _, _]) hw T.sl_109_111_4 T.zero_111 rfl rfl rfl rfl rfl rfl (fun bk27_3 w hw => ?_))
                  refine rl_k rfl (k_append (news := [_, _, _, _]) hw T.sl_109_111_4 T.zero_111 T.bytes_111_56 rfl (by decide) rfl rfl (by (repeat first | with_reducible exact xH | apply xT); first | done | fail) rfl (by exact sat_cells hw (by (repeat first | with_reducible exact xH | apply xT); first | done | fail) ⟨rfl, rfl, rfl, rfl, trivial⟩) (by simp [Value.oneCell']) (by omega) (by simp only [maxLen]; omega) rfl (fun vv27_4 w hw hnil => ?_))
                  have hz := hw
                  clear hw
                  obtain ⟨wa, wc, rfl, _, _, _⟩ := hz.own_shape
                  have hw := hz
                  clear hz
                  refine xV rfl rfl rfl (v_fieldAddr0 T.fld_111_3_3 rfl) ?_
                  refine rl_k rfl (k_store hw T.scal_109 rfl rfl rfl (by (repeat first | with_reducible exact xH | apply xT); first | done | fail) rfl (by simp only [List.set, Int.reduceToNat, Nat.reduceMul, Nat.reduceAdd]; rfl) (fun w hw => ?_))
                  refine rl_nil (g_le (xK (xK (xK (xK (xK (xK (Fr.le_refl _))))))) ?_)
                  refine g_inBlock ?_
                  refine g_region ?_
                  refine xV rfl rfl rfl (v_move rfl) ?_
                  refine xV rfl rfl rfl (v_subW rfl rfl) ?_
                  rw [show IntKind.u64.wrap (((m + 1 : Nat) : Int) - 1) = ((m : Nat) : Int) by rw [u64_in' (by omega) (by omega)]; omega]
                  refine xV rfl rfl rfl (v_assign rfl) ?_
                  refine rl_nil (g_le (xK (xK (xK (Fr.le_refl _)))) ?_)
                  exact g_le (by repeat (first | exact Fr.le_nil _ | refine Fr.le_cons rfl ?_)) (ih (m, acc ++ [x], _, .slice wa (acc.length + 1) wc, s5, c5, g3) w ⟨by simp only; omega, by simp; omega, by simp only; omega, by simp only; omega, hde, hg2.trans hg3, (hels.mono mono_Tm hg3).snoc rfl hrd, by dsimp only; rw [List.length_append, List.length_singleton]; exact hw.xQ⟩ (by simp only; omega))
          · try with_reducible exact tf_elim h9
            all_goals
              try replace h9 := of_decide_eq_false h9
              refine g_exit rfl (g_seq ?_)
              obtain rfl : m = 0 := by omega
              rw [show decMany (decT k) 0 s3 c3 acc = (acc, s3, c3, 0) from rfl] at hde
              obtain ⟨g3, hg3, hl3, hw⟩ := (hw.xQ : Sat E w (RO g2 :: OwnSl 111 4 (.slice va acc.length vc) acc.length cells :: pt bk4_2 (.cells (tmC kd num bs (.slice va acc.length vc)).toArray 111 (0, 0)) :: RdrAt p s3 c3 :: pt bk0_0 (.cells (tmC 0 0 ByteArray.empty (.slice none 0 0)).toArray 111 (0, 0)) :: L)).freeze_sl (bytes := 56) mono_Tm hels rfl (by simp only [reachBytes]; omega)
              refine g_region ?_
              refine rl_v rfl rfl rfl (by exact sat_cells hw (by (repeat first | with_reducible exact xH | apply xT); first | done | fail) ⟨rfl, rfl, rfl, rfl, trivial⟩) (v_loadAgg (vs := [_, _, _, _]) T.agg_111_4 rfl rfl) ?_
              refine rl_k rfl (k_storeWhole hw T.agg_111_4 rfl rfl (by simp [Value.oneCell']) rfl (by (repeat first | with_reducible exact xH | apply xT); first | done | fail) rfl (fun w hw => ?_))
              refine xV rfl rfl rfl (v_assign rfl) ?_
              refine rl_nil (g_le (xK (xS rfl (Fr.le_refl _))) ?_)
              refine g_res2 Try.func91 rfl ⟨_, rfl, holds_agg (vs := [_, _, _, _]) T.agg_111_4 rfl (by exact sat_cells hw (by (repeat first | with_reducible exact xH | apply xT); first | done | fail) ⟨rfl, rfl, rfl, rfl, trivial⟩)⟩ rfl ?_
              rw [heq, hde]
              unfold finD
              dsimp only
              rw [if_neg (by simp)]
              exact ⟨g3, _, s3, c3, hg2.trans hg3, rfl, rdTm_mk ⟨hnum.1, hnum.2, by omega, by omega, by simp only [reachBytes]; omega⟩ hl3, fun _ => ⟨rfl, rfl⟩, hw.xQ⟩
      · intro joinb0
        refine g_block (g_seq (g_seq ?_))
        refine g_region ?_
        refine xV rfl rfl rfl (v_eql rfl rfl) ?_
        refine xV rfl rfl rfl (v_assign rfl) ?_
        refine rl_nil (g_le (xK (xS rfl (Fr.le_refl _))) ?_)
        refine g_cond rfl (fun h2 => ?_) (fun h2 => ?_)
        · try with_reducible exact ft_elim h2
          all_goals
            try replace h2 := of_decide_eq_true h2
            refine g_skip ?_
            refine g_cond rfl (fun h3 => ?_) (fun h3 => ?_)
            · try with_reducible exact ft_elim h3
              all_goals
                try replace h3 := of_decide_eq_true h3
                refine g_region ?_
                refine xV rfl rfl rfl (v_move rfl) ?_
                refine xV rfl rfl rfl (v_fieldAddr0 T.fld_111_1_1 rfl) ?_
                refine rl_k rfl (k_store hw T.scal_49 rfl rfl rfl (by (repeat first | with_reducible exact xH | apply xT); first | done | fail) rfl (by simp only [List.set, Int.reduceToNat, Nat.reduceMul, Nat.reduceAdd]; rfl) (fun w hw => ?_))
                refine rl_nil (g_le (xS rfl (xS rfl (Fr.le_refl _))) ?_)
                refine g_inBlock ?_
                exact joinb0 (0, n, ByteArray.empty, s1) w _ (by repeat (first | exact Fr.le_nil _ | refine Fr.le_cons rfl ?_)) ⟨by simp only; omega, by simp only; omega, by simp, by simp only; omega, by have e := hmo rfl (by omega) (by rw [if_neg (by omega), if_neg (by omega)]); rw [if_neg (by omega)] at e; exact e, (by dsimp only; exact (show Sat E w (pt bk4_2 (.cells (tmC kd n ByteArray.empty (.slice none 0 0)).toArray 111 (0, 0)) :: _) from hw).xQ)⟩
            · try with_reducible exact tf_elim h3
              all_goals
                try replace h3 := of_decide_eq_false h3
                exact absurd h2 h3
        · try with_reducible exact tf_elim h2
          all_goals
            try replace h2 := of_decide_eq_false h2
            refine g_region ?_
            refine xV rfl rfl rfl (v_eql rfl rfl) ?_
            refine xV rfl rfl rfl (v_assign rfl) ?_
            refine rl_nil (g_le (xK (xS rfl (Fr.le_refl _))) ?_)
            refine g_cond rfl (fun h3 => ?_) (fun h3 => ?_)
            · try with_reducible exact ft_elim h3
              all_goals
                try replace h3 := of_decide_eq_true h3
                refine g_region ?_
                refine xV rfl rfl rfl (v_move rfl) ?_
                refine xV rfl rfl rfl (v_fieldAddr0 T.fld_111_1_1 rfl) ?_
                refine rl_k rfl (k_store hw T.scal_49 rfl rfl rfl (by (repeat first | with_reducible exact xH | apply xT); first | done | fail) rfl (by simp only [List.set, Int.reduceToNat, Nat.reduceMul, Nat.reduceAdd]; rfl) (fun w hw => ?_))
                refine rl_nil (g_le (xS rfl (xS rfl (Fr.le_refl _))) ?_)
                refine g_inBlock ?_
                exact joinb0 (0, n, ByteArray.empty, s1) w _ (by repeat (first | exact Fr.le_nil _ | refine Fr.le_cons rfl ?_)) ⟨by simp only; omega, by simp only; omega, by simp, by simp only; omega, by have e := hmo rfl (by omega) (by rw [if_neg (by omega), if_neg (by omega)]); rw [if_neg (by omega)] at e; exact e, (by dsimp only; exact (show Sat E w (pt bk4_2 (.cells (tmC kd n ByteArray.empty (.slice none 0 0)).toArray 111 (0, 0)) :: _) from hw).xQ)⟩
            · try with_reducible exact tf_elim h3
              all_goals
                try replace h3 := of_decide_eq_false h3
                refine g_seq ?_
                refine g_region ?_
                refine xV rfl rfl rfl (v_eql rfl rfl) ?_
                refine xV rfl rfl rfl (v_assign rfl) ?_
                refine rl_nil (g_le (xK (xS rfl (Fr.le_refl _))) ?_)
                refine g_cond rfl (fun h4 => ?_) (fun h4 => ?_)
                · try with_reducible exact ft_elim h4
                  all_goals
                    try replace h4 := of_decide_eq_true h4
                    refine g_seq (g_seq ?_)
                    refine g_region ?_
                    refine xV rfl rfl rfl (v_move rfl) ?_
                    refine xV rfl rfl rfl (v_gtr rfl rfl) ?_
                    refine rl_nil (g_le (xK (xS rfl (Fr.le_refl _))) ?_)
                    refine g_cond rfl (fun h5 => ?_) (fun h5 => ?_)
                    · try with_reducible exact ft_elim h5
                      all_goals
                        try replace h5 := of_decide_eq_true h5
                        refine g_seq ?_
                        refine g_region ?_
                        refine xV rfl rfl rfl (v_build rfl (T.build_111 ..)) ?_
                        refine rl_k rfl (k_storeWhole hw T.agg_111_4 rfl rfl (by simp [Value.oneCell']) rfl (by (repeat first | with_reducible exact xH | apply xT); first | done | fail) rfl (fun w hw => ?_))
                        refine xV rfl rfl rfl (v_assign rfl) ?_
                        refine rl_nil (g_le (xK (xS rfl (Fr.le_refl _))) ?_)
                        refine g_res2 Try.func91 rfl ⟨_, rfl, holds_agg (vs := [_, _, _, _]) T.agg_111_4 rfl (by exact sat_cells hw (by (repeat first | with_reducible exact xH | apply xT); first | done | fail) ⟨rfl, rfl, rfl, rfl, trivial⟩)⟩ rfl ?_
                        have e9 : decT (k + 1) s c = (tm0, s, c, 25) := by rw [h4] at hbg; exact hbg rfl (by omega)
                        rw [e9]
                        exact ⟨g, _, _, _, Hp.le_refl _, rfl, rd_tm0 g, (fun h => by cases h), hw.xQ⟩
                    · try with_reducible exact tf_elim h5
                      all_goals
                        try replace h5 := of_decide_eq_false h5
                        refine g_skip (g_seq (g_seq ?_))
                        refine g_region ?_
                        refine xV rfl rfl rfl (v_move rfl) ?_
                        refine xV rfl rfl rfl (v_move rfl) ?_
                        refine xV rfl rfl rfl (v_nilCheck rfl) ?_
                        refine xV rfl rfl rfl (v_fieldAddr0 T.fld_164_0_0 rfl) ?_
                        refine rl_v rfl rfl rfl (by exact sat_cell hw (by (repeat first | with_reducible exact xH | apply xT); first | done | fail) rfl) (v_load T.scal_9 rfl) ?_
                        refine xV rfl rfl rfl (v_lenStr T.str_9 rfl) ?_
                        refine xV rfl rfl rfl (v_convU T.int_49_u64 T.int_3_i64 rfl (by omega) (by omega)) ?_
                        refine xV rfl rfl rfl (v_gtr rfl rfl) ?_
                        refine rl_nil (g_le (xK (xS rfl (xS rfl (xS rfl (xS rfl (xS rfl (xS rfl (xS rfl (Fr.le_refl _))))))))) ?_)
                        refine g_cond rfl (fun h6 => ?_) (fun h6 => ?_)
                        · try with_reducible exact ft_elim h6
                          all_goals
                            try replace h6 := of_decide_eq_true h6
                            refine g_seq ?_
                            refine g_region ?_
                            refine xV rfl rfl rfl (v_build rfl (T.build_111 ..)) ?_
                            refine rl_k rfl (k_storeWhole hw T.agg_111_4 rfl rfl (by simp [Value.oneCell']) rfl (by (repeat first | with_reducible exact xH | apply xT); first | done | fail) rfl (fun w hw => ?_))
                            refine xV rfl rfl rfl (v_assign rfl) ?_
                            refine rl_nil (g_le (xK (xS rfl (Fr.le_refl _))) ?_)
                            refine g_res2 Try.func91 rfl ⟨_, rfl, holds_agg (vs := [_, _, _, _]) T.agg_111_4 rfl (by exact sat_cells hw (by (repeat first | with_reducible exact xH | apply xT); first | done | fail) ⟨rfl, rfl, rfl, rfl, trivial⟩)⟩ rfl ?_
                            have e9 : decT (k + 1) s c = (tm0, s, c, 20) := by rw [h4] at hsh; exact hsh rfl (by omega) (by omega)
                            rw [e9]
                            exact ⟨g, _, _, _, Hp.le_refl _, rfl, rd_tm0 g, (fun h => by cases h), hw.xQ⟩
                        · try with_reducible exact tf_elim h6
                          all_goals
                            try replace h6 := of_decide_eq_false h6
                            refine g_skip (g_seq ?_)
                            refine g_region ?_
                            refine xV rfl rfl rfl (v_move rfl) ?_
                            refine xV rfl rfl rfl (v_nilCheck rfl) ?_
                            refine xV rfl rfl rfl (v_fieldAddr0 T.fld_164_0_0 rfl) ?_
                            refine rl_v rfl rfl rfl (by exact sat_cell hw (by (repeat first | with_reducible exact xH | apply xT); first | done | fail) rfl) (v_load T.scal_9 rfl) ?_
                            refine xV rfl rfl rfl (v_move rfl) ?_
                            refine xV rfl rfl rfl (v_sliceStrTo T.str_9 rfl rfl (by omega) (by omega)) ?_
                            refine xV rfl rfl rfl (v_fieldAddr0 T.fld_111_2_2 rfl) ?_
                            refine rl_k rfl (k_store hw T.scal_9 rfl rfl rfl (by (repeat first | with_reducible exact xH | apply xT); first | done | fail) rfl (by simp only [List.set, Int.reduceToNat, Nat.reduceMul, Nat.reduceAdd]; rfl) (fun w hw => ?_))
                            refine rl_nil (g_le (xS rfl (xS rfl (xS rfl (xS rfl (xS rfl (xS rfl (xS rfl (Fr.le_refl _)))))))) ?_)
                            refine g_region ?_
                            refine xV rfl rfl rfl (v_move rfl) ?_
                            refine xV rfl rfl rfl (v_move rfl) ?_
                            refine xV rfl rfl rfl (v_nilCheck rfl) ?_
                            refine xV rfl rfl rfl (v_fieldAddr0 T.fld_164_0_0 rfl) ?_
                            refine rl_v rfl rfl rfl (by exact sat_cell hw (by (repeat first | with_reducible exact xH | apply xT); first | done | fail) rfl) (v_load T.scal_9 rfl) ?_
                            refine xV rfl rfl rfl (v_move rfl) ?_
                            refine xV rfl rfl rfl (v_sliceStrFrom T.str_9 rfl rfl (by omega) (by omega)) ?_
                            refine xV rfl rfl rfl (v_nilCheck rfl) ?_
                            refine xV rfl rfl rfl (v_fieldAddr0 T.fld_164_0_0 rfl) ?_
                            refine rl_k rfl (k_store hw T.scal_9 rfl rfl rfl (by (repeat first | with_reducible exact xH | apply xT); first | done | fail) rfl (by simp only [List.set, Int.reduceToNat, Nat.reduceMul, Nat.reduceAdd]; rfl) (fun w hw => ?_))
                            refine rl_nil (g_le (xS rfl (xS rfl (xS rfl (xS rfl (xS rfl (xS rfl (xS rfl (xS rfl (xS rfl (Fr.le_refl _)))))))))) ?_)
                            refine g_inBlock ?_
                            rw [Int.toNat_natCast] at hw
                            exact joinb0 (0, 0, s1.extract 0 n, s1.extract n s1.size) w _ (by repeat (first | exact Fr.le_nil _ | refine Fr.le_cons rfl ?_)) ⟨by simp only; omega, by simp, by simp only [ByteArray.size_extract]; omega, by simp only [ByteArray.size_extract]; omega, by rw [h4] at hat ⊢; exact hat rfl (by omega) (by omega), (by dsimp only; exact hw.xQ)⟩
                · try with_reducible exact tf_elim h4
                  all_goals
                    try replace h4 := of_decide_eq_false h4
                    refine g_seq ?_
                    refine g_region ?_
                    refine xV rfl rfl rfl (v_eql rfl rfl) ?_
                    refine xV rfl rfl rfl (v_assign rfl) ?_
                    refine rl_nil (g_le (xK (xS rfl (Fr.le_refl _))) ?_)
                    refine g_cond rfl (fun h7 => ?_) (fun h7 => ?_)
                    · try with_reducible exact ft_elim h7
                      all_goals
                        try replace h7 := of_decide_eq_true h7
                        refine g_seq ?_
                        refine g_region ?_
                        refine xV rfl rfl rfl (v_move rfl) ?_
                        refine xV rfl rfl rfl (v_fieldAddr0 T.fld_111_1_1 rfl) ?_
                        refine rl_k rfl (k_store hw T.scal_49 rfl rfl rfl (by (repeat first | with_reducible exact xH | apply xT); first | done | fail) rfl (by simp only [List.set, Int.reduceToNat, Nat.reduceMul, Nat.reduceAdd]; rfl) (fun w hw => ?_))
                        refine rl_nil (g_le (xS rfl (xS rfl (Fr.le_refl _))) ?_)
                        refine g_region ?_
                        refine xV rfl rfl rfl (v_assign rfl) ?_
                        refine rl_nil (g_le (xK (Fr.le_refl _)) ?_)
                        refine g_inBlock ?_
                        exact joinb0 (1, n, ByteArray.empty, s1) w _ (by repeat (first | exact Fr.le_nil _ | refine Fr.le_cons rfl ?_)) ⟨by simp only; omega, by simp only; omega, by simp, by simp only; omega, by have e := hmo rfl (by omega) (by rw [if_pos (by omega)]); rw [if_neg (by omega)] at e; exact e, (by dsimp only; exact (show Sat E w (pt bk4_2 (.cells (tmC kd n ByteArray.empty (.slice none 0 0)).toArray 111 (0, 0)) :: _) from hw).xQ)⟩
                    · try with_reducible exact tf_elim h7
                      all_goals
                        try replace h7 := of_decide_eq_false h7
                        refine g_seq ?_
                        refine g_region ?_
                        refine xV rfl rfl rfl (v_eqlT rfl rfl (by omega)) ?_
                        refine xV rfl rfl rfl (v_assign rfl) ?_
                        refine rl_nil (g_le (xK (xS rfl (Fr.le_refl _))) ?_)
                        refine g_cond rfl (fun h8 => ?_) (fun h8 => ?_)
                        · try with_reducible exact ft_elim h8
                          all_goals
                            try replace h8 := of_decide_eq_true h8
                            refine g_region ?_
                            refine xV rfl rfl rfl (v_move rfl) ?_
                            refine xV rfl rfl rfl (v_assign rfl) ?_
                            refine rl_nil (g_le (xK (xS rfl (Fr.le_refl _))) ?_)
                            refine g_inBlock ?_
                            exact joinb0 (n, 0, ByteArray.empty, s1) w _ (by repeat (first | exact Fr.le_nil _ | refine Fr.le_cons rfl ?_)) ⟨by simp only; omega, by simp, by simp, by simp only; omega, by have e := hmo rfl (by omega) (by rw [if_neg (by omega), if_pos (by omega)]); rw [if_pos (by omega)] at e; exact e, (by dsimp only; exact hw.xQ)⟩
                        · try with_reducible exact tf_elim h8
                          all_goals
                            try replace h8 := of_decide_eq_false h8
                            exfalso; omega
theorem decode_calls {E : Env} {w : World} {L : List As} {g : Hp} {s : ByteArray} (hs : s.size ≤ reachBytes) (hw : Sat E w (RO g :: L)) :
    Calls Try.prog 78 #[.string s] w fun e w' => ∃ g' cs, g.le g' ∧ e = .returned (.tuple #[.agg cs.toArray, .int .i64 (decode s).2]) ∧ rdTm g' cs (decode s).1 ∧ Sat E w' (RO g' :: L) := by
  unfold decode
  refine calls_of_g (n := 26) Try.func78 rfl rfl rfl ?_
  change G _ _ _ _ _ [(0, _)] _
  refine g_seq ?_
  refine g_region ?_
  refine rl_k rfl (k_alloc hw T.zero_111 rfl rfl (fun bk0_0 w hw => ?_))
  refine xV rfl rfl rfl (v_assign rfl) ?_
  refine rl_nil (g_le (xK (xK (Fr.le_refl _))) ?_)
  refine g_seq ?_
  refine g_region ?_
  refine xV rfl rfl rfl (v_move rfl) ?_
  refine xV rfl rfl rfl (v_build rfl (T.build_164_0 ..)) ?_
  refine rl_k rfl (k_box hw rfl rfl rfl (fun bk1_2 w hw => ?_))
  refine xV rfl rfl rfl (v_assign rfl) ?_
  refine rl_nil (g_le (xK (xS rfl (xS rfl (xS rfl (Fr.le_refl _))))) ?_)
  refine g_seq ?_
  refine g_region ?_
  refine xV rfl rfl rfl (v_move rfl) ?_
  refine rl_k rfl (k_callf Try.func91 rfl rfl rfl rfl ?_)
  refine Calls.mono (readT_calls 12 (c := 0) (ar := 0) hs (by omega) (by omega) (by omega) (by simp only [RdrAt, Int.ofNat_zero] at hw ⊢; exact hw.xQ)) ?_
  generalize decT 12 s 0 = dd
  obtain ⟨x, s4, c4, er⟩ := dd
  dsimp only
  rintro _ w ⟨g1, cs1, s5, c5, hg1, rfl, hrd, hsc, hw⟩
  obtain ⟨xa, xc, rfl, _⟩ := tm_shape hrd
  refine ⟨_, rfl, ?_⟩
  refine xV rfl rfl rfl (v_move rfl) ?_
  refine xV rfl rfl rfl (v_extract rfl rfl) ?_
  refine xV rfl rfl rfl (v_extract rfl rfl) ?_
  refine rl_k rfl (k_alloc hw T.zero_111 rfl rfl (fun bk2_5 w hw => ?_))
  refine rl_k rfl (k_storeWhole hw T.agg_111_4 rfl rfl (by simp [Value.oneCell']) rfl (by (repeat first | with_reducible exact xH | apply xT); first | done | fail) rfl (fun w hw => ?_))
  refine xV rfl rfl rfl (v_assign rfl) ?_
  refine rl_nil (g_le (xK (xK (xS rfl (xS rfl (xS rfl (xS rfl (xS rfl (Fr.le_refl _)))))))) ?_)
  refine g_seq (g_seq ?_)
  refine g_region ?_
  refine xV rfl rfl rfl (v_move rfl) ?_
  refine xV rfl rfl rfl (v_neq rfl rfl) ?_
  refine rl_nil (g_le (xK (xS rfl (Fr.le_refl _))) ?_)
  refine g_cond rfl (fun h1 => ?_) (fun h1 => ?_)
  · try with_reducible exact ft_elim h1
    all_goals
      try replace h1 := of_decide_eq_true h1
      refine g_seq ?_
      refine g_region ?_
      refine xV rfl rfl rfl (v_build rfl (T.build_111 ..)) ?_
      refine xV rfl rfl rfl (v_move rfl) ?_
      refine rl_k rfl (k_storeWhole hw T.agg_111_4 rfl rfl (by simp [Value.oneCell']) rfl (by (repeat first | with_reducible exact xH | apply xT); first | done | fail) rfl (fun w hw => ?_))
      refine xV rfl rfl rfl (v_assign rfl) ?_
      refine rl_nil (g_le (xK (xS rfl (xS rfl (Fr.le_refl _)))) ?_)
      refine g_res2 Try.func78 rfl ⟨_, rfl, holds_agg (vs := [_, _, _, _]) T.agg_111_4 rfl (by exact sat_cells hw (by (repeat first | with_reducible exact xH | apply xT); first | done | fail) ⟨rfl, rfl, rfl, rfl, trivial⟩)⟩ rfl ?_
      rw [if_pos h1]
      exact ⟨g1, _, hg1, rfl, rd_tm0 g1, hw.xQ⟩
  · try with_reducible exact tf_elim h1
    all_goals
      try replace h1 := of_decide_eq_false h1
      obtain rfl : er = 0 := by omega
      obtain ⟨rfl, rfl⟩ := hsc rfl
      rw [if_neg h1]
      refine g_skip (g_seq (g_seq ?_))
      refine g_region ?_
      refine xV rfl rfl rfl (v_move rfl) ?_
      refine xV rfl rfl rfl (v_nilCheck rfl) ?_
      refine xV rfl rfl rfl (v_fieldAddr0 T.fld_164_0_0 rfl) ?_
      refine rl_v rfl rfl rfl (by exact sat_cell hw (by (repeat first | with_reducible exact xH | apply xT); first | done | fail) rfl) (v_load T.scal_9 rfl) ?_
      refine xV rfl rfl rfl (v_neqStr rfl rfl) ?_
      refine rl_nil (g_le (xK (xS rfl (xS rfl (xS rfl (xS rfl (Fr.le_refl _)))))) ?_)
      refine g_cond rfl (fun h2 => ?_) (fun h2 => ?_)
      · try with_reducible exact ft_elim h2
        all_goals
          try replace h2 := of_decide_eq_true h2
          refine g_seq ?_
          refine g_region ?_
          refine xV rfl rfl rfl (v_build rfl (T.build_111 ..)) ?_
          refine rl_k rfl (k_storeWhole hw T.agg_111_4 rfl rfl (by simp [Value.oneCell']) rfl (by (repeat first | with_reducible exact xH | apply xT); first | done | fail) rfl (fun w hw => ?_))
          refine xV rfl rfl rfl (v_assign rfl) ?_
          refine rl_nil (g_le (xK (xS rfl (Fr.le_refl _))) ?_)
          refine g_res2 Try.func78 rfl ⟨_, rfl, holds_agg (vs := [_, _, _, _]) T.agg_111_4 rfl (by exact sat_cells hw (by (repeat first | with_reducible exact xH | apply xT); first | done | fail) ⟨rfl, rfl, rfl, rfl, trivial⟩)⟩ rfl ?_
          rw [if_pos (fun h => h2 (ByteArray.size_eq_zero_iff.1 h))]
          exact ⟨g1, _, hg1, rfl, rd_tm0 g1, hw.xQ⟩
      · try with_reducible exact tf_elim h2
        all_goals
          try replace h2 := of_decide_eq_false h2
          refine g_skip (g_seq ?_)
          refine g_region ?_
          refine rl_v rfl rfl rfl (by exact sat_cells hw (by (repeat first | with_reducible exact xH | apply xT); first | done | fail) ⟨rfl, rfl, rfl, rfl, trivial⟩) (v_loadAgg (vs := [_, _, _, _]) T.agg_111_4 rfl rfl) ?_
          refine rl_k rfl (k_storeWhole hw T.agg_111_4 rfl rfl (by simp [Value.oneCell']) rfl (by (repeat first | with_reducible exact xH | apply xT); first | done | fail) rfl (fun w hw => ?_))
          refine xV rfl rfl rfl (v_assign rfl) ?_
          refine rl_nil (g_le (xK (xS rfl (Fr.le_refl _))) ?_)
          refine g_res2 Try.func78 rfl ⟨_, rfl, holds_agg (vs := [_, _, _, _]) T.agg_111_4 rfl (by exact sat_cells hw (by (repeat first | with_reducible exact xH | apply xT); first | done | fail) ⟨rfl, rfl, rfl, rfl, trivial⟩)⟩ rfl ?_
          rw [if_neg (by rw [show s5 = ByteArray.mk #[] from Classical.not_not.1 h2]; decide)]
          exact ⟨g1, _, hg1, rfl, hrd, hw.xQ⟩
def unpackB (key : Int) (s : ByteArray) : Tm × Int := if (decode s).2 ≠ 0 then (tm0, (decode s).2) else openB key (decode s).1
theorem rightT_sh {t : Tm} (h : rightT t = 0) : nT t ≤ 4000 ∧ hT t ≤ 12 ∧ shT t = true := by
  unfold rightT at h
  by_cases h1 : nT t > 4000
  · rw [if_pos h1] at h; cases h
  · rw [if_neg h1] at h
    by_cases h2 : hT t > 12
    · rw [if_pos h2] at h; cases h
    · rw [if_neg h2] at h
      by_cases h3 : shT t = true
      · exact ⟨by omega, by omega, h3⟩
      · rw [if_neg h3] at h; cases h
theorem open_calls {E : Env} {w : World} {L : List As} {g : Hp} {cs : List Value} {t : Tm} (key : Int) (ht : rdTm g cs t) (hw : Sat E w (RO g :: L)) :
    Calls Try.prog 79 #[.int .u64 key, .agg cs.toArray] w fun e w' => ∃ g' cs', g.le g' ∧ e = .returned (.tuple #[.agg cs'.toArray, .int .i64 (openB key t).2]) ∧ rdTm g' cs' (openB key t).1 ∧ Sat E w' (RO g' :: L) := by
  obtain ⟨a, c, rfl, _, hl⟩ := tm_shape ht
  obtain ⟨_, _, hc1, hmx, g9⟩ := rdSl_get hl
  unfold openB
  refine calls_of_g (n := 29) Try.func79 rfl rfl rfl ?_
  change G _ _ _ _ _ [(0, _), (1, _)] _
  refine g_seq ?_
  refine g_region ?_
  refine rl_k rfl (k_box hw rfl rfl rfl (fun bk0_0 w hw => ?_))
  refine rl_k rfl (k_alloc hw T.zero_111 rfl rfl (fun bk0_1 w hw => ?_))
  refine xV rfl rfl rfl (v_assign rfl) ?_
  refine rl_nil (g_le (xK (xK (xK (Fr.le_refl _)))) ?_)
  refine g_seq (g_seq ?_)
  refine g_region ?_
  refine rl_v rfl rfl rfl (by exact sat_cells hw (by (repeat first | with_reducible exact xH | apply xT); first | done | fail) ⟨rfl, rfl, rfl, rfl, trivial⟩) (v_loadAgg (vs := [_, _, _, _]) T.agg_111_4 rfl rfl) ?_
  refine rl_k rfl (k_callf Try.func80 rfl rfl rfl rfl ?_)
  refine Calls.mono (tright_calls ht (hw.xQ)) ?_
  rintro _ w ⟨rfl, hw⟩
  refine ⟨_, rfl, ?_⟩
  refine xV rfl rfl rfl (v_assign rfl) ?_
  refine rl_nil (g_le (xK (xS rfl (xS rfl (Fr.le_refl _)))) ?_)
  refine g_seq ?_
  refine g_region ?_
  refine xV rfl rfl rfl (v_move rfl) ?_
  refine xV rfl rfl rfl (v_neq rfl rfl) ?_
  refine rl_nil (g_le (xK (xS rfl (Fr.le_refl _))) ?_)
  refine g_cond rfl (fun h1 => ?_) (fun h1 => ?_)
  · try with_reducible exact ft_elim h1
    all_goals
      try replace h1 := of_decide_eq_true h1
      refine g_seq ?_
      refine g_region ?_
      refine xV rfl rfl rfl (v_build rfl (T.build_111 ..)) ?_
      refine xV rfl rfl rfl (v_move rfl) ?_
      refine rl_k rfl (k_storeWhole hw T.agg_111_4 rfl rfl (by simp [Value.oneCell']) rfl (by (repeat first | with_reducible exact xH | apply xT); first | done | fail) rfl (fun w hw => ?_))
      refine xV rfl rfl rfl (v_assign rfl) ?_
      refine rl_nil (g_le (xK (xS rfl (xS rfl (Fr.le_refl _)))) ?_)
      refine g_res2 Try.func79 rfl ⟨_, rfl, holds_agg (vs := [_, _, _, _]) T.agg_111_4 rfl (by exact sat_cells hw (by (repeat first | with_reducible exact xH | apply xT); first | done | fail) ⟨rfl, rfl, rfl, rfl, trivial⟩)⟩ rfl ?_
      rw [if_pos h1]
      exact ⟨g, _, Hp.le_refl _, rfl, rd_tm0 g, hw.xQ⟩
  · try with_reducible exact tf_elim h1
    all_goals
      try replace h1 := of_decide_eq_false h1
      rw [if_neg h1]
      refine g_skip (g_seq (g_seq ?_))
      refine g_region ?_
      refine xV rfl rfl rfl (v_fieldAddr0 T.fld_111_0_0 rfl) ?_
      refine rl_v rfl rfl rfl (by exact sat_cell hw (by (repeat first | with_reducible exact xH | apply xT); first | done | fail) rfl) (v_load T.scal_3 rfl) ?_
      refine xV rfl rfl rfl (v_neq rfl rfl) ?_
      refine rl_nil (g_le (xK (xS rfl (xS rfl (Fr.le_refl _)))) ?_)
      refine g_cond rfl (fun h2 => ?_) (fun h2 => ?_)
      · try with_reducible exact ft_elim h2
        all_goals
          try replace h2 := of_decide_eq_true h2
          refine g_seq ?_
          refine g_region ?_
          refine xV rfl rfl rfl (v_build rfl (T.build_111 ..)) ?_
          refine rl_k rfl (k_storeWhole hw T.agg_111_4 rfl rfl (by simp [Value.oneCell']) rfl (by (repeat first | with_reducible exact xH | apply xT); first | done | fail) rfl (fun w hw => ?_))
          refine xV rfl rfl rfl (v_assign rfl) ?_
          refine rl_nil (g_le (xK (xS rfl (Fr.le_refl _))) ?_)
          refine g_res2 Try.func79 rfl ⟨_, rfl, holds_agg (vs := [_, _, _, _]) T.agg_111_4 rfl (by exact sat_cells hw (by (repeat first | with_reducible exact xH | apply xT); first | done | fail) ⟨rfl, rfl, rfl, rfl, trivial⟩)⟩ rfl ?_
          rw [if_pos h2]
          exact ⟨g, _, Hp.le_refl _, rfl, rd_tm0 g, hw.xQ⟩
      · try with_reducible exact tf_elim h2
        all_goals
          try replace h2 := of_decide_eq_false h2
          rw [if_neg h2]
          refine g_skip (g_seq (g_seq ?_))
          refine g_region ?_
          refine xV rfl rfl rfl (v_fieldAddr0 T.fld_111_1_1 rfl) ?_
          refine rl_v rfl rfl rfl (by exact sat_cell hw (by (repeat first | with_reducible exact xH | apply xT); first | done | fail) rfl) (v_load T.scal_49 rfl) ?_
          refine xV rfl rfl rfl (v_move rfl) ?_
          refine xV rfl rfl rfl (v_neq rfl rfl) ?_
          refine rl_nil (g_le (xK (xS rfl (xS rfl (xS rfl (Fr.le_refl _))))) ?_)
          refine g_cond rfl (fun h3 => ?_) (fun h3 => ?_)
          · try with_reducible exact ft_elim h3
            all_goals
              try replace h3 := of_decide_eq_true h3
              refine g_seq ?_
              refine g_region ?_
              refine xV rfl rfl rfl (v_build rfl (T.build_111 ..)) ?_
              refine rl_k rfl (k_storeWhole hw T.agg_111_4 rfl rfl (by simp [Value.oneCell']) rfl (by (repeat first | with_reducible exact xH | apply xT); first | done | fail) rfl (fun w hw => ?_))
              refine xV rfl rfl rfl (v_assign rfl) ?_
              refine rl_nil (g_le (xK (xS rfl (Fr.le_refl _))) ?_)
              refine g_res2 Try.func79 rfl ⟨_, rfl, holds_agg (vs := [_, _, _, _]) T.agg_111_4 rfl (by exact sat_cells hw (by (repeat first | with_reducible exact xH | apply xT); first | done | fail) ⟨rfl, rfl, rfl, rfl, trivial⟩)⟩ rfl ?_
              rw [if_pos h3]
              exact ⟨g, _, Hp.le_refl _, rfl, rd_tm0 g, hw.xQ⟩
          · try with_reducible exact tf_elim h3
            all_goals
              try replace h3 := of_decide_eq_false h3
              rw [if_neg h3]
              refine g_skip (g_seq ?_)
              have hln : t.list.length = 1 := by
                have h9 := (rightT_sh (t := t) (by omega)).2.2
                rw [shT_list, Bool.and_eq_true] at h9
                have h7 := h9.1
                unfold oneT at h7
                rw [if_neg (by omega), if_neg (by omega), if_pos (by omega)] at h7
                exact (of_decide_eq_true h7).2
              have hz := hw
              clear hw
              obtain ⟨b4, o1, x, ecs, rfl, hx, hat1, hl1, hrd⟩ := g9 0 (by omega) (by omega)
              obtain ⟨xa, xc, rfl, _⟩ := tm_shape hrd
              have hw := hz
              clear hz
              have hhd : t.list.headD tm0 = x := by cases hq : t.list with | nil => rw [hq] at hx; cases hx | cons y ys => rw [hq] at hx; exact Option.some.inj hx
              rw [hhd]
              refine g_region ?_
              refine xV rfl rfl rfl (v_fieldAddr0 T.fld_111_3_3 rfl) ?_
              refine rl_v rfl rfl rfl (by exact sat_cell hw (by (repeat first | with_reducible exact xH | apply xT); first | done | fail) rfl) (v_load T.scal_109 rfl) ?_
              refine xV rfl rfl rfl (v_indexAddr T.sl_109_111_4 rfl rfl (by omega) (by omega)) ?_
              refine rl_v rfl rfl rfl (by exact ro_ats hw (by (repeat first | with_reducible exact xH | apply xT); first | done | fail) (by assumption)) (v_loadAgg (vs := [_, _, _, _]) T.agg_111_4 rfl rfl) ?_
              refine rl_k rfl (k_callf Try.func89 rfl rfl rfl rfl ?_)
              refine Calls.mono (own_calls hrd (hw.xQ)) ?_
              rintro _ w ⟨g2, cs2, hg2, rfl, hrd2, hw⟩
              obtain ⟨ya, yc, rfl, _⟩ := tm_shape hrd2
              refine ⟨_, rfl, ?_⟩
              refine xV rfl rfl rfl (v_extract rfl rfl) ?_
              refine xV rfl rfl rfl (v_extract rfl rfl) ?_
              refine rl_k rfl (k_storeWhole hw T.agg_111_4 rfl rfl (by simp [Value.oneCell']) rfl (by (repeat first | with_reducible exact xH | apply xT); first | done | fail) rfl (fun w hw => ?_))
              refine xV rfl rfl rfl (v_assign rfl) ?_
              refine rl_nil (g_le (xK (xS rfl (xS rfl (xS rfl (xS rfl (xS rfl (xS rfl (xS rfl (Fr.le_refl _))))))))) ?_)
              refine g_res2 Try.func79 rfl ⟨_, rfl, holds_agg (vs := [_, _, _, _]) T.agg_111_4 rfl (by exact sat_cells hw (by (repeat first | with_reducible exact xH | apply xT); first | done | fail) ⟨rfl, rfl, rfl, rfl, trivial⟩)⟩ rfl ?_
              exact ⟨g2, _, hg2, rfl, hrd2, hw.xQ⟩
theorem unpack_calls {E : Env} {w : World} {L : List As} {g : Hp} {s : ByteArray} (key : Int) (hs : s.size ≤ reachBytes) (hw : Sat E w (RO g :: L)) :
    Calls Try.prog 57 #[.int .u64 key, .string s] w fun e w' => ∃ g' cs', g.le g' ∧ e = .returned (.tuple #[.agg cs'.toArray, .int .i64 (unpackB key s).2]) ∧ rdTm g' cs' (unpackB key s).1 ∧ Sat E w' (RO g' :: L) := by
  unfold unpackB
  refine calls_of_g (n := 22) Try.func57 rfl rfl rfl ?_
  change G _ _ _ _ _ [(0, _), (1, _)] _
  refine g_seq ?_
  refine g_region ?_
  refine rl_k rfl (k_alloc hw T.zero_111 rfl rfl (fun bk0_0 w hw => ?_))
  refine xV rfl rfl rfl (v_assign rfl) ?_
  refine rl_nil (g_le (xK (xK (Fr.le_refl _))) ?_)
  refine g_seq ?_
  refine g_region ?_
  refine xV rfl rfl rfl (v_move rfl) ?_
  refine rl_k rfl (k_callf Try.func78 rfl rfl rfl rfl ?_)
  refine Calls.mono (decode_calls hs (hw.xQ)) ?_
  rintro _ w ⟨g1, cs1, hg1, rfl, hrd, hw⟩
  obtain ⟨xa, xc, rfl, _⟩ := tm_shape hrd
  refine ⟨_, rfl, ?_⟩
  refine xV rfl rfl rfl (v_move rfl) ?_
  refine xV rfl rfl rfl (v_extract rfl rfl) ?_
  refine xV rfl rfl rfl (v_extract rfl rfl) ?_
  refine rl_k rfl (k_alloc hw T.zero_111 rfl rfl (fun bk1_5 w hw => ?_))
  refine rl_k rfl (k_storeWhole hw T.agg_111_4 rfl rfl (by simp [Value.oneCell']) rfl (by (repeat first | with_reducible exact xH | apply xT); first | done | fail) rfl (fun w hw => ?_))
  refine xV rfl rfl rfl (v_assign rfl) ?_
  refine rl_nil (g_le (xK (xK (xS rfl (xS rfl (xS rfl (xS rfl (xS rfl (Fr.le_refl _)))))))) ?_)
  refine g_seq (g_seq ?_)
  refine g_region ?_
  refine xV rfl rfl rfl (v_move rfl) ?_
  refine xV rfl rfl rfl (v_neq rfl rfl) ?_
  refine rl_nil (g_le (xK (xS rfl (Fr.le_refl _))) ?_)
  refine g_cond rfl (fun h1 => ?_) (fun h1 => ?_)
  · try with_reducible exact ft_elim h1
    all_goals
      try replace h1 := of_decide_eq_true h1
      refine g_seq ?_
      refine g_region ?_
      refine xV rfl rfl rfl (v_build rfl (T.build_111 ..)) ?_
      refine xV rfl rfl rfl (v_move rfl) ?_
      refine rl_k rfl (k_storeWhole hw T.agg_111_4 rfl rfl (by simp [Value.oneCell']) rfl (by (repeat first | with_reducible exact xH | apply xT); first | done | fail) rfl (fun w hw => ?_))
      refine xV rfl rfl rfl (v_assign rfl) ?_
      refine rl_nil (g_le (xK (xS rfl (xS rfl (Fr.le_refl _)))) ?_)
      refine g_res2 Try.func57 rfl ⟨_, rfl, holds_agg (vs := [_, _, _, _]) T.agg_111_4 rfl (by exact sat_cells hw (by (repeat first | with_reducible exact xH | apply xT); first | done | fail) ⟨rfl, rfl, rfl, rfl, trivial⟩)⟩ rfl ?_
      rw [if_pos h1]
      exact ⟨g1, _, hg1, rfl, rd_tm0 g1, hw.xQ⟩
  · try with_reducible exact tf_elim h1
    all_goals
      try replace h1 := of_decide_eq_false h1
      rw [if_neg h1]
      refine g_skip (g_seq ?_)
      refine g_region ?_
      refine xV rfl rfl rfl (v_move rfl) ?_
      refine rl_v rfl rfl rfl (by exact sat_cells hw (by (repeat first | with_reducible exact xH | apply xT); first | done | fail) ⟨rfl, rfl, rfl, rfl, trivial⟩) (v_loadAgg (vs := [_, _, _, _]) T.agg_111_4 rfl rfl) ?_
      refine rl_k rfl (k_callf Try.func79 rfl rfl rfl rfl ?_)
      refine Calls.mono (open_calls key hrd (hw.xQ)) ?_
      rintro _ w ⟨g2, cs2, hg2, rfl, hrd2, hw⟩
      obtain ⟨ya, yc, rfl, _⟩ := tm_shape hrd2
      refine ⟨_, rfl, ?_⟩
      refine xV rfl rfl rfl (v_extract rfl rfl) ?_
      refine xV rfl rfl rfl (v_extract rfl rfl) ?_
      refine rl_k rfl (k_storeWhole hw T.agg_111_4 rfl rfl (by simp [Value.oneCell']) rfl (by (repeat first | with_reducible exact xH | apply xT); first | done | fail) rfl (fun w hw => ?_))
      refine xV rfl rfl rfl (v_assign rfl) ?_
      refine rl_nil (g_le (xK (xS rfl (xS rfl (xS rfl (xS rfl (xS rfl (Fr.le_refl _))))))) ?_)
      refine g_res2 Try.func57 rfl ⟨_, rfl, holds_agg (vs := [_, _, _, _]) T.agg_111_4 rfl (by exact sat_cells hw (by (repeat first | with_reducible exact xH | apply xT); first | done | fail) ⟨rfl, rfl, rfl, rfl, trivial⟩)⟩ rfl ?_
      exact ⟨g2, _, hg1.trans hg2, rfl, hrd2, hw.xQ⟩
end Go.Proofs.Ytlgpdglnfjndhaa
