/-
  Terms (layer 2): numbers in sevens, how many parts, how deep, of which form; Right.
-/
import Derived.Test.YtlgpdglnfjndhaaU02d
namespace Go.Proofs.Ytlgpdglnfjndhaa
set_option maxRecDepth 8000
set_option linter.unusedSimpArgs false
set_option linter.unusedVariables false
open Go Xe Go.Lib
theorem putNum_calls {E : Env} {w : World} {L : List As} (n : Nat) (hn : n < 2 ^ 64) (hw : Sat E w L) :
    Calls Try.prog 98 #[.int .u64 (n : Nat)] w fun e w' => e = .returned (.string (putN n)) ∧ Sat E w' L := by
  have hsz := putN_le 9 n (by omega)
  refine calls_of_g (n := 20) Try.func98 rfl rfl rfl ?_
  change G _ _ _ _ _ [(0, _)] _
  refine g_seq ?_
  refine g_region ?_
  refine xV rfl rfl rfl (v_assign rfl) ?_
  refine rl_nil (g_le (xK (Fr.le_refl _)) ?_)
  refine g_seq ?_
  refine g_region ?_
  refine xV rfl rfl rfl (v_assign rfl) ?_
  refine rl_nil (g_le (xK (Fr.le_refl _)) ?_)
  refine g_seq (g_block ?_)
  refine g_loopC (σ := Nat × ByteArray × Value) (fun C x => (0, .int .u64 (x.1 : Nat)) :: (3, x.2.2) :: C) [(2, _)] (by repeat (first | exact Fr.le_nil _ | refine Fr.le_cons rfl ?_)) (fun z w => z.1 < 2 ^ 64 ∧ putN n = z.2.1 ++ putN z.1 ∧ Sat E w (OwnSl 5 1 z.2.2 z.2.1.size (strCells z.2.1) :: L)) (fun z => z.1) ?_ (n, ByteArray.empty, .slice none 0 0) (by repeat (first | exact Fr.le_nil _ | refine Fr.le_cons rfl ?_)) ⟨hn, by simp, hw.own_nil _ _⟩
  rintro ⟨m, s, v⟩ w ⟨hm, hs, hw⟩ ih
  dsimp only at hm hs hw ih ⊢
  have hs2 : s.size ≤ 10 := by rw [hs, ByteArray.size_append] at hsz; omega
  obtain ⟨va, vc, rfl, _, _, _⟩ := hw.own_shape
  refine g_seq (g_seq ?_)
  refine g_region ?_
  refine xV rfl rfl rfl (v_move rfl) ?_
  refine xV rfl rfl rfl (v_geq rfl rfl) ?_
  refine rl_nil (g_le (xK (xK (Fr.le_refl _))) ?_)
  refine g_cond rfl (fun h1 => ?_) (fun h1 => ?_)
  · try with_reducible exact ft_elim h1
    all_goals
      try replace h1 := of_decide_eq_true h1
      refine g_skip (g_block (g_seq ?_))
      refine g_region ?_
      refine xV rfl rfl rfl (v_move rfl) ?_
      refine xV rfl rfl rfl (v_move rfl) ?_
      refine xV rfl rfl rfl (v_convInt T.int_5_u8 T.int_49_u64 rfl) ?_
      refine xV rfl rfl rfl (v_or rfl rfl) ?_
      rw [show bits .or .u8 (IntKind.u8.wrap ((m : Nat) : Int)) 128 = ((UInt8.ofNat (m % 128 + 128)).toNat : Int) by rw [IntKind.wrap_u8, show ((m : Nat) : Int) % 256 = ((m % 256 : Nat) : Int) by omega, or_u8 (by omega), UInt8.toNat_ofNat']; omega]
      refine rl_k rfl (k_buildSlice (cells := [_]) hw T.sl_60_5_1 T.zero_5 rfl rfl rfl rfl rfl rfl (fun bk3_4 w hw => ?_))
      refine rl_k rfl (k_append (news := [_]) hw T.sl_60_5_1 T.zero_5 T.bytes_5_1 rfl (by decide) rfl rfl (by (repeat first | with_reducible exact xH | apply xT); first | done | fail) rfl (by exact sat_cells hw (by (repeat first | with_reducible exact xH | apply xT); first | done | fail) ⟨rfl, trivial⟩) (by simp [Value.oneCell']) (by omega) (by simp only [maxLen]; omega) rfl (fun vv3_5 w hw hnil => ?_))
      have hw := hw.own_byte
      refine xV rfl rfl rfl (v_assign rfl) ?_
      refine rl_nil (g_le (xK (xK (xK (xK (xK (xK (xK (Fr.le_refl _)))))))) ?_)
      refine g_region ?_
      refine xV rfl rfl rfl (v_move rfl) ?_
      refine xV rfl rfl rfl (v_shrK rfl rfl (by omega) (by decide)) ?_
      rw [show ((m : Nat) : Int) / 2 ^ (7 : Int).toNat = ((m / 128 : Nat) : Int) by show (m : Int) / 128 = _; omega]
      refine xV rfl rfl rfl (v_assign rfl) ?_
      refine rl_nil (g_le (xK (xK (xK (Fr.le_refl _)))) ?_)
      refine g_inBlock ?_
      exact g_le (by repeat (first | exact Fr.le_nil _ | refine Fr.le_cons rfl ?_)) (ih (m / 128, _, vv3_5) w ⟨by simp only; omega, by simp only; rw [hs, ByteArray.append_assoc]; congr 1; rw [putN, dif_neg (by omega)], hw.xQ⟩ (by simp only; omega))
  · try with_reducible exact tf_elim h1
    all_goals
      try replace h1 := of_decide_eq_false h1
      refine g_exit rfl (g_seq ?_)
      refine g_region ?_
      refine xV rfl rfl rfl (v_move rfl) ?_
      refine xV rfl rfl rfl (v_move rfl) ?_
      refine xV rfl rfl rfl (v_convInt T.int_5_u8 T.int_49_u64 rfl) ?_
      rw [u8_nat]
      refine rl_k rfl (k_buildSlice (cells := [_]) hw T.sl_60_5_1 T.zero_5 rfl rfl rfl rfl rfl rfl (fun bk5_3 w hw => ?_))
      refine rl_k rfl (k_append (news := [_]) hw T.sl_60_5_1 T.zero_5 T.bytes_5_1 rfl (by decide) rfl rfl (by (repeat first | with_reducible exact xH | apply xT); first | done | fail) rfl (by exact sat_cells hw (by (repeat first | with_reducible exact xH | apply xT); first | done | fail) ⟨rfl, trivial⟩) (by simp [Value.oneCell']) (by omega) (by simp only [maxLen]; omega) rfl (fun vv5_4 w hw hnil => ?_))
      have hw := hw.own_byte
      have hz := hw
      clear hw
      obtain ⟨va2, vc2, rfl, _, _, _⟩ := hz.own_shape
      have hw := hz
      refine rl_v rfl rfl rfl (by exact own_bytes_all hw (by (repeat first | with_reducible exact xH | apply xT); first | done | fail)) (v_convBytes T.sl_60_5_1 T.u8_5 T.str_9 rfl) ?_
      refine xV rfl rfl rfl (v_assign rfl) ?_
      refine rl_nil (g_le (xK (xS rfl (xS rfl (xS rfl (xS rfl (xS rfl (xS rfl (Fr.le_refl _)))))))) ?_)
      refine g_ret1 Try.func98 rfl rfl ?_
      refine ⟨?_, hw.xQ⟩
      rw [hs, show putN m = ByteArray.mk #[UInt8.ofNat m] by rw [putN, dif_pos (by omega)]]
theorem tm_shape {g : Hp} {cs : List Value} {t : Tm} (h : rdTm g cs t) : ∃ a c, cs = [.int .i64 t.kind, .int .u64 t.num, .string t.bytes, .slice a t.list.length c] ∧ (0 ≤ t.num ∧ t.num ≤ 18446744073709551615 ∧ -9223372036854775808 ≤ t.kind ∧ t.kind ≤ 9223372036854775807 ∧ t.bytes.size ≤ reachBytes) ∧ rdSl 56 4 rdTm g [.slice a t.list.length c] t.list := by
  obtain ⟨sl, h1, h2, h3⟩ := rdTm_open h
  obtain ⟨a, n, c, rfl⟩ := rdSl_shape h3
  obtain ⟨rfl, _⟩ := rdSl_get h3
  exact ⟨a, c, h1, h2, h3⟩
theorem nL_getD {l : List Tm} {i : Nat} {x : Tm} (h : l[i]? = some x) : nL (l.take (i + 1)) = nL (l.take i) + nT x := by
  rw [take_snoc h, nL_snoc]
theorem hL_getD {l : List Tm} {i : Nat} {x : Tm} (h : l[i]? = some x) : hL (l.take (i + 1)) = max (hL (l.take i)) (hT x) := by
  rw [take_snoc h, hL_snoc]
theorem parts_calls : ∀ (k : Nat) {E : Env} {w : World} {L : List As} {g : Hp} {cs : List Value} {t : Tm} (most : Int), hT t ≤ k → rdTm g cs t → 1 ≤ most → most ≤ 4001 → Sat E w (RO g :: L) →
    Calls Try.prog 92 #[.agg cs.toArray, .int .i64 most] w fun e w' => e = .returned (.int .i64 (min (nT t : Int) most)) ∧ Sat E w' (RO g :: L) := by
  intro k
  induction k with
  | zero => intro E w L g cs t most hk; have := hT_pos t; omega
  | succ k ih0 =>
  intro E w L g cs t most hk ht hm1 hm2 hw
  obtain ⟨a, c, rfl, _, hl⟩ := tm_shape ht
  obtain ⟨_, hb1, hc1, hmx, g1⟩ := rdSl_get hl
  simp only [reachBytes] at hb1
  rw [hT_list] at hk
  rw [nT_list]
  refine calls_of_g (n := 27) Try.func92 rfl rfl rfl ?_
  change G _ _ _ _ _ [(0, _), (1, _)] _
  refine g_seq ?_
  refine g_region ?_
  refine rl_k rfl (k_box hw rfl rfl rfl (fun bk0_0 w hw => ?_))
  refine xV rfl rfl rfl (v_assign rfl) ?_
  refine rl_nil (g_le (xK (xK (Fr.le_refl _))) ?_)
  refine g_seq ?_
  refine g_region ?_
  refine xV rfl rfl rfl (v_assign rfl) ?_
  refine rl_nil (g_le (xK (Fr.le_refl _)) ?_)
  refine g_seq (g_seq ?_)
  refine g_region ?_
  refine xV rfl rfl rfl (v_fieldAddr0 T.fld_111_3_3 rfl) ?_
  refine rl_v rfl rfl rfl (by exact sat_cell hw (by (repeat first | with_reducible exact xH | apply xT); first | done | fail) rfl) (v_load T.scal_109 rfl) ?_
  refine xV rfl rfl rfl (v_lenSlice T.sl_109_111_4 rfl) ?_
  refine xV rfl rfl rfl (v_move rfl) ?_
  refine rl_nil (g_le (xK (xK (xK (xS rfl (Fr.le_refl _))))) ?_)
  refine g_block ?_
  refine g_loopC (σ := Int × Int) (fun C x => (11, .int .i64 x.1) :: (5, .int .i64 x.2) :: C) [(1, _), (4, _), (9, _), (10, _)] (by repeat (first | exact Fr.le_nil _ | refine Fr.le_cons rfl ?_)) (fun z w => 0 ≤ z.1 ∧ z.1 ≤ t.list.length ∧ z.2 = min ((nL (t.list.take z.1.toNat) : Int) + 1) most ∧ Sat E w (RO g :: L)) (fun z => (t.list.length - z.1).toNat) ?_ (0, 1) (by repeat (first | exact Fr.le_nil _ | refine Fr.le_cons rfl ?_)) ⟨by simp, by simp, by simp [nL]; omega, hw.xQ⟩
  rintro ⟨i, m⟩ w ⟨hi0, hi1, hm, hw⟩ ih
  dsimp only at hi0 hi1 hm hw ih ⊢
  refine g_seq ?_
  refine g_region ?_
  refine xV rfl rfl rfl (v_lss rfl rfl) ?_
  refine rl_nil (g_le (xK (Fr.le_refl _)) ?_)
  refine g_seq ?_
  refine g_cond rfl (fun h1 => ?_) (fun h1 => ?_)
  · try with_reducible exact ft_elim h1
    all_goals
      try replace h1 := of_decide_eq_true h1
      refine g_skip (g_seq (g_block (g_seq ?_)))
      have hz := hw
      clear hw
      obtain ⟨b4, o1, x, ecs, rfl, hx, hat1, hl1, hrd⟩ := g1 i hi0 (by omega)
      have hmem := List.mem_of_getElem? hx
      have hhx := hL_mem hmem
      have hnx := nL_getD hx
      obtain ⟨xa, xc, rfl, _⟩ := tm_shape hrd
      have hw := hz
      refine g_region ?_
      refine xV rfl rfl rfl (v_indexAddr T.sl_109_111_4 rfl rfl (by omega) (by omega)) ?_
      refine rl_v rfl rfl rfl (by exact ro_ats hw (by (repeat first | with_reducible exact xH | apply xT); first | done | fail) (by assumption)) (v_loadAgg (vs := [_, _, _, _]) T.agg_111_4 rfl rfl) ?_
      refine rl_k rfl (k_alloc hw T.zero_111 rfl rfl (fun bk4_2 w hw => ?_))
      refine rl_k rfl (k_storeWhole hw T.agg_111_4 rfl rfl (by simp [Value.oneCell']) rfl (by (repeat first | with_reducible exact xH | apply xT); first | done | fail) rfl (fun w hw => ?_))
      refine rl_nil (g_le (xK (xK (xK (Fr.le_refl _)))) ?_)
      refine g_seq (g_seq ?_)
      refine g_region ?_
      refine xV rfl rfl rfl (v_move rfl) ?_
      refine xV rfl rfl rfl (v_move rfl) ?_
      refine xV rfl rfl rfl (v_geq rfl rfl) ?_
      refine rl_nil (g_le (xK (xK (xK (Fr.le_refl _)))) ?_)
      refine g_cond rfl (fun h2 => ?_) (fun h2 => ?_)
      · try with_reducible exact ft_elim h2
        all_goals
          try replace h2 := of_decide_eq_true h2
          refine g_exit rfl (g_seq ?_)
          refine g_region ?_
          refine xV rfl rfl rfl (v_move rfl) ?_
          refine xV rfl rfl rfl (v_assign rfl) ?_
          refine rl_nil (g_le (xK (xS rfl (Fr.le_refl _))) ?_)
          refine g_ret1 Try.func92 rfl rfl ?_
          have hle := nL_take_le t.list i.toNat
          exact ⟨by rw [show m = min ((nL t.list + 1 : Nat) : Int) most by omega], hw.xQ⟩
      · try with_reducible exact tf_elim h2
        all_goals
          try replace h2 := of_decide_eq_false h2
          refine g_skip ?_
          refine g_region ?_
          refine xV rfl rfl rfl (v_move rfl) ?_
          refine rl_v rfl rfl rfl (by exact sat_cells hw (by (repeat first | with_reducible exact xH | apply xT); first | done | fail) ⟨rfl, rfl, rfl, rfl, trivial⟩) (v_loadAgg (vs := [_, _, _, _]) T.agg_111_4 rfl rfl) ?_
          refine xV rfl rfl rfl (v_move rfl) ?_
          refine xV rfl rfl rfl (v_move rfl) ?_
          refine xV rfl rfl rfl (v_sub rfl rfl (by omega)) ?_
          refine rl_k rfl (k_callf Try.func92 rfl rfl rfl rfl ?_)
          refine Calls.mono (ih0 (most - m) (by omega) hrd (by omega) (by omega) (hw.xQ)) ?_
          rintro _ w ⟨rfl, hw⟩
          refine ⟨_, rfl, ?_⟩
          refine xV rfl rfl rfl (v_add rfl rfl (by omega)) ?_
          refine xV rfl rfl rfl (v_assign rfl) ?_
          refine rl_nil (g_le (xK (xK (xK (xK (xK (xK (xK (xK (Fr.le_refl _))))))))) ?_)
          refine g_inBlock ?_
          refine g_region ?_
          refine xV rfl rfl rfl (v_add rfl rfl (by omega)) ?_
          refine xV rfl rfl rfl (v_move rfl) ?_
          refine rl_nil (g_le (xK (xK (Fr.le_refl _))) ?_)
          have hpx := nT_pos x
          exact g_le (by repeat (first | exact Fr.le_nil _ | refine Fr.le_cons rfl ?_)) (ih (i + 1, m + min (nT x : Int) (most - m)) w ⟨by simp only; omega, by simp only; omega, by simp only; rw [show (i + 1).toNat = i.toNat + 1 by omega, hnx]; omega, hw.xQ⟩ (by simp only; omega))
  · try with_reducible exact tf_elim h1
    all_goals
      try replace h1 := of_decide_eq_false h1
      refine g_exit rfl (g_seq ?_)
      refine g_region ?_
      refine xV rfl rfl rfl (v_move rfl) ?_
      refine xV rfl rfl rfl (v_assign rfl) ?_
      refine rl_nil (g_le (xK (xS rfl (Fr.le_refl _))) ?_)
      refine g_ret1 Try.func92 rfl rfl ?_
      rw [List.take_of_length_le (by omega)] at hm
      exact ⟨by rw [hm]; congr 2, hw.xQ⟩
theorem deep_calls : ∀ (k : Nat) {E : Env} {w : World} {L : List As} {g : Hp} {cs : List Value} {t : Tm} (most : Int), hT t ≤ k → rdTm g cs t → 1 ≤ most → most ≤ 13 → Sat E w (RO g :: L) →
    Calls Try.prog 93 #[.agg cs.toArray, .int .i64 most] w fun e w' => e = .returned (.int .i64 (min (hT t : Int) most)) ∧ Sat E w' (RO g :: L) := by
  intro k
  induction k with
  | zero => intro E w L g cs t most hk; have := hT_pos t; omega
  | succ k ih0 =>
  intro E w L g cs t most hk ht hm1 hm2 hw
  obtain ⟨a, c, rfl, _, hl⟩ := tm_shape ht
  obtain ⟨_, hb1, hc1, hmx, g1⟩ := rdSl_get hl
  simp only [reachBytes] at hb1
  rw [hT_list] at hk
  rw [hT_list]
  refine calls_of_g (n := 26) Try.func93 rfl rfl rfl ?_
  change G _ _ _ _ _ [(0, _), (1, _)] _
  refine g_seq ?_
  refine g_region ?_
  refine rl_k rfl (k_box hw rfl rfl rfl (fun bk0_0 w hw => ?_))
  refine xV rfl rfl rfl (v_assign rfl) ?_
  refine rl_nil (g_le (xK (xK (Fr.le_refl _))) ?_)
  refine g_seq ?_
  refine g_region ?_
  refine xV rfl rfl rfl (v_assign rfl) ?_
  refine rl_nil (g_le (xK (Fr.le_refl _)) ?_)
  refine g_seq (g_seq ?_)
  refine g_region ?_
  refine xV rfl rfl rfl (v_move rfl) ?_
  refine xV rfl rfl rfl (v_gtr rfl rfl) ?_
  refine rl_nil (g_le (xK (xS rfl (Fr.le_refl _))) ?_)
  refine g_cond rfl (fun h1 => ?_) (fun h1 => ?_)
  · try with_reducible exact ft_elim h1
    all_goals
      try replace h1 := of_decide_eq_true h1
      refine g_seq ?_
      refine g_region ?_
      refine xV rfl rfl rfl (v_fieldAddr0 T.fld_111_3_3 rfl) ?_
      refine rl_v rfl rfl rfl (by exact sat_cell hw (by (repeat first | with_reducible exact xH | apply xT); first | done | fail) rfl) (v_load T.scal_109 rfl) ?_
      refine xV rfl rfl rfl (v_lenSlice T.sl_109_111_4 rfl) ?_
      refine xV rfl rfl rfl (v_move rfl) ?_
      refine rl_nil (g_le (xK (xK (xK (xS rfl (Fr.le_refl _))))) ?_)
      refine g_block ?_
      refine g_loopC (σ := Int × Int) (fun C x => (13, .int .i64 x.1) :: (5, .int .i64 x.2) :: C) [(1, _), (4, _), (11, _), (12, _)] (by repeat (first | exact Fr.le_nil _ | refine Fr.le_cons rfl ?_)) (fun z w => 0 ≤ z.1 ∧ z.1 ≤ t.list.length ∧ z.2 = min (hL (t.list.take z.1.toNat) : Int) (most - 1) ∧ Sat E w (RO g :: L)) (fun z => (t.list.length - z.1).toNat) ?_ (0, 0) (by repeat (first | exact Fr.le_nil _ | refine Fr.le_cons rfl ?_)) ⟨by simp, by simp, by simp [hL]; omega, hw.xQ⟩
      rintro ⟨i, m⟩ w ⟨hi0, hi1, hm, hw⟩ ih
      dsimp only at hi0 hi1 hm hw ih ⊢
      refine g_seq ?_
      refine g_region ?_
      refine xV rfl rfl rfl (v_lss rfl rfl) ?_
      refine rl_nil (g_le (xK (Fr.le_refl _)) ?_)
      refine g_seq ?_
      refine g_cond rfl (fun h2 => ?_) (fun h2 => ?_)
      · try with_reducible exact ft_elim h2
        all_goals
          try replace h2 := of_decide_eq_true h2
          refine g_skip (g_seq (g_block (g_seq ?_)))
          have hz := hw
          clear hw
          obtain ⟨b4, o1, x, ecs, rfl, hx, hat1, hl1, hrd⟩ := g1 i hi0 (by omega)
          have hmem := List.mem_of_getElem? hx
          have hhx := hL_mem hmem
          have hnx := hL_getD hx
          obtain ⟨xa, xc, rfl, _⟩ := tm_shape hrd
          have hw := hz
          refine g_region ?_
          refine xV rfl rfl rfl (v_indexAddr T.sl_109_111_4 rfl rfl (by omega) (by omega)) ?_
          refine rl_v rfl rfl rfl (by exact ro_ats hw (by (repeat first | with_reducible exact xH | apply xT); first | done | fail) (by assumption)) (v_loadAgg (vs := [_, _, _, _]) T.agg_111_4 rfl rfl) ?_
          refine rl_k rfl (k_alloc hw T.zero_111 rfl rfl (fun bk5_2 w hw => ?_))
          refine rl_k rfl (k_storeWhole hw T.agg_111_4 rfl rfl (by simp [Value.oneCell']) rfl (by (repeat first | with_reducible exact xH | apply xT); first | done | fail) rfl (fun w hw => ?_))
          refine rl_nil (g_le (xK (xK (xK (Fr.le_refl _)))) ?_)
          refine g_region ?_
          refine xV rfl rfl rfl (v_move rfl) ?_
          refine rl_v rfl rfl rfl (by exact sat_cells hw (by (repeat first | with_reducible exact xH | apply xT); first | done | fail) ⟨rfl, rfl, rfl, rfl, trivial⟩) (v_loadAgg (vs := [_, _, _, _]) T.agg_111_4 rfl rfl) ?_
          refine xV rfl rfl rfl (v_move rfl) ?_
          refine xV rfl rfl rfl (v_sub rfl rfl (by omega)) ?_
          refine rl_k rfl (k_callf Try.func93 rfl rfl rfl rfl ?_)
          refine Calls.mono (ih0 (most - 1) (by omega) hrd (by omega) (by omega) (hw.xQ)) ?_
          rintro _ w ⟨rfl, hw⟩
          refine ⟨_, rfl, ?_⟩
          refine xV rfl rfl rfl (v_max rfl rfl) ?_
          refine xV rfl rfl rfl (v_assign rfl) ?_
          refine rl_nil (g_le (xK (xK (xK (xK (xK (xK (xK (Fr.le_refl _)))))))) ?_)
          refine g_inBlock ?_
          refine g_region ?_
          refine xV rfl rfl rfl (v_add rfl rfl (by omega)) ?_
          refine xV rfl rfl rfl (v_move rfl) ?_
          refine rl_nil (g_le (xK (xK (Fr.le_refl _))) ?_)
          have hpx := hT_pos x
          exact g_le (by repeat (first | exact Fr.le_nil _ | refine Fr.le_cons rfl ?_)) (ih (i + 1, max m (min (hT x : Int) (most - 1))) w ⟨by simp only; omega, by simp only; omega, by simp only; rw [show (i + 1).toNat = i.toNat + 1 by omega, hnx]; omega, hw.xQ⟩ (by simp only; omega))
      · try with_reducible exact tf_elim h2
        all_goals
          try replace h2 := of_decide_eq_false h2
          refine g_exit rfl (g_seq ?_)
          refine g_region ?_
          refine xV rfl rfl rfl (v_move rfl) ?_
          refine xV rfl rfl rfl (v_add rfl rfl (by omega)) ?_
          refine xV rfl rfl rfl (v_assign rfl) ?_
          refine rl_nil (g_le (xK (xS rfl (xS rfl (Fr.le_refl _)))) ?_)
          refine g_ret1 Try.func93 rfl rfl ?_
          rw [List.take_of_length_le (by omega)] at hm
          exact ⟨by rw [show m + 1 = min ((hL t.list + 1 : Nat) : Int) most by omega], hw.xQ⟩
  · try with_reducible exact tf_elim h1
    all_goals
      try replace h1 := of_decide_eq_false h1
      refine g_skip (g_seq ?_)
      refine g_region ?_
      refine xV rfl rfl rfl (v_move rfl) ?_
      refine xV rfl rfl rfl (v_add rfl rfl (by omega)) ?_
      refine xV rfl rfl rfl (v_assign rfl) ?_
      refine rl_nil (g_le (xK (xS rfl (xS rfl (Fr.le_refl _)))) ?_)
      refine g_ret1 Try.func93 rfl rfl ?_
      exact ⟨by rw [show min ((hL t.list + 1 : Nat) : Int) most = 0 + 1 by omega], hw.xQ⟩
/-- The place of the first term that is not of the form. -/
def badI : List Tm → Int → Int
  | [], _ => -1
  | x :: xs, i => if shT x = true then badI xs (i + 1) else i
theorem badI_neg : ∀ {l : List Tm} {i : Int}, 0 ≤ i → (badI l i < 0 ↔ shL l = true)
  | [], i, h => by simp [badI, shL]
  | x :: xs, i, h => by
    simp only [badI, shL]
    by_cases hx : shT x = true
    · rw [if_pos hx, hx, Bool.true_and]; exact badI_neg (by omega)
    · rw [if_neg hx]; simp [hx]; omega
theorem one13t {t : Tm} (h : t.kind = 1 ∨ t.kind = 3) (hb : t.bytes = ByteArray.mk #[]) : decide ((t.list.length : Int) = 0) = oneT t := by
  unfold oneT; rw [if_pos h, show t.bytes = ByteArray.empty from hb, decide_eq_decide]; simp
theorem one13f {t : Tm} (h : t.kind = 1 ∨ t.kind = 3) (hb : ¬ t.bytes = ByteArray.mk #[]) : false = oneT t := by
  unfold oneT; rw [if_pos h]; exact (decide_eq_false fun hh => hb hh.1).symm
theorem one2t {t : Tm} (h : t.kind = 2) (hn : t.num = 0) (hl : (t.bytes.size : Int) ≤ 4000) : decide ((t.list.length : Int) = 0) = oneT t := by
  unfold oneT; rw [if_neg (by omega), if_pos h, decide_eq_decide]; omega
theorem one2f {t : Tm} (h : t.kind = 2) (hn : ¬ (t.num = 0 ∧ (t.bytes.size : Int) ≤ 4000)) : false = oneT t := by
  unfold oneT; rw [if_neg (by omega), if_pos h]; exact (decide_eq_false fun hh => hn ⟨hh.1, by omega⟩).symm
theorem one4t {t : Tm} (h : t.kind = 4) (hb : t.bytes = ByteArray.mk #[]) : decide ((t.list.length : Int) = 1) = oneT t := by
  unfold oneT; rw [if_neg (by omega), if_neg (by omega), if_pos h, show t.bytes = ByteArray.empty from hb, decide_eq_decide]; simp; omega
theorem one4f {t : Tm} (h : t.kind = 4) (hb : ¬ t.bytes = ByteArray.mk #[]) : false = oneT t := by
  unfold oneT; rw [if_neg (by omega), if_neg (by omega), if_pos h]; exact (decide_eq_false fun hh => hb hh.1).symm
theorem one5t {t : Tm} (h : t.kind = 5) (hn : t.num = 0) : decide (t.bytes = ByteArray.mk #[]) = oneT t := by
  unfold oneT; rw [if_neg (by omega), if_neg (by omega), if_neg (by omega), if_pos h, decide_eq_decide]
  exact ⟨fun hh => ⟨hn, hh⟩, fun hh => hh.2⟩
theorem one5f {t : Tm} (h : t.kind = 5) (hn : ¬ t.num = 0) : false = oneT t := by
  unfold oneT; rw [if_neg (by omega), if_neg (by omega), if_neg (by omega), if_pos h]; exact (decide_eq_false fun hh => hn hh.1).symm
theorem one0 {t : Tm} (h : t.kind < 1 ∨ 5 < t.kind) : false = oneT t := by
  unfold oneT; rw [if_neg (by omega), if_neg (by omega), if_neg (by omega), if_neg (by omega)]
theorem shaped_calls : ∀ (k : Nat) {E : Env} {w : World} {L : List As} {g : Hp} {cs : List Value} {t : Tm}, hT t ≤ k → rdTm g cs t → Sat E w (RO g :: L) →
    Calls Try.prog 94 #[.agg cs.toArray] w fun e w' => e = .returned (.bool (shT t)) ∧ Sat E w' (RO g :: L) := by
  intro k
  induction k with
  | zero => intro E w L g cs t hk; have := hT_pos t; omega
  | succ k ih0 =>
  have clo : ∀ {E : Env} {w : World} {L : List As} {g : Hp} {cs : List Value} {t : Tm}, hT t ≤ k → rdTm g cs t → Sat E w (RO g :: L) →
      Calls Try.prog 101 #[.agg cs.toArray] w fun e w' => e = .returned (.bool (!shT t)) ∧ Sat E w' (RO g :: L) := by
    intro E w L g cs t hk ht hw
    obtain ⟨a, c, rfl, _, hl⟩ := tm_shape ht
    refine calls_of_g (n := 6) Try.func101 rfl rfl rfl ?_
    change G _ _ _ _ _ [(0, _)] _
    refine g_seq ?_
    refine g_region ?_
    refine rl_k rfl (k_box hw rfl rfl rfl (fun bk0_0 w hw => ?_))
    refine xV rfl rfl rfl (v_assign rfl) ?_
    refine rl_nil (g_le (xK (xK (Fr.le_refl _))) ?_)
    refine g_seq ?_
    refine g_region ?_
    refine rl_v rfl rfl rfl (by exact sat_cells hw (by (repeat first | with_reducible exact xH | apply xT); first | done | fail) ⟨rfl, rfl, rfl, rfl, trivial⟩) (v_loadAgg (vs := [_, _, _, _]) T.agg_111_4 rfl rfl) ?_
    refine rl_k rfl (k_callf Try.func94 rfl rfl rfl rfl ?_)
    refine Calls.mono (ih0 hk ht (hw.xQ)) ?_
    rintro _ w ⟨rfl, hw⟩
    refine ⟨_, rfl, ?_⟩
    refine xV rfl rfl rfl (v_not rfl) ?_
    refine xV rfl rfl rfl (v_assign rfl) ?_
    refine rl_nil (g_le (xK (xS rfl (xS rfl (xS rfl (Fr.le_refl _))))) ?_)
    refine g_ret1 Try.func101 rfl rfl ?_
    exact ⟨rfl, hw.xQ⟩
  have idx : ∀ {E : Env} {w : World} {L : List As} {g : Hp} {a : Option Addr} {n c : Nat} {l : List Tm}, hL l ≤ k → rdSl 56 4 rdTm g [.slice a n c] l → Sat E w (RO g :: L) →
      Calls Try.prog 103 #[.slice a n c, .func (.func 101) #[] #[]] w fun e w' => e = .returned (.int .i64 (badI l 0)) ∧ Sat E w' (RO g :: L) := by
    intro E w L g a n c l hk hl hw
    obtain ⟨rfl, hb1, hc1, hmx, g1⟩ := rdSl_get hl
    simp only [reachBytes] at hb1
    refine calls_of_g (n := 19) Try.func103 rfl rfl rfl ?_
    change G _ _ _ _ _ [(0, _), (1, _)] _
    refine g_seq ?_
    refine g_region ?_
    refine xV rfl rfl rfl (v_assign rfl) ?_
    refine rl_nil (g_le (xK (Fr.le_refl _)) ?_)
    refine g_seq (g_seq ?_)
    refine g_region ?_
    refine xV rfl rfl rfl (v_move rfl) ?_
    refine xV rfl rfl rfl (v_lenSlice T.sl_109_111_4 rfl) ?_
    refine xV rfl rfl rfl (v_move rfl) ?_
    refine rl_nil (g_le (xK (xK (xS rfl (Fr.le_refl _)))) ?_)
    refine g_block ?_
    refine g_loopC (σ := Int) (fun C x => (8, .int .i64 x) :: C) [(0, _), (1, _), (4, _), (7, _)] (by repeat (first | exact Fr.le_nil _ | refine Fr.le_cons rfl ?_)) (fun z w => 0 ≤ z ∧ z ≤ l.length ∧ badI l 0 = badI (l.drop z.toNat) z ∧ Sat E w (RO g :: L)) (fun z => (l.length - z).toNat) ?_ 0 (by repeat (first | exact Fr.le_nil _ | refine Fr.le_cons rfl ?_)) ⟨by omega, by omega, by simp, hw⟩
    rintro i w ⟨hi0, hi1, heq, hw⟩ ih
    refine g_seq ?_
    refine g_region ?_
    refine xV rfl rfl rfl (v_lss rfl rfl) ?_
    refine rl_nil (g_le (xK (Fr.le_refl _)) ?_)
    refine g_seq ?_
    refine g_cond rfl (fun h1 => ?_) (fun h1 => ?_)
    · try with_reducible exact ft_elim h1
      all_goals
        try replace h1 := of_decide_eq_true h1
        refine g_skip (g_seq (g_block (g_seq ?_)))
        have hz := hw
        clear hw
        obtain ⟨b4, o1, x, ecs, rfl, hx, hat1, hl1, hrd⟩ := g1 i hi0 (by omega)
        have hmem := List.mem_of_getElem? hx
        have hhx := hL_mem hmem
        obtain ⟨xa, xc, rfl, _⟩ := tm_shape hrd
        have hdr : l.drop i.toNat = x :: l.drop (i.toNat + 1) := by obtain ⟨h9, h8⟩ := List.getElem?_eq_some_iff.1 hx; rw [List.drop_eq_getElem_cons h9, h8]
        rw [hdr] at heq
        simp only [badI] at heq
        have hw := hz
        refine g_region ?_
        refine xV rfl rfl rfl (v_move rfl) ?_
        refine xV rfl rfl rfl (v_assign rfl) ?_
        refine rl_nil (g_le (xK (xK (Fr.le_refl _))) ?_)
        refine g_seq ?_
        refine g_region ?_
        refine xV rfl rfl rfl (v_move rfl) ?_
        refine xV rfl rfl rfl (v_move rfl) ?_
        refine xV rfl rfl rfl (v_move rfl) ?_
        refine xV rfl rfl rfl (v_indexAddr T.sl_109_111_4 rfl rfl (by omega) (by omega)) ?_
        refine rl_v rfl rfl rfl (by exact ro_ats hw (by (repeat first | with_reducible exact xH | apply xT); first | done | fail) (by assumption)) (v_loadAgg (vs := [_, _, _, _]) T.agg_111_4 rfl rfl) ?_
        refine rl_k rfl (k_callv rfl rfl rfl ?_)
        refine CallsV.mono (.mk Try.func101 rfl rfl rfl (clo (by omega) hrd (hw.xQ))) ?_
        rintro _ w ⟨rfl, hw⟩
        refine ⟨_, rfl, ?_⟩
        refine rl_nil (g_le (xK (xK (xK (xK (xK (xK (Fr.le_refl _))))))) ?_)
        refine g_cond rfl (fun h2 => ?_) (fun h2 => ?_)
        · try with_reducible exact ft_elim h2
          all_goals
            try replace h2 := of_decide_eq_true h2
            rw [if_neg (by simpa using h2)] at heq
            refine g_seq ?_
            refine g_region ?_
            refine xV rfl rfl rfl (v_move rfl) ?_
            refine xV rfl rfl rfl (v_assign rfl) ?_
            refine rl_nil (g_le (xK (xK (Fr.le_refl _))) ?_)
            refine g_ret1 Try.func103 rfl rfl ?_
            exact ⟨by rw [heq], hw.xQ⟩
        · try with_reducible exact tf_elim h2
          all_goals
            try replace h2 := of_decide_eq_false h2
            rw [if_pos (by simpa using h2)] at heq
            refine g_skip (g_inBlock ?_)
            refine g_region ?_
            refine xV rfl rfl rfl (v_add rfl rfl (by omega)) ?_
            refine xV rfl rfl rfl (v_move rfl) ?_
            refine rl_nil (g_le (xK (xK (Fr.le_refl _))) ?_)
            exact g_le (by repeat (first | exact Fr.le_nil _ | refine Fr.le_cons rfl ?_)) (ih (i + 1) w ⟨by omega, by omega, by rw [heq, show (i + 1).toNat = i.toNat + 1 by omega], hw.xQ⟩ (by omega))
    · try with_reducible exact tf_elim h1
      all_goals
        try replace h1 := of_decide_eq_false h1
        refine g_exit rfl (g_seq ?_)
        refine g_region ?_
        refine xV rfl rfl rfl (v_assign rfl) ?_
        refine rl_nil (g_le (xK (Fr.le_refl _)) ?_)
        refine g_ret1 Try.func103 rfl rfl ?_
        refine ⟨?_, hw.xQ⟩
        rw [heq, List.drop_eq_nil_of_le (by omega)]
        rfl
  have con : ∀ {E : Env} {w : World} {L : List As} {g : Hp} {a : Option Addr} {n c : Nat} {l : List Tm}, hL l ≤ k → rdSl 56 4 rdTm g [.slice a n c] l → Sat E w (RO g :: L) →
      Calls Try.prog 100 #[.slice a n c, .func (.func 101) #[] #[]] w fun e w' => e = .returned (.bool (!shL l)) ∧ Sat E w' (RO g :: L) := by
    intro E w L g a n c l hk hl hw
    have hbi := badI_neg (l := l) (i := 0) (Int.le_refl _)
    have e9 : decide (badI l 0 ≥ 0) = !shL l := by
      cases h : shL l with
      | true => rw [h] at hbi; simp at hbi; simp; omega
      | false => rw [h] at hbi; simp at hbi; simpa using hbi
    refine calls_of_g (n := 9) Try.func100 rfl rfl rfl ?_
    change G _ _ _ _ _ [(0, _), (1, _)] _
    refine g_seq ?_
    refine g_region ?_
    refine xV rfl rfl rfl (v_assign rfl) ?_
    refine rl_nil (g_le (xK (Fr.le_refl _)) ?_)
    refine g_seq ?_
    refine g_region ?_
    refine xV rfl rfl rfl (v_move rfl) ?_
    refine xV rfl rfl rfl (v_move rfl) ?_
    refine rl_k rfl (k_callf Try.func103 rfl rfl rfl rfl ?_)
    refine Calls.mono (idx hk hl (hw.xQ)) ?_
    rintro _ w ⟨rfl, hw⟩
    refine ⟨_, rfl, ?_⟩
    refine xV rfl rfl rfl (v_geq rfl rfl) ?_
    refine xV rfl rfl rfl (v_assign rfl) ?_
    refine rl_nil (g_le (xK (xS rfl (xS rfl (xS rfl (xS rfl (Fr.le_refl _)))))) ?_)
    refine g_ret1 Try.func100 rfl rfl ?_
    exact ⟨by rw [e9], hw.xQ⟩
  intro E w L g cs t hk ht hw
  obtain ⟨a, c, rfl, ⟨n0, n1, _⟩, hl⟩ := tm_shape ht
  obtain ⟨_, hb1, hc1, hmx, g1⟩ := rdSl_get hl
  simp only [reachBytes] at hb1
  rw [hT_list] at hk
  rw [shT_list]
  refine calls_of_g (n := 63) Try.func94 rfl rfl rfl ?_
  change G _ _ _ _ _ [(0, _)] _
  refine g_seq ?_
  refine g_region ?_
  refine rl_k rfl (k_box hw rfl rfl rfl (fun bk0_0 w hw => ?_))
  refine xV rfl rfl rfl (v_assign rfl) ?_
  refine rl_nil (g_le (xK (xK (Fr.le_refl _))) ?_)
  refine g_seq ?_
  refine g_region ?_
  refine xV rfl rfl rfl (v_assign rfl) ?_
  refine rl_nil (g_le (xK (Fr.le_refl _)) ?_)
  refine g_seq (g_seq ?_)
  refine g_region ?_
  refine xV rfl rfl rfl (v_fieldAddr0 T.fld_111_0_0 rfl) ?_
  refine rl_v rfl rfl rfl (by exact sat_cell hw (by (repeat first | with_reducible exact xH | apply xT); first | done | fail) rfl) (v_load T.scal_3 rfl) ?_
  refine rl_nil (g_le (xK (xS rfl (Fr.le_refl _))) ?_)
  refine g_cutc (σ := Bool) (fun C x => (3, .bool x) :: C) [(1, _), (2, _)] (by repeat (first | exact Fr.le_nil _ | refine Fr.le_cons rfl ?_)) (fun z w => z = oneT t ∧ Sat E w (pt bk0_0 (.cells [Value.int .i64 t.kind, .int .u64 t.num, .string t.bytes, .slice a t.list.length c].toArray 111 (0, 0)) :: RO g :: L)) ?_ ?_
  · skip
    rintro _ w ⟨rfl, hw⟩
    all_goals
      refine g_seq ?_
      refine g_region ?_
      refine xV rfl rfl rfl (v_move rfl) ?_
      refine xV rfl rfl rfl (v_move rfl) ?_
      refine rl_split (s := 57) rfl (fun g12_1 => ?_) (fun g12_1 => ?_)
      · try with_reducible exact ft_elim g12_1
        all_goals
          try replace g12_1 := of_decide_eq_true g12_1
          try (exfalso; omega)
          all_goals
            refine rl_vg (met_on rfl rfl rfl rfl) rfl rfl (S := fun _ => True) trivial (v_fieldAddr0 T.fld_111_3_3 rfl) ?_
            refine rl_vg (met_on rfl rfl rfl rfl) rfl rfl (by exact sat_cell hw (by (repeat first | with_reducible exact xH | apply xT); first | done | fail) rfl) (v_load T.scal_109 rfl) ?_
            refine rl_kg (met_on rfl rfl rfl rfl) (k_callf Try.func100 rfl rfl rfl rfl ?_)
            refine Calls.mono (con (by omega) hl (hw.xQ)) ?_
            rintro _ w ⟨rfl, hw⟩
            refine ⟨_, rfl, ?_⟩
            refine rl_vg (met_on rfl rfl rfl rfl) rfl rfl (S := fun _ => True) trivial (v_not rfl) ?_
            refine xV rfl rfl rfl (v_pick_true rfl rfl) ?_
            refine xV rfl rfl rfl (v_assign rfl) ?_
            refine rl_nil (g_le (xK (xS rfl (xS rfl (xS rfl (xS rfl (xS rfl (xS rfl (xS rfl (xS rfl (Fr.le_refl _)))))))))) ?_)
            refine g_ret1 Try.func94 rfl rfl ?_
            exact ⟨by rw [g12_1]; simp, hw.xQ⟩
      · try with_reducible exact tf_elim g12_1
        all_goals
          try replace g12_1 := of_decide_eq_false g12_1
          try (exfalso; omega)
          all_goals
            refine rl_off (met_off rfl rfl rfl rfl rfl) rfl rfl ?_
            refine rl_off (met_off rfl rfl rfl rfl rfl) rfl rfl ?_
            refine rl_off (met_off rfl rfl rfl rfl rfl) rfl rfl ?_
            refine rl_off (met_off rfl rfl rfl rfl rfl) rfl rfl ?_
            refine xV rfl rfl rfl (v_pick_false rfl rfl) ?_
            refine xV rfl rfl rfl (v_assign rfl) ?_
            refine rl_nil (g_le (xK (xS rfl (xS rfl (xS rfl (xS rfl (xS rfl (xS rfl (xS rfl (xS rfl (Fr.le_refl _)))))))))) ?_)
            refine g_ret1 Try.func94 rfl rfl ?_
            exact ⟨by rw [g12_1]; simp, hw.xQ⟩
  · intro joinb0
    refine g_block (g_seq (g_seq ?_))
    refine g_region ?_
    refine xV rfl rfl rfl (v_eql rfl rfl) ?_
    refine xV rfl rfl rfl (v_assign rfl) ?_
    refine rl_nil (g_le (xK (xS rfl (Fr.le_refl _))) ?_)
    refine g_cond rfl (fun h1 => ?_) (fun h1 => ?_)
    · try with_reducible exact ft_elim h1
      all_goals
        try replace h1 := of_decide_eq_true h1
        try (exfalso; omega)
        all_goals
          refine g_skip ?_
          refine g_cond rfl (fun h2 => ?_) (fun h2 => ?_)
          · try with_reducible exact ft_elim h2
            all_goals
              try replace h2 := of_decide_eq_true h2
              try (exfalso; omega)
              all_goals
                refine g_region ?_
                refine xV rfl rfl rfl (v_fieldAddr0 T.fld_111_2_2 rfl) ?_
                refine rl_v rfl rfl rfl (by exact sat_cell hw (by (repeat first | with_reducible exact xH | apply xT); first | done | fail) rfl) (v_load T.scal_9 rfl) ?_
                refine xV rfl rfl rfl (v_eqlStr rfl rfl) ?_
                refine xV rfl rfl rfl (v_move rfl) ?_
                refine rl_split (s := 12) rfl (fun g5_3 => ?_) (fun g5_3 => ?_)
                · try with_reducible exact ft_elim g5_3
                  all_goals
                    try replace g5_3 := of_decide_eq_true g5_3
                    try (exfalso; omega)
                    all_goals
                      refine rl_vg (met_on rfl rfl rfl rfl) rfl rfl (S := fun _ => True) trivial (v_fieldAddr0 T.fld_111_3_3 rfl) ?_
                      refine rl_vg (met_on rfl rfl rfl rfl) rfl rfl (by exact sat_cell hw (by (repeat first | with_reducible exact xH | apply xT); first | done | fail) rfl) (v_load T.scal_109 rfl) ?_
                      refine rl_vg (met_on rfl rfl rfl rfl) rfl rfl (S := fun _ => True) trivial (v_lenSlice T.sl_109_111_4 rfl) ?_
                      refine rl_vg (met_on rfl rfl rfl rfl) rfl rfl (S := fun _ => True) trivial (v_eql rfl rfl) ?_
                      refine xV rfl rfl rfl (v_pick_true rfl rfl) ?_
                      refine xV rfl rfl rfl (v_assign rfl) ?_
                      refine rl_nil (g_le (xK (xS rfl (xS rfl (xS rfl (xS rfl (xS rfl (xS rfl (xS rfl (xS rfl (xS rfl (xS rfl (Fr.le_refl _)))))))))))) ?_)
                      refine g_inBlock ?_
                      exact joinb0 _ w _ (by repeat (first | exact Fr.le_nil _ | refine Fr.le_cons rfl ?_)) ⟨one13t (by omega) g5_3, hw.xQ⟩
                · try with_reducible exact tf_elim g5_3
                  all_goals
                    try replace g5_3 := of_decide_eq_false g5_3
                    try (exfalso; omega)
                    all_goals
                      refine rl_off (met_off rfl rfl rfl rfl rfl) rfl rfl ?_
                      refine rl_off (met_off rfl rfl rfl rfl rfl) rfl rfl ?_
                      refine rl_off (met_off rfl rfl rfl rfl rfl) rfl rfl ?_
                      refine rl_off (met_off rfl rfl rfl rfl rfl) rfl rfl ?_
                      refine xV rfl rfl rfl (v_pick_false rfl rfl) ?_
                      refine xV rfl rfl rfl (v_assign rfl) ?_
                      refine rl_nil (g_le (xK (xS rfl (xS rfl (xS rfl (xS rfl (xS rfl (xS rfl (xS rfl (xS rfl (xS rfl (xS rfl (Fr.le_refl _)))))))))))) ?_)
                      refine g_inBlock ?_
                      exact joinb0 _ w _ (by repeat (first | exact Fr.le_nil _ | refine Fr.le_cons rfl ?_)) ⟨one13f (by omega) g5_3, hw.xQ⟩
          · try with_reducible exact tf_elim h2
            all_goals
              try replace h2 := of_decide_eq_false h2
              exact absurd h1 h2
    · try with_reducible exact tf_elim h1
      all_goals
        try replace h1 := of_decide_eq_false h1
        try (exfalso; omega)
        all_goals
          refine g_region ?_
          refine xV rfl rfl rfl (v_eql rfl rfl) ?_
          refine xV rfl rfl rfl (v_assign rfl) ?_
          refine rl_nil (g_le (xK (xS rfl (Fr.le_refl _))) ?_)
          refine g_cond rfl (fun h2 => ?_) (fun h2 => ?_)
          · try with_reducible exact ft_elim h2
            all_goals
              try replace h2 := of_decide_eq_true h2
              try (exfalso; omega)
              all_goals
                refine g_region ?_
                refine xV rfl rfl rfl (v_fieldAddr0 T.fld_111_2_2 rfl) ?_
                refine rl_v rfl rfl rfl (by exact sat_cell hw (by (repeat first | with_reducible exact xH | apply xT); first | done | fail) rfl) (v_load T.scal_9 rfl) ?_
                refine xV rfl rfl rfl (v_eqlStr rfl rfl) ?_
                refine xV rfl rfl rfl (v_move rfl) ?_
                refine rl_split (s := 12) rfl (fun g5_3 => ?_) (fun g5_3 => ?_)
                · try with_reducible exact ft_elim g5_3
                  all_goals
                    try replace g5_3 := of_decide_eq_true g5_3
                    try (exfalso; omega)
                    all_goals
                      refine rl_vg (met_on rfl rfl rfl rfl) rfl rfl (S := fun _ => True) trivial (v_fieldAddr0 T.fld_111_3_3 rfl) ?_
                      refine rl_vg (met_on rfl rfl rfl rfl) rfl rfl (by exact sat_cell hw (by (repeat first | with_reducible exact xH | apply xT); first | done | fail) rfl) (v_load T.scal_109 rfl) ?_
                      refine rl_vg (met_on rfl rfl rfl rfl) rfl rfl (S := fun _ => True) trivial (v_lenSlice T.sl_109_111_4 rfl) ?_
                      refine rl_vg (met_on rfl rfl rfl rfl) rfl rfl (S := fun _ => True) trivial (v_eql rfl rfl) ?_
                      refine xV rfl rfl rfl (v_pick_true rfl rfl) ?_
                      refine xV rfl rfl rfl (v_assign rfl) ?_
                      refine rl_nil (g_le (xK (xS rfl (xS rfl (xS rfl (xS rfl (xS rfl (xS rfl (xS rfl (xS rfl (xS rfl (xS rfl (Fr.le_refl _)))))))))))) ?_)
                      refine g_inBlock ?_
                      exact joinb0 _ w _ (by repeat (first | exact Fr.le_nil _ | refine Fr.le_cons rfl ?_)) ⟨one13t (by omega) g5_3, hw.xQ⟩
                · try with_reducible exact tf_elim g5_3
                  all_goals
                    try replace g5_3 := of_decide_eq_false g5_3
                    try (exfalso; omega)
                    all_goals
                      refine rl_off (met_off rfl rfl rfl rfl rfl) rfl rfl ?_
                      refine rl_off (met_off rfl rfl rfl rfl rfl) rfl rfl ?_
                      refine rl_off (met_off rfl rfl rfl rfl rfl) rfl rfl ?_
                      refine rl_off (met_off rfl rfl rfl rfl rfl) rfl rfl ?_
                      refine xV rfl rfl rfl (v_pick_false rfl rfl) ?_
                      refine xV rfl rfl rfl (v_assign rfl) ?_
                      refine rl_nil (g_le (xK (xS rfl (xS rfl (xS rfl (xS rfl (xS rfl (xS rfl (xS rfl (xS rfl (xS rfl (xS rfl (Fr.le_refl _)))))))))))) ?_)
                      refine g_inBlock ?_
                      exact joinb0 _ w _ (by repeat (first | exact Fr.le_nil _ | refine Fr.le_cons rfl ?_)) ⟨one13f (by omega) g5_3, hw.xQ⟩
          · try with_reducible exact tf_elim h2
            all_goals
              try replace h2 := of_decide_eq_false h2
              try (exfalso; omega)
              all_goals
                refine g_seq ?_
                refine g_region ?_
                refine xV rfl rfl rfl (v_eql rfl rfl) ?_
                refine xV rfl rfl rfl (v_assign rfl) ?_
                refine rl_nil (g_le (xK (xS rfl (Fr.le_refl _))) ?_)
                refine g_cond rfl (fun h3 => ?_) (fun h3 => ?_)
                · try with_reducible exact ft_elim h3
                  all_goals
                    try replace h3 := of_decide_eq_true h3
                    try (exfalso; omega)
                    all_goals
                      refine g_region ?_
                      refine xV rfl rfl rfl (v_fieldAddr0 T.fld_111_1_1 rfl) ?_
                      refine rl_v rfl rfl rfl (by exact sat_cell hw (by (repeat first | with_reducible exact xH | apply xT); first | done | fail) rfl) (v_load T.scal_49 rfl) ?_
                      refine xV rfl rfl rfl (v_eql rfl rfl) ?_
                      refine xV rfl rfl rfl (v_move rfl) ?_
                      refine rl_split (s := 23) rfl (fun g7_3 => ?_) (fun g7_3 => ?_)
                      · try with_reducible exact ft_elim g7_3
                        all_goals
                          try replace g7_3 := of_decide_eq_true g7_3
                          try (exfalso; omega)
                          all_goals
                            refine rl_vg (met_on rfl rfl rfl rfl) rfl rfl (S := fun _ => True) trivial (v_fieldAddr0 T.fld_111_2_2 rfl) ?_
                            refine rl_vg (met_on rfl rfl rfl rfl) rfl rfl (by exact sat_cell hw (by (repeat first | with_reducible exact xH | apply xT); first | done | fail) rfl) (v_load T.scal_9 rfl) ?_
                            refine rl_vg (met_on rfl rfl rfl rfl) rfl rfl (S := fun _ => True) trivial (v_lenStr T.str_9 rfl) ?_
                            refine rl_vg (met_on rfl rfl rfl rfl) rfl rfl (S := fun _ => True) trivial (v_leq rfl rfl) ?_
                            refine xV rfl rfl rfl (v_pick_true rfl rfl) ?_
                            refine xV rfl rfl rfl (v_move rfl) ?_
                            refine rl_split (s := 29) rfl (fun g7_9 => ?_) (fun g7_9 => ?_)
                            · try with_reducible exact ft_elim g7_9
                              all_goals
                                try replace g7_9 := of_decide_eq_true g7_9
                                try (exfalso; omega)
                                all_goals
                                  refine rl_vg (met_on rfl rfl rfl rfl) rfl rfl (S := fun _ => True) trivial (v_fieldAddr0 T.fld_111_3_3 rfl) ?_
                                  refine rl_vg (met_on rfl rfl rfl rfl) rfl rfl (by exact sat_cell hw (by (repeat first | with_reducible exact xH | apply xT); first | done | fail) rfl) (v_load T.scal_109 rfl) ?_
                                  refine rl_vg (met_on rfl rfl rfl rfl) rfl rfl (S := fun _ => True) trivial (v_lenSlice T.sl_109_111_4 rfl) ?_
                                  refine rl_vg (met_on rfl rfl rfl rfl) rfl rfl (S := fun _ => True) trivial (v_eql rfl rfl) ?_
                                  refine xV rfl rfl rfl (v_pick_true rfl rfl) ?_
                                  refine xV rfl rfl rfl (v_assign rfl) ?_
                                  refine rl_nil (g_le (xK (xS rfl (xS rfl (xS rfl (xS rfl (xS rfl (xS rfl (xS rfl (xS rfl (xS rfl (xS rfl (xS rfl (xS rfl (xS rfl (xS rfl (xS rfl (xS rfl (xS rfl (Fr.le_refl _))))))))))))))))))) ?_)
                                  refine g_inBlock ?_
                                  exact joinb0 _ w _ (by repeat (first | exact Fr.le_nil _ | refine Fr.le_cons rfl ?_)) ⟨one2t (by omega) (by omega) (by omega), hw.xQ⟩
                            · try with_reducible exact tf_elim g7_9
                              all_goals
                                try replace g7_9 := of_decide_eq_false g7_9
                                try (exfalso; omega)
                                all_goals
                                  refine rl_off (met_off rfl rfl rfl rfl rfl) rfl rfl ?_
                                  refine rl_off (met_off rfl rfl rfl rfl rfl) rfl rfl ?_
                                  refine rl_off (met_off rfl rfl rfl rfl rfl) rfl rfl ?_
                                  refine rl_off (met_off rfl rfl rfl rfl rfl) rfl rfl ?_
                                  refine xV rfl rfl rfl (v_pick_false rfl rfl) ?_
                                  refine xV rfl rfl rfl (v_assign rfl) ?_
                                  refine rl_nil (g_le (xK (xS rfl (xS rfl (xS rfl (xS rfl (xS rfl (xS rfl (xS rfl (xS rfl (xS rfl (xS rfl (xS rfl (xS rfl (xS rfl (xS rfl (xS rfl (xS rfl (xS rfl (Fr.le_refl _))))))))))))))))))) ?_)
                                  refine g_inBlock ?_
                                  exact joinb0 _ w _ (by repeat (first | exact Fr.le_nil _ | refine Fr.le_cons rfl ?_)) ⟨one2f (by omega) (by omega), hw.xQ⟩
                      · try with_reducible exact tf_elim g7_3
                        all_goals
                          try replace g7_3 := of_decide_eq_false g7_3
                          try (exfalso; omega)
                          all_goals
                            refine rl_off (met_off rfl rfl rfl rfl rfl) rfl rfl ?_
                            refine rl_off (met_off rfl rfl rfl rfl rfl) rfl rfl ?_
                            refine rl_off (met_off rfl rfl rfl rfl rfl) rfl rfl ?_
                            refine rl_off (met_off rfl rfl rfl rfl rfl) rfl rfl ?_
                            refine xV rfl rfl rfl (v_pick_false rfl rfl) ?_
                            refine xV rfl rfl rfl (v_move rfl) ?_
                            refine rl_off (met_off rfl rfl rfl rfl rfl) rfl rfl ?_
                            refine rl_off (met_off rfl rfl rfl rfl rfl) rfl rfl ?_
                            refine rl_off (met_off rfl rfl rfl rfl rfl) rfl rfl ?_
                            refine rl_off (met_off rfl rfl rfl rfl rfl) rfl rfl ?_
                            refine xV rfl rfl rfl (v_pick_false rfl rfl) ?_
                            refine xV rfl rfl rfl (v_assign rfl) ?_
                            refine rl_nil (g_le (xK (xS rfl (xS rfl (xS rfl (xS rfl (xS rfl (xS rfl (xS rfl (xS rfl (xS rfl (xS rfl (xS rfl (xS rfl (xS rfl (xS rfl (xS rfl (xS rfl (Fr.le_refl _)))))))))))))))))) ?_)
                            refine g_inBlock ?_
                            exact joinb0 _ w _ (by repeat (first | exact Fr.le_nil _ | refine Fr.le_cons rfl ?_)) ⟨one2f (by omega) (by omega), hw.xQ⟩
                · try with_reducible exact tf_elim h3
                  all_goals
                    try replace h3 := of_decide_eq_false h3
                    try (exfalso; omega)
                    all_goals
                      refine g_seq ?_
                      refine g_region ?_
                      refine xV rfl rfl rfl (v_eql rfl rfl) ?_
                      refine xV rfl rfl rfl (v_assign rfl) ?_
                      refine rl_nil (g_le (xK (xS rfl (Fr.le_refl _))) ?_)
                      refine g_cond rfl (fun h4 => ?_) (fun h4 => ?_)
                      · try with_reducible exact ft_elim h4
                        all_goals
                          try replace h4 := of_decide_eq_true h4
                          try (exfalso; omega)
                          all_goals
                            refine g_region ?_
                            refine xV rfl rfl rfl (v_fieldAddr0 T.fld_111_2_2 rfl) ?_
                            refine rl_v rfl rfl rfl (by exact sat_cell hw (by (repeat first | with_reducible exact xH | apply xT); first | done | fail) rfl) (v_load T.scal_9 rfl) ?_
                            refine xV rfl rfl rfl (v_eqlStr rfl rfl) ?_
                            refine xV rfl rfl rfl (v_move rfl) ?_
                            refine rl_split (s := 40) rfl (fun g9_3 => ?_) (fun g9_3 => ?_)
                            · try with_reducible exact ft_elim g9_3
                              all_goals
                                try replace g9_3 := of_decide_eq_true g9_3
                                try (exfalso; omega)
                                all_goals
                                  refine rl_vg (met_on rfl rfl rfl rfl) rfl rfl (S := fun _ => True) trivial (v_fieldAddr0 T.fld_111_3_3 rfl) ?_
                                  refine rl_vg (met_on rfl rfl rfl rfl) rfl rfl (by exact sat_cell hw (by (repeat first | with_reducible exact xH | apply xT); first | done | fail) rfl) (v_load T.scal_109 rfl) ?_
                                  refine rl_vg (met_on rfl rfl rfl rfl) rfl rfl (S := fun _ => True) trivial (v_lenSlice T.sl_109_111_4 rfl) ?_
                                  refine rl_vg (met_on rfl rfl rfl rfl) rfl rfl (S := fun _ => True) trivial (v_eql rfl rfl) ?_
                                  refine xV rfl rfl rfl (v_pick_true rfl rfl) ?_
                                  refine xV rfl rfl rfl (v_assign rfl) ?_
                                  refine rl_nil (g_le (xK (xS rfl (xS rfl (xS rfl (xS rfl (xS rfl (xS rfl (xS rfl (xS rfl (xS rfl (xS rfl (Fr.le_refl _)))))))))))) ?_)
                                  refine g_inBlock ?_
                                  exact joinb0 _ w _ (by repeat (first | exact Fr.le_nil _ | refine Fr.le_cons rfl ?_)) ⟨one4t (by omega) g9_3, hw.xQ⟩
                            · try with_reducible exact tf_elim g9_3
                              all_goals
                                try replace g9_3 := of_decide_eq_false g9_3
                                try (exfalso; omega)
                                all_goals
                                  refine rl_off (met_off rfl rfl rfl rfl rfl) rfl rfl ?_
                                  refine rl_off (met_off rfl rfl rfl rfl rfl) rfl rfl ?_
                                  refine rl_off (met_off rfl rfl rfl rfl rfl) rfl rfl ?_
                                  refine rl_off (met_off rfl rfl rfl rfl rfl) rfl rfl ?_
                                  refine xV rfl rfl rfl (v_pick_false rfl rfl) ?_
                                  refine xV rfl rfl rfl (v_assign rfl) ?_
                                  refine rl_nil (g_le (xK (xS rfl (xS rfl (xS rfl (xS rfl (xS rfl (xS rfl (xS rfl (xS rfl (xS rfl (xS rfl (Fr.le_refl _)))))))))))) ?_)
                                  refine g_inBlock ?_
                                  exact joinb0 _ w _ (by repeat (first | exact Fr.le_nil _ | refine Fr.le_cons rfl ?_)) ⟨one4f (by omega) g9_3, hw.xQ⟩
                      · try with_reducible exact tf_elim h4
                        all_goals
                          try replace h4 := of_decide_eq_false h4
                          try (exfalso; omega)
                          all_goals
                            refine g_seq ?_
                            refine g_region ?_
                            refine xV rfl rfl rfl (v_eql rfl rfl) ?_
                            refine xV rfl rfl rfl (v_assign rfl) ?_
                            refine rl_nil (g_le (xK (xS rfl (Fr.le_refl _))) ?_)
                            refine g_cond rfl (fun h5 => ?_) (fun h5 => ?_)
                            · try with_reducible exact ft_elim h5
                              all_goals
                                try replace h5 := of_decide_eq_true h5
                                try (exfalso; omega)
                                all_goals
                                  refine g_region ?_
                                  refine xV rfl rfl rfl (v_fieldAddr0 T.fld_111_1_1 rfl) ?_
                                  refine rl_v rfl rfl rfl (by exact sat_cell hw (by (repeat first | with_reducible exact xH | apply xT); first | done | fail) rfl) (v_load T.scal_49 rfl) ?_
                                  refine xV rfl rfl rfl (v_eql rfl rfl) ?_
                                  refine xV rfl rfl rfl (v_move rfl) ?_
                                  refine rl_split (s := 51) rfl (fun g11_3 => ?_) (fun g11_3 => ?_)
                                  · try with_reducible exact ft_elim g11_3
                                    all_goals
                                      try replace g11_3 := of_decide_eq_true g11_3
                                      try (exfalso; omega)
                                      all_goals
                                        refine rl_vg (met_on rfl rfl rfl rfl) rfl rfl (S := fun _ => True) trivial (v_fieldAddr0 T.fld_111_2_2 rfl) ?_
                                        refine rl_vg (met_on rfl rfl rfl rfl) rfl rfl (by exact sat_cell hw (by (repeat first | with_reducible exact xH | apply xT); first | done | fail) rfl) (v_load T.scal_9 rfl) ?_
                                        refine rl_vg (met_on rfl rfl rfl rfl) rfl rfl (S := fun _ => True) trivial (v_eqlStr rfl rfl) ?_
                                        refine xV rfl rfl rfl (v_pick_true rfl rfl) ?_
                                        refine xV rfl rfl rfl (v_assign rfl) ?_
                                        refine rl_nil (g_le (xK (xS rfl (xS rfl (xS rfl (xS rfl (xS rfl (xS rfl (xS rfl (xS rfl (xS rfl (Fr.le_refl _))))))))))) ?_)
                                        refine g_inBlock ?_
                                        exact joinb0 _ w _ (by repeat (first | exact Fr.le_nil _ | refine Fr.le_cons rfl ?_)) ⟨one5t (by omega) (by omega), hw.xQ⟩
                                  · try with_reducible exact tf_elim g11_3
                                    all_goals
                                      try replace g11_3 := of_decide_eq_false g11_3
                                      try (exfalso; omega)
                                      all_goals
                                        refine rl_off (met_off rfl rfl rfl rfl rfl) rfl rfl ?_
                                        refine rl_off (met_off rfl rfl rfl rfl rfl) rfl rfl ?_
                                        refine rl_off (met_off rfl rfl rfl rfl rfl) rfl rfl ?_
                                        refine xV rfl rfl rfl (v_pick_false rfl rfl) ?_
                                        refine xV rfl rfl rfl (v_assign rfl) ?_
                                        refine rl_nil (g_le (xK (xS rfl (xS rfl (xS rfl (xS rfl (xS rfl (xS rfl (xS rfl (xS rfl (xS rfl (Fr.le_refl _))))))))))) ?_)
                                        refine g_inBlock ?_
                                        exact joinb0 _ w _ (by repeat (first | exact Fr.le_nil _ | refine Fr.le_cons rfl ?_)) ⟨one5f (by omega) (by omega), hw.xQ⟩
                            · try with_reducible exact tf_elim h5
                              all_goals
                                try replace h5 := of_decide_eq_false h5
                                try (exfalso; omega)
                                all_goals
                                  refine g_skip (g_inBlock ?_)
                                  exact joinb0 _ w _ (by repeat (first | exact Fr.le_nil _ | refine Fr.le_cons rfl ?_)) ⟨one0 (by omega), hw.xQ⟩
end Go.Proofs.Ytlgpdglnfjndhaa
