/-
  Rows of terms (layer 2), sealing (layer 3).
-/
import Derived.Test.YtlgpdglnfjndhaaU02c
namespace Go.Proofs.Ytlgpdglnfjndhaa
set_option maxRecDepth 8000
set_option linter.unusedSimpArgs false
set_option linter.unusedVariables false
open Go Xe Go.Lib
@[reducible] def tmC (k n : Int) (b : ByteArray) (sl : Value) : List Value := [.int .i64 k, .int .u64 n, .string b, sl]
theorem rd_tm0 (g : Hp) : rdTm g (tmC 0 0 ByteArray.empty (.slice none 0 0)) tm0 := rdTm_mk (by simp) (rdSl_nil _)
theorem rd_num {g : Hp} {n : Int} (h0 : 0 ≤ n) (h1 : n ≤ 18446744073709551615) : rdTm g (tmC 1 n ByteArray.empty (.slice none 0 0)) (numT n) := rdTm_mk (by simp; omega) (rdSl_nil _)
theorem rd_key {g : Hp} {n : Int} (h0 : 0 ≤ n) (h1 : n ≤ 18446744073709551615) : rdTm g (tmC 3 n ByteArray.empty (.slice none 0 0)) (keyT n) := rdTm_mk (by simp; omega) (rdSl_nil _)
theorem rd_atom {g : Hp} {s : ByteArray} (h : s.size ≤ reachBytes) : rdTm g (tmC 2 0 s (.slice none 0 0)) (atomT s) := rdTm_mk (by simpa using h) (rdSl_nil _)
theorem num_calls {E : Env} {w : World} {L : List As} (n : Int) (hw : Sat E w L) :
    Calls Try.prog 87 #[.int .u64 n] w fun e w' => e = .returned (.agg (tmC 1 n ByteArray.empty (.slice none 0 0)).toArray) ∧ Sat E w' L := by
  refine calls_of_g (n := 5) Try.func87 rfl rfl rfl ?_
  change G _ _ _ _ _ [(0, _)] _
  refine g_seq ?_
  refine g_region ?_
  refine rl_k rfl (k_alloc hw T.zero_111 rfl rfl (fun bk0_0 w hw => ?_))
  refine rl_nil (g_le (xK (Fr.le_refl _)) ?_)
  refine g_seq ?_
  refine g_region ?_
  refine xV rfl rfl rfl (v_move rfl) ?_
  refine xV rfl rfl rfl (v_build rfl (T.build_111_0_1 ..)) ?_
  refine rl_k rfl (k_storeWhole hw T.agg_111_4 rfl rfl (by simp [Value.oneCell']) rfl (by (repeat first | with_reducible exact xH | apply xT); first | done | fail) rfl (fun w hw => ?_))
  refine rl_nil (g_le (xS rfl (xS rfl (Fr.le_refl _))) ?_)
  refine g_resC Try.func87 rfl ⟨_, rfl, holds_agg (vs := [_, _, _, _]) T.agg_111_4 rfl (by exact sat_cells hw (by (repeat first | with_reducible exact xH | apply xT); first | done | fail) ⟨rfl, rfl, rfl, rfl, trivial⟩)⟩ ?_
  exact ⟨rfl, hw.xQ⟩
theorem key_calls {E : Env} {w : World} {L : List As} (n : Int) (hw : Sat E w L) :
    Calls Try.prog 71 #[.int .u64 n] w fun e w' => e = .returned (.agg (tmC 3 n ByteArray.empty (.slice none 0 0)).toArray) ∧ Sat E w' L := by
  refine calls_of_g (n := 5) Try.func71 rfl rfl rfl ?_
  change G _ _ _ _ _ [(0, _)] _
  refine g_seq ?_
  refine g_region ?_
  refine rl_k rfl (k_alloc hw T.zero_111 rfl rfl (fun bk0_0 w hw => ?_))
  refine rl_nil (g_le (xK (Fr.le_refl _)) ?_)
  refine g_seq ?_
  refine g_region ?_
  refine xV rfl rfl rfl (v_move rfl) ?_
  refine xV rfl rfl rfl (v_build rfl (T.build_111_0_1 ..)) ?_
  refine rl_k rfl (k_storeWhole hw T.agg_111_4 rfl rfl (by simp [Value.oneCell']) rfl (by (repeat first | with_reducible exact xH | apply xT); first | done | fail) rfl (fun w hw => ?_))
  refine rl_nil (g_le (xS rfl (xS rfl (Fr.le_refl _))) ?_)
  refine g_resC Try.func71 rfl ⟨_, rfl, holds_agg (vs := [_, _, _, _]) T.agg_111_4 rfl (by exact sat_cells hw (by (repeat first | with_reducible exact xH | apply xT); first | done | fail) ⟨rfl, rfl, rfl, rfl, trivial⟩)⟩ ?_
  exact ⟨rfl, hw.xQ⟩
theorem atom_calls {E : Env} {w : World} {L : List As} (s : ByteArray) (hw : Sat E w L) :
    Calls Try.prog 66 #[.string s] w fun e w' => e = .returned (.agg (tmC 2 0 s (.slice none 0 0)).toArray) ∧ Sat E w' L := by
  refine calls_of_g (n := 5) Try.func66 rfl rfl rfl ?_
  change G _ _ _ _ _ [(0, _)] _
  refine g_seq ?_
  refine g_region ?_
  refine rl_k rfl (k_alloc hw T.zero_111 rfl rfl (fun bk0_0 w hw => ?_))
  refine rl_nil (g_le (xK (Fr.le_refl _)) ?_)
  refine g_seq ?_
  refine g_region ?_
  refine xV rfl rfl rfl (v_move rfl) ?_
  refine xV rfl rfl rfl (v_build rfl (T.build_111_0_2 ..)) ?_
  refine rl_k rfl (k_storeWhole hw T.agg_111_4 rfl rfl (by simp [Value.oneCell']) rfl (by (repeat first | with_reducible exact xH | apply xT); first | done | fail) rfl (fun w hw => ?_))
  refine rl_nil (g_le (xS rfl (xS rfl (Fr.le_refl _))) ?_)
  refine g_resC Try.func66 rfl ⟨_, rfl, holds_agg (vs := [_, _, _, _]) T.agg_111_4 rfl (by exact sat_cells hw (by (repeat first | with_reducible exact xH | apply xT); first | done | fail) ⟨rfl, rfl, rfl, rfl, trivial⟩)⟩ ?_
  exact ⟨rfl, hw.xQ⟩
theorem tof_calls {E : Env} {w : World} {L : List As} {g : Hp} {a : Option Addr} {n c : Nat} {l : List Tm} (hl : rdSl 56 4 rdTm g [.slice a n c] l) (hw : Sat E w (RO g :: L)) :
    Calls Try.prog 68 #[.slice a n c] w fun e w' => ∃ g' sl, g.le g' ∧ e = .returned (.agg (tmC 5 0 ByteArray.empty sl).toArray) ∧ rdSl 56 4 rdTm g' [sl] l ∧ Sat E w' (RO g' :: L) := by
  have ht : rdTm g [.int .i64 5, .int .u64 0, .string ByteArray.empty, .slice a n c] (rowT l) := rdTm_mk (by simp) hl
  refine calls_of_g (n := 6) Try.func68 rfl rfl rfl ?_
  change G _ _ _ _ _ [(0, _)] _
  refine g_seq ?_
  refine g_region ?_
  refine rl_k rfl (k_alloc hw T.zero_111 rfl rfl (fun bk0_0 w hw => ?_))
  refine rl_nil (g_le (xK (Fr.le_refl _)) ?_)
  refine g_seq ?_
  refine g_region ?_
  refine xV rfl rfl rfl (v_move rfl) ?_
  refine xV rfl rfl rfl (v_build rfl (T.build_111_0_3 ..)) ?_
  refine rl_k rfl (k_callf Try.func88 rfl rfl rfl rfl ?_)
  refine Calls.mono (clone_calls _ (Nat.le_refl _) ht (hw.xQ)) ?_
  rintro _ w ⟨g1, cs1, hg1, rfl, hrd, hw⟩
  obtain ⟨xa, xc, rfl, _, hl2⟩ := tm_shape hrd
  refine ⟨_, rfl, ?_⟩
  refine rl_k rfl (k_storeWhole hw T.agg_111_4 rfl rfl (by simp [Value.oneCell']) rfl (by (repeat first | with_reducible exact xH | apply xT); first | done | fail) rfl (fun w hw => ?_))
  refine rl_nil (g_le (xS rfl (xS rfl (xS rfl (Fr.le_refl _)))) ?_)
  refine g_resC Try.func68 rfl ⟨_, rfl, holds_agg (vs := [_, _, _, _]) T.agg_111_4 rfl (by exact sat_cells hw (by (repeat first | with_reducible exact xH | apply xT); first | done | fail) ⟨rfl, rfl, rfl, rfl, trivial⟩)⟩ ?_
  exact ⟨g1, _, hg1, rfl, hl2, hw.xQ⟩
theorem lit_tm {E : Env} {w : World} {L : List As} {g : Hp} {b : Nat} {cells : List Value} {ts : List Tm} (h : Sat E w (pt b (.cells cells.toArray 111 (0, 0)) :: RO g :: L)) (he : Els rdTm 4 g cells ts) (hn : ts.length ≤ 1000) :
    ∃ g', g.le g' ∧ rdSl 56 4 rdTm g' [.slice (some ⟨b, 0, none⟩) ts.length ts.length] ts ∧ Sat E w (RO g' :: L) :=
  (h.pick .at1).freeze_lit (bytes := 56) mono_Tm he rfl (by simp only [maxLen]; omega) (by simp only [reachBytes]; omega)
def ownT (t : Tm) : Tm × Int := if rightT t ≠ 0 then (tm0, rightT t) else (t, 0)
def sealB (key : Int) (t : Tm) : Tm × Int := if rightT t ≠ 0 then (tm0, rightT t) else ownT (boxT key t)
def openB (key : Int) (t : Tm) : Tm × Int := if rightT t ≠ 0 then (tm0, rightT t) else if t.kind ≠ 4 then (tm0, 30) else if t.num ≠ key then (tm0, 31) else ownT (t.list.headD tm0)
def packB (key : Int) (t : Tm) : ByteArray × Int := if (sealB key t).2 ≠ 0 then (ByteArray.empty, (sealB key t).2) else (if rightT (sealB key t).1 = 0 then wrT (sealB key t).1 else ByteArray.empty, rightT (sealB key t).1)
theorem own_calls {E : Env} {w : World} {L : List As} {g : Hp} {cs : List Value} {t : Tm} (ht : rdTm g cs t) (hw : Sat E w (RO g :: L)) :
    Calls Try.prog 89 #[.agg cs.toArray] w fun e w' => ∃ g' cs', g.le g' ∧ e = .returned (.tuple #[.agg cs'.toArray, .int .i64 (ownT t).2]) ∧ rdTm g' cs' (ownT t).1 ∧ Sat E w' (RO g' :: L) := by
  obtain ⟨a, c, rfl, _⟩ := tm_shape ht
  refine calls_of_g (n := 17) Try.func89 rfl rfl rfl ?_
  change G _ _ _ _ _ [(0, _)] _
  refine g_seq ?_
  refine g_region ?_
  refine rl_k rfl (k_box hw rfl rfl rfl (fun bk0_0 w hw => ?_))
  refine rl_k rfl (k_alloc hw T.zero_111 rfl rfl (fun bk0_1 w hw => ?_))
  refine xV rfl rfl rfl (v_assign rfl) ?_
  refine rl_nil (g_le (xK (xK (xK (Fr.le_refl _)))) ?_)
  refine g_seq (g_seq ?_)
  refine g_region ?_
  refine rl_v rfl rfl rfl (by exact sat_cells hw (by (repeat first | with_reducible exact xH | apply xT); first | done | fail) ⟨rfl, rfl, rfl, rfl, trivial⟩) (v_loadAgg (vs := [_, _, _, _]) T.agg_111_4 rfl rfl) ?_
  refine rl_k rfl (k_callf Try.func80 rfl rfl rfl rfl ?_)
  refine Calls.mono (tright_calls ht (hw.xQ)) ?_
  rintro _ w ⟨rfl, hw⟩
  refine ⟨_, rfl, ?_⟩
  refine xV rfl rfl rfl (v_assign rfl) ?_
  refine rl_nil (g_le (xK (xS rfl (xS rfl (Fr.le_refl _)))) ?_)
  refine g_seq ?_
  refine g_region ?_
  refine xV rfl rfl rfl (v_move rfl) ?_
  refine xV rfl rfl rfl (v_neq rfl rfl) ?_
  refine rl_nil (g_le (xK (xS rfl (Fr.le_refl _))) ?_)
  refine g_cond rfl (fun h1 => ?_) (fun h1 => ?_)
  · try with_reducible exact ft_elim h1
    all_goals
      try replace h1 := of_decide_eq_true h1
      refine g_seq ?_
      refine g_region ?_
      refine xV rfl rfl rfl (v_build rfl (T.build_111 ..)) ?_
      refine xV rfl rfl rfl (v_move rfl) ?_
      refine rl_k rfl (k_storeWhole hw T.agg_111_4 rfl rfl (by simp [Value.oneCell']) rfl (by (repeat first | with_reducible exact xH | apply xT); first | done | fail) rfl (fun w hw => ?_))
      refine xV rfl rfl rfl (v_assign rfl) ?_
      refine rl_nil (g_le (xK (xS rfl (xS rfl (Fr.le_refl _)))) ?_)
      refine g_res2 Try.func89 rfl ⟨_, rfl, holds_agg (vs := [_, _, _, _]) T.agg_111_4 rfl (by exact sat_cells hw (by (repeat first | with_reducible exact xH | apply xT); first | done | fail) ⟨rfl, rfl, rfl, rfl, trivial⟩)⟩ rfl ?_
      have e9 : ownT t = (tm0, rightT t) := by unfold ownT; rw [if_pos h1]
      rw [e9]
      exact ⟨g, _, Hp.le_refl _, rfl, rd_tm0 g, hw.xQ⟩
  · try with_reducible exact tf_elim h1
    all_goals
      try replace h1 := of_decide_eq_false h1
      refine g_skip (g_seq ?_)
      refine g_region ?_
      refine rl_v rfl rfl rfl (by exact sat_cells hw (by (repeat first | with_reducible exact xH | apply xT); first | done | fail) ⟨rfl, rfl, rfl, rfl, trivial⟩) (v_loadAgg (vs := [_, _, _, _]) T.agg_111_4 rfl rfl) ?_
      refine rl_k rfl (k_buildSlice (cells := [_, _, _, _]) hw T.sl_109_111_4 T.zero_111 rfl rfl rfl rfl rfl rfl (fun bk4_1 w hw => ?_))
      obtain ⟨g1, hg1, hl1, hw⟩ := lit_tm ((hw.xP (A := RO g)).xP (A := pt bk4_1 _)) (Els.one rfl ht) (by simp)
      refine rl_k rfl (k_callf Try.func68 rfl rfl rfl rfl ?_)
      refine Calls.mono (tof_calls hl1 hw) ?_
      rintro _ w ⟨g2, sl, hg2, rfl, hl2, hw⟩
      obtain ⟨sa, sn, sc, rfl⟩ := rdSl_shape hl2
      obtain ⟨rfl, _, _, _, g9⟩ := rdSl_get hl2
      have hz := hw
      clear hw
      obtain ⟨b4, o1, x, ecs, rfl, hx, hat1, hln1, hrd⟩ := g9 0 (by omega) (by simp)
      cases hx
      obtain ⟨xa, xc, rfl, _⟩ := tm_shape hrd
      have hl9 : ([t] : List Tm).length = 1 := rfl
      have hw := hz
      clear hz
      refine ⟨_, rfl, ?_⟩
      refine xV rfl rfl rfl (v_field T.fldv_111_3_3_1_false rfl rfl) ?_
      refine xV rfl rfl rfl (v_indexAddr T.sl_109_111_4 rfl rfl (by omega) (by omega)) ?_
      refine rl_v rfl rfl rfl (by exact ro_ats hw (by (repeat first | with_reducible exact xH | apply xT); first | done | fail) (by assumption)) (v_loadAgg (vs := [_, _, _, _]) T.agg_111_4 rfl rfl) ?_
      refine rl_k rfl (k_storeWhole hw T.agg_111_4 rfl rfl (by simp [Value.oneCell']) rfl (by (repeat first | with_reducible exact xH | apply xT); first | done | fail) rfl (fun w hw => ?_))
      refine xV rfl rfl rfl (v_assign rfl) ?_
      refine rl_nil (g_le (xK (xS rfl (xS rfl (xS rfl (xS rfl (xS rfl (xS rfl (Fr.le_refl _)))))))) ?_)
      refine g_res2 Try.func89 rfl ⟨_, rfl, holds_agg (vs := [_, _, _, _]) T.agg_111_4 rfl (by exact sat_cells hw (by (repeat first | with_reducible exact xH | apply xT); first | done | fail) ⟨rfl, rfl, rfl, rfl, trivial⟩)⟩ rfl ?_
      have e9 : ownT t = (t, 0) := by unfold ownT; rw [if_neg h1]
      rw [e9]
      exact ⟨g2, _, hg1.trans hg2, rfl, hrd, hw.xQ⟩
theorem seal_calls {E : Env} {w : World} {L : List As} {g : Hp} {cs : List Value} {t : Tm} (key : Int) (h0 : 0 ≤ key) (hk1 : key ≤ 18446744073709551615) (ht : rdTm g cs t) (hw : Sat E w (RO g :: L)) :
    Calls Try.prog 72 #[.int .u64 key, .agg cs.toArray] w fun e w' => ∃ g' cs', g.le g' ∧ e = .returned (.tuple #[.agg cs'.toArray, .int .i64 (sealB key t).2]) ∧ rdTm g' cs' (sealB key t).1 ∧ Sat E w' (RO g' :: L) := by
  obtain ⟨a, c, rfl, _⟩ := tm_shape ht
  refine calls_of_g (n := 20) Try.func72 rfl rfl rfl ?_
  change G _ _ _ _ _ [(0, _), (1, _)] _
  refine g_seq ?_
  refine g_region ?_
  refine rl_k rfl (k_box hw rfl rfl rfl (fun bk0_0 w hw => ?_))
  refine rl_k rfl (k_alloc hw T.zero_111 rfl rfl (fun bk0_1 w hw => ?_))
  refine xV rfl rfl rfl (v_assign rfl) ?_
  refine rl_nil (g_le (xK (xK (xK (Fr.le_refl _)))) ?_)
  refine g_seq (g_seq ?_)
  refine g_region ?_
  refine rl_v rfl rfl rfl (by exact sat_cells hw (by (repeat first | with_reducible exact xH | apply xT); first | done | fail) ⟨rfl, rfl, rfl, rfl, trivial⟩) (v_loadAgg (vs := [_, _, _, _]) T.agg_111_4 rfl rfl) ?_
  refine rl_k rfl (k_callf Try.func80 rfl rfl rfl rfl ?_)
  refine Calls.mono (tright_calls ht (hw.xQ)) ?_
  rintro _ w ⟨rfl, hw⟩
  refine ⟨_, rfl, ?_⟩
  refine xV rfl rfl rfl (v_assign rfl) ?_
  refine rl_nil (g_le (xK (xS rfl (xS rfl (Fr.le_refl _)))) ?_)
  refine g_seq ?_
  refine g_region ?_
  refine xV rfl rfl rfl (v_move rfl) ?_
  refine xV rfl rfl rfl (v_neq rfl rfl) ?_
  refine rl_nil (g_le (xK (xS rfl (Fr.le_refl _))) ?_)
  refine g_cond rfl (fun h1 => ?_) (fun h1 => ?_)
  · try with_reducible exact ft_elim h1
    all_goals
      try replace h1 := of_decide_eq_true h1
      refine g_seq ?_
      refine g_region ?_
      refine xV rfl rfl rfl (v_build rfl (T.build_111 ..)) ?_
      refine xV rfl rfl rfl (v_move rfl) ?_
      refine rl_k rfl (k_storeWhole hw T.agg_111_4 rfl rfl (by simp [Value.oneCell']) rfl (by (repeat first | with_reducible exact xH | apply xT); first | done | fail) rfl (fun w hw => ?_))
      refine xV rfl rfl rfl (v_assign rfl) ?_
      refine rl_nil (g_le (xK (xS rfl (xS rfl (Fr.le_refl _)))) ?_)
      refine g_res2 Try.func72 rfl ⟨_, rfl, holds_agg (vs := [_, _, _, _]) T.agg_111_4 rfl (by exact sat_cells hw (by (repeat first | with_reducible exact xH | apply xT); first | done | fail) ⟨rfl, rfl, rfl, rfl, trivial⟩)⟩ rfl ?_
      have e9 : sealB key t = (tm0, rightT t) := by unfold sealB; rw [if_pos h1]
      rw [e9]
      exact ⟨g, _, Hp.le_refl _, rfl, rd_tm0 g, hw.xQ⟩
  · try with_reducible exact tf_elim h1
    all_goals
      try replace h1 := of_decide_eq_false h1
      refine g_skip (g_seq ?_)
      refine g_region ?_
      refine xV rfl rfl rfl (v_move rfl) ?_
      refine rl_v rfl rfl rfl (by exact sat_cells hw (by (repeat first | with_reducible exact xH | apply xT); first | done | fail) ⟨rfl, rfl, rfl, rfl, trivial⟩) (v_loadAgg (vs := [_, _, _, _]) T.agg_111_4 rfl rfl) ?_
      refine rl_k rfl (k_buildSlice (cells := [_, _, _, _]) hw T.sl_109_111_4 T.zero_111 rfl rfl rfl rfl rfl rfl (fun bk4_2 w hw => ?_))
      refine xV rfl rfl rfl (v_build rfl (T.build_111_0_1_3 ..)) ?_
      obtain ⟨g1, hg1, hl1, hw⟩ := lit_tm ((hw.xP (A := RO g)).xP (A := pt bk4_2 _)) (Els.one rfl ht) (by simp)
      refine rl_k rfl (k_callf Try.func89 rfl rfl rfl rfl ?_)
      refine Calls.mono (own_calls (t := boxT key t) (rdTm_mk (by simp; omega) hl1) hw) ?_
      rintro _ w ⟨g2, cs2, hg2, rfl, hrd, hw⟩
      obtain ⟨xa, xc, rfl, _⟩ := tm_shape hrd
      refine ⟨_, rfl, ?_⟩
      refine xV rfl rfl rfl (v_extract rfl rfl) ?_
      refine xV rfl rfl rfl (v_extract rfl rfl) ?_
      refine rl_k rfl (k_storeWhole hw T.agg_111_4 rfl rfl (by simp [Value.oneCell']) rfl (by (repeat first | with_reducible exact xH | apply xT); first | done | fail) rfl (fun w hw => ?_))
      refine xV rfl rfl rfl (v_assign rfl) ?_
      refine rl_nil (g_le (xK (xS rfl (xS rfl (xS rfl (xS rfl (xS rfl (xS rfl (xS rfl (Fr.le_refl _))))))))) ?_)
      refine g_res2 Try.func72 rfl ⟨_, rfl, holds_agg (vs := [_, _, _, _]) T.agg_111_4 rfl (by exact sat_cells hw (by (repeat first | with_reducible exact xH | apply xT); first | done | fail) ⟨rfl, rfl, rfl, rfl, trivial⟩)⟩ rfl ?_
      have e9 : sealB key t = ownT (boxT key t) := by unfold sealB; rw [if_neg h1]
      rw [e9]
      exact ⟨g2, _, hg1.trans hg2, rfl, hrd, hw.xQ⟩
theorem pack_calls {E : Env} {w : World} {L : List As} {g : Hp} {cs : List Value} {t : Tm} (key : Int) (h0 : 0 ≤ key) (hk1 : key ≤ 18446744073709551615) (ht : rdTm g cs t) (hw : Sat E w (RO g :: L)) :
    Calls Try.prog 46 #[.int .u64 key, .agg cs.toArray] w fun e w' => ∃ g', g.le g' ∧ e = .returned (.tuple #[.string (packB key t).1, .int .i64 (packB key t).2]) ∧ Sat E w' (RO g' :: L) := by
  obtain ⟨a, c, rfl, _⟩ := tm_shape ht
  refine calls_of_g (n := 21) Try.func46 rfl rfl rfl ?_
  change G _ _ _ _ _ [(0, _), (1, _)] _
  refine g_seq ?_
  refine g_region ?_
  refine rl_k rfl (k_box hw rfl rfl rfl (fun bk0_0 w hw => ?_))
  refine xV rfl rfl rfl (v_assign rfl) ?_
  refine xV rfl rfl rfl (v_assign rfl) ?_
  refine rl_nil (g_le (xK (xK (xK (Fr.le_refl _)))) ?_)
  refine g_seq ?_
  refine g_region ?_
  refine xV rfl rfl rfl (v_move rfl) ?_
  refine rl_v rfl rfl rfl (by exact sat_cells hw (by (repeat first | with_reducible exact xH | apply xT); first | done | fail) ⟨rfl, rfl, rfl, rfl, trivial⟩) (v_loadAgg (vs := [_, _, _, _]) T.agg_111_4 rfl rfl) ?_
  refine rl_k rfl (k_callf Try.func72 rfl rfl rfl rfl ?_)
  refine Calls.mono (seal_calls key h0 hk1 ht (hw.xQ)) ?_
  rintro _ w ⟨g1, cs1, hg1, rfl, hrd, hw⟩
  obtain ⟨xa, xc, rfl, _⟩ := tm_shape hrd
  refine ⟨_, rfl, ?_⟩
  refine xV rfl rfl rfl (v_move rfl) ?_
  refine xV rfl rfl rfl (v_extract rfl rfl) ?_
  refine xV rfl rfl rfl (v_extract rfl rfl) ?_
  refine rl_k rfl (k_alloc hw T.zero_111 rfl rfl (fun bk1_6 w hw => ?_))
  refine rl_k rfl (k_storeWhole hw T.agg_111_4 rfl rfl (by simp [Value.oneCell']) rfl (by (repeat first | with_reducible exact xH | apply xT); first | done | fail) rfl (fun w hw => ?_))
  refine xV rfl rfl rfl (v_assign rfl) ?_
  refine rl_nil (g_le (xK (xK (xS rfl (xS rfl (xS rfl (xS rfl (xS rfl (xS rfl (Fr.le_refl _))))))))) ?_)
  refine g_seq (g_seq ?_)
  refine g_region ?_
  refine xV rfl rfl rfl (v_move rfl) ?_
  refine xV rfl rfl rfl (v_neq rfl rfl) ?_
  refine rl_nil (g_le (xK (xS rfl (Fr.le_refl _))) ?_)
  refine g_cond rfl (fun h1 => ?_) (fun h1 => ?_)
  · try with_reducible exact ft_elim h1
    all_goals
      try replace h1 := of_decide_eq_true h1
      refine g_seq ?_
      refine g_region ?_
      refine xV rfl rfl rfl (v_move rfl) ?_
      refine xV rfl rfl rfl (v_assign rfl) ?_
      refine xV rfl rfl rfl (v_assign rfl) ?_
      refine rl_nil (g_le (xK (xK (xS rfl (Fr.le_refl _)))) ?_)
      refine g_ret2 Try.func46 rfl rfl rfl ?_
      exact ⟨g1, hg1, by unfold packB; rw [if_pos h1]; rfl, hw.xQ⟩
  · try with_reducible exact tf_elim h1
    all_goals
      try replace h1 := of_decide_eq_false h1
      refine g_skip (g_seq ?_)
      refine g_region ?_
      refine rl_v rfl rfl rfl (by exact sat_cells hw (by (repeat first | with_reducible exact xH | apply xT); first | done | fail) ⟨rfl, rfl, rfl, rfl, trivial⟩) (v_loadAgg (vs := [_, _, _, _]) T.agg_111_4 rfl rfl) ?_
      refine rl_k rfl (k_callf Try.func73 rfl rfl rfl rfl ?_)
      refine Calls.mono (encode_calls hrd (hw.xQ)) ?_
      rintro _ w ⟨rfl, hw⟩
      refine ⟨_, rfl, ?_⟩
      refine xV rfl rfl rfl (v_extract rfl rfl) ?_
      refine xV rfl rfl rfl (v_extract rfl rfl) ?_
      refine xV rfl rfl rfl (v_assign rfl) ?_
      refine xV rfl rfl rfl (v_assign rfl) ?_
      refine rl_nil (g_le (xK (xK (xS rfl (xS rfl (xS rfl (xS rfl (Fr.le_refl _))))))) ?_)
      refine g_ret2 Try.func46 rfl rfl rfl ?_
      exact ⟨g1, hg1, by unfold packB; rw [if_neg h1]; rfl, hw.xQ⟩
end Go.Proofs.Ytlgpdglnfjndhaa
