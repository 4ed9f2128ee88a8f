/-
  PagesCaches: what pages answer does not hang on how many opened nodes are kept.
-/
import Derived.Test.YtlgpdglnfjndhaaP23
import Derived.Test.YtlgpdglnfjndhaaN06
import Derived.Test.YtlgpdglnfjndhaaRows
namespace Go.Proofs.Ytlgpdglnfjndhaa
set_option maxRecDepth 8000
set_option linter.unusedSimpArgs false
set_option linter.unusedVariables false
open Go Xe Go.Lib Go.RowKit Go.ChangeShapes Go.WideShapes Go.ChangeAt
structure Quota where
  secrets : Int
  name : Int
  value : Int
  note : Int
  versions : Int
  batch : Int
  cache : Int
instance : DecidableEq Quota := fun a b => decidable_of_iff (a.secrets = b.secrets ∧ a.name = b.name ∧ a.value = b.value ∧ a.note = b.note ∧ a.versions = b.versions ∧ a.batch = b.batch ∧ a.cache = b.cache) (by cases a; cases b; simp)
@[reducible] def Quota.cells (x : Quota) : List Value := [.int .i64 x.secrets, .int .i64 x.name, .int .i64 x.value, .int .i64 x.note, .int .i64 x.versions, .int .i64 x.batch, .int .i64 x.cache]
def Quota.ok (x : Quota) : Prop := (Lit.int .i64 x.secrets).wf = true ∧ (Lit.int .i64 x.name).wf = true ∧ (Lit.int .i64 x.value).wf = true ∧ (Lit.int .i64 x.note).wf = true ∧ (Lit.int .i64 x.versions).wf = true ∧ (Lit.int .i64 x.batch).wf = true ∧ (Lit.int .i64 x.cache).wf = true
def rdQuota : Rd Quota := fun _ cs x => cs = x.cells ∧ x.ok
theorem reads_Quota {H : Type} {enc : TypeId × Value → H} : Reads enc Try.prog 23 rdQuota := fun w fuel cs d ps h hz => by
  have hl := reads_length T.agg_23_7 (by kernel_rfl) h hz
  obtain ⟨c0, c1, c2, c3, c4, c5, c6, rfl⟩ : ∃ c0 c1 c2 c3 c4 c5 c6, cs = [c0, c1, c2, c3, c4, c5, c6] := by
    match cs, hl with
    | [c0, c1, c2, c3, c4, c5, c6], _ => exact ⟨_, _, _, _, _, _, _, rfl⟩
  obtain ⟨x0, h0⟩ := reads_field (i := 0) (off := 0) (k := 1) (ft := 3) (by kernel_rfl) h hz (reads_int T.int_3_i64)
  obtain ⟨x1, h1⟩ := reads_field (i := 1) (off := 1) (k := 1) (ft := 3) (by kernel_rfl) h hz (reads_int T.int_3_i64)
  obtain ⟨x2, h2⟩ := reads_field (i := 2) (off := 2) (k := 1) (ft := 3) (by kernel_rfl) h hz (reads_int T.int_3_i64)
  obtain ⟨x3, h3⟩ := reads_field (i := 3) (off := 3) (k := 1) (ft := 3) (by kernel_rfl) h hz (reads_int T.int_3_i64)
  obtain ⟨x4, h4⟩ := reads_field (i := 4) (off := 4) (k := 1) (ft := 3) (by kernel_rfl) h hz (reads_int T.int_3_i64)
  obtain ⟨x5, h5⟩ := reads_field (i := 5) (off := 5) (k := 1) (ft := 3) (by kernel_rfl) h hz (reads_int T.int_3_i64)
  obtain ⟨x6, h6⟩ := reads_field (i := 6) (off := 6) (k := 1) (ft := 3) (by kernel_rfl) h hz (reads_int T.int_3_i64)
  obtain ⟨e0, k0⟩ := h0
  obtain ⟨e1, k1⟩ := h1
  obtain ⟨e2, k2⟩ := h2
  obtain ⟨e3, k3⟩ := h3
  obtain ⟨e4, k4⟩ := h4
  obtain ⟨e5, k5⟩ := h5
  obtain ⟨e6, k6⟩ := h6
  simp only [List.drop_zero, List.drop_succ_cons, List.take_succ_cons, List.take_zero, List.cons.injEq, and_true] at e0 e1 e2 e3 e4 e5 e6
  obtain rfl := e0
  obtain rfl := e1
  obtain rfl := e2
  obtain rfl := e3
  obtain rfl := e4
  obtain rfl := e5
  obtain rfl := e6
  exact ⟨⟨x0, x1, x2, x3, x4, x5, x6⟩, rfl, k0, k1, k2, k3, k4, k5, k6⟩
theorem qt_of {w : World} {cs : Array Value} {x : Quota} (hr : rdArg rdQuota w (.agg cs) x) : ∃ q : Qt, cs = q.cells.toArray :=
  ⟨⟨x.secrets, x.name, x.value, x.note, x.versions, x.batch, x.cache⟩, by apply Array.ext'; exact hr.1⟩
theorem u64s_rd {g : Hp} {v : Value} {xs : List Int} (h : rdSl 8 1 (rdInt .u64) g [v] xs) : ∀ x ∈ xs, U64 x := fun x hx => by
  obtain ⟨cs, h1⟩ := rdSl_mem' h x hx
  exact u64_wf h1.2
theorem madeAny_calls {E : Env} {w : World} {L : List As} {g : Hp} (q : Qt) {n : Int} {a : Option Addr} {nn kk : Nat} {xs : List Int} (h1 : 1 ≤ n) (h2 : n ≤ 4096) (hv : rdSl 8 1 (rdInt .u64) g [.slice a nn kk] xs) (hn : nn ≤ 100000) (hw : Sat E w (RO g :: L)) :
    Calls Try.prog 6 #[q.v, .int .i64 n, .slice a nn kk] w fun e w' => ∃ pv, e = .returned (.pointer pv) ∧ Sat E w' (RO g :: L) := by
  by_cases hq : q.ok
  · refine Calls.mono (made_calls hq h1 h2 hv hn hw) ?_
    rintro _ w ⟨pp, rfl, hw⟩
    exact ⟨_, rfl, hw.xQ⟩
  · refine Calls.mono (madeBad_calls hq h1 h2 hv hn hw) ?_
    rintro _ w ⟨rfl, hw⟩
    exact ⟨_, rfl, hw⟩
theorem ord_f5_r3_P16K : orderOfB Try.f5 3 [3] (.a 1 (.v 0 (.k 2 (.k 3 (.k 4 .done))))) = true := by kernel_rfl
theorem ord_f5_r4_P16K : orderOfB Try.f5 4 [3] (.a 1 (.v 0 (.k 2 (.k 3 (.k 4 .done))))) = true := by kernel_rfl
theorem PagesCaches_bad {W w : World} {q : Qt} {cv : Int} {a1 a2 a3 : Option Addr} {n1 c1 n2 c2 n3 c3 : Nat} {xs : List Int} (hq : ¬ (q.ok ∧ ({ q with ca := cv } : Qt).ok)) (hd : (rdSl 8 1 (rdInt .u64)) (hpOf W) [.slice a1 n1 c1] xs) (hw : Sat (envOf W) w [Old W]) :
    Calls Try.prog 5 #[q.v, .int .i64 cv, .slice a1 n1 c1, .slice a2 n2 c2, .slice a3 n3 c3] w fun v w' => v = .returned (.bool true) ∧ Sat (envOf W) w' [Old W] := by
  obtain ⟨_, hb1, hc1, hm1, _⟩ := rdSl_get hd
  have hd40 := rdSl_take (min n1 40) hd (Nat.min_le_left ..)
  refine calls_of_g (n := 163) Try.func5 rfl rfl rfl ?_
  change G _ _ _ _ _ [(0, _), (1, _), (2, _), (3, _), (4, _)] _
  refine g_seq ?_
  refine g_region ?_
  refine rl_k rfl (k_box hw rfl rfl rfl (fun bk0_0 w hw => ?_))
  refine xV rfl rfl rfl (v_assign rfl) ?_
  refine rl_nil (g_le (xK (xK (Fr.le_refl _))) ?_)
  refine g_seq ?_
  refine g_region ?_
  refine rl_v rfl rfl rfl (by exact sat_cells hw (by (repeat first | with_reducible exact xH | apply xT); first | done | fail) ⟨rfl, rfl, rfl, rfl, rfl, rfl, rfl, trivial⟩) (v_loadAgg (vs := [_, _, _, _, _, _, _]) T.agg_23_7 rfl rfl) ?_
  refine rl_k rfl (k_alloc hw T.zero_23 rfl rfl (fun bk1_1 w hw => ?_))
  refine rl_k rfl (k_storeWhole hw T.agg_23_7 rfl rfl (by simp [Value.oneCell']) rfl (by (repeat first | with_reducible exact xH | apply xT); first | done | fail) rfl (fun w hw => ?_))
  refine rl_nil (g_le (xK (xS rfl (Fr.le_refl _))) ?_)
  refine g_seq ?_
  refine g_region ?_
  refine xV rfl rfl rfl (v_move rfl) ?_
  refine xV rfl rfl rfl (v_fieldAddr0 T.fld_23_6_6 rfl) ?_
  refine rl_k rfl (k_store hw T.scal_3 rfl rfl rfl (by (repeat first | with_reducible exact xH | apply xT); first | done | fail) rfl (by simp only [List.set, Int.reduceToNat, Nat.reduceMul, Nat.reduceAdd]; rfl) (fun w hw => ?_))
  refine rl_nil (g_le (xS rfl (xS rfl (Fr.le_refl _))) ?_)
  refine g_seq ?_
  refine g_drawR ord_f5_r3_P16K (by kernel_rfl) T.mixed hw (fun w hw => ?_)
  refine rs_a 1 rfl rfl rfl rfl (v_move rfl) ?_
  refine rs_v 0 rfl rfl rfl rfl (OpV.mono (v_loadAgg (vs := [_, _, _, _, _, _, _]) T.agg_23_7 rfl rfl) (fun w hw => by exact sat_cells hw (by (repeat first | with_reducible exact xH | apply xT); first | done | fail) ⟨rfl, rfl, rfl, rfl, rfl, rfl, rfl, trivial⟩)) (by exact hw) ?_
  refine rs_k 2 rfl rfl (k_callf Try.func7 rfl rfl rfl rfl ?_)
  refine Calls.mono (cut16_calls (by omega) hc1 (hw.xQ)) ?_
  rintro _ w ⟨rfl, hw⟩
  refine ⟨_, rfl, ?_⟩
  refine ⟨fun _ => (by exact hw), ?_⟩
  refine rs_k 3 rfl rfl (k_callf Try.func6 rfl rfl rfl rfl ?_)
  refine Calls.mono (madeAny_calls q (by omega) (by omega) hd40 (by omega) (hw.xQ)) ?_
  rintro _ w ⟨pv, rfl, hw⟩
  refine ⟨_, rfl, ?_⟩
  refine ⟨fun hn => absurd (by decide) hn, ?_⟩
  refine rs_kv 4 rfl rfl rfl rfl (S' := fun _ => True) trivial (v_assign rfl) ?_
  refine rs_done (g_le (xK (xS rfl (xS rfl (xS rfl (xS rfl (Fr.le_refl _)))))) ?_)
  refine g_seq ?_
  refine g_drawR ord_f5_r4_P16K (by kernel_rfl) T.mixed hw (fun w hw => ?_)
  refine rs_a 1 rfl rfl rfl rfl (v_move rfl) ?_
  refine rs_v 0 rfl rfl rfl rfl (OpV.mono (v_loadAgg (vs := [_, _, _, _, _, _, _]) T.agg_23_7 rfl rfl) (fun w hw => by exact sat_cells hw (by (repeat first | with_reducible exact xH | apply xT); first | done | fail) ⟨rfl, rfl, rfl, rfl, rfl, rfl, rfl, trivial⟩)) (by exact hw) ?_
  refine rs_k 2 rfl rfl (k_callf Try.func7 rfl rfl rfl rfl ?_)
  refine Calls.mono (cut16_calls (by omega) hc1 (hw.xQ)) ?_
  rintro _ w ⟨rfl, hw⟩
  refine ⟨_, rfl, ?_⟩
  refine ⟨fun _ => (by exact hw), ?_⟩
  refine rs_k 3 rfl rfl (k_callf Try.func6 rfl rfl rfl rfl ?_)
  refine Calls.mono (madeAny_calls { q with ca := cv } (by omega) (by omega) hd40 (by omega) (hw.xQ)) ?_
  rintro _ w ⟨pv2, rfl, hw⟩
  refine ⟨_, rfl, ?_⟩
  refine ⟨fun hn => absurd (by decide) hn, ?_⟩
  refine rs_kv 4 rfl rfl rfl rfl (S' := fun _ => True) trivial (v_assign rfl) ?_
  refine rs_done (g_le (xK (xS rfl (xS rfl (xS rfl (xS rfl (Fr.le_refl _)))))) ?_)
  refine g_seq (g_seq ?_)
  refine g_region ?_
  refine rl_v rfl rfl rfl (by exact sat_cells hw (by (repeat first | with_reducible exact xH | apply xT); first | done | fail) ⟨rfl, rfl, rfl, rfl, rfl, rfl, rfl, trivial⟩) (v_loadAgg (vs := [_, _, _, _, _, _, _]) T.agg_23_7 rfl rfl) ?_
  refine rl_k rfl (k_callf Try.func8 rfl rfl rfl rfl ?_)
  refine Calls.mono (rright_calls q (hw.xQ)) ?_
  rintro _ w ⟨rfl, hw⟩
  refine ⟨_, rfl, ?_⟩
  refine xV rfl rfl rfl (v_not rfl) ?_
  refine xV rfl rfl rfl (v_move rfl) ?_
  refine rl_split (s := 41) rfl (fun g5_3 => ?_) (fun g5_3 => ?_)
  · try with_reducible exact ft_elim g5_3
    all_goals
      try replace g5_3 := of_decide_eq_true g5_3
      refine rl_off (met_off rfl rfl rfl rfl rfl) rfl rfl ?_
      refine rl_off (met_off rfl rfl rfl rfl rfl) rfl rfl ?_
      refine rl_off (met_off rfl rfl rfl rfl rfl) rfl rfl ?_
      refine xV rfl rfl rfl (v_pick_true rfl rfl) ?_
      refine rl_nil (g_le (xK (xS rfl (xS rfl (xS rfl (xS rfl (xS rfl (xS rfl (xS rfl (xS rfl (Fr.le_refl _)))))))))) ?_)
      refine g_cond_true rfl ?_
      refine g_seq ?_
      refine g_region ?_
      refine xV rfl rfl rfl (v_assign rfl) ?_
      refine rl_nil (g_le (xK (Fr.le_refl _)) ?_)
      refine g_ret1 Try.func5 rfl rfl ?_
      exact ⟨rfl, hw.xQ⟩
  · try with_reducible exact tf_elim g5_3
    all_goals
      try replace g5_3 := of_decide_eq_false g5_3
      refine rl_vg (met_on rfl rfl rfl rfl) rfl rfl (by exact sat_cells hw (by (repeat first | with_reducible exact xH | apply xT); first | done | fail) ⟨rfl, rfl, rfl, rfl, rfl, rfl, rfl, trivial⟩) (v_loadAgg (vs := [_, _, _, _, _, _, _]) T.agg_23_7 rfl rfl) ?_
      refine rl_kg (met_on rfl rfl rfl rfl) (k_callf Try.func8 rfl rfl rfl rfl ?_)
      refine Calls.mono (rright_calls { q with ca := cv } (hw.xQ)) ?_
      rintro _ w ⟨rfl, hw⟩
      refine ⟨_, rfl, ?_⟩
      refine rl_vg (met_on rfl rfl rfl rfl) rfl rfl (S := fun _ => True) trivial (v_not rfl) ?_
      refine xV rfl rfl rfl (v_pick_false rfl rfl) ?_
      refine rl_nil (g_le (xK (xS rfl (xS rfl (xS rfl (xS rfl (xS rfl (xS rfl (xS rfl (xS rfl (Fr.le_refl _)))))))))) ?_)
      refine g_cond rfl (fun h1 => ?_) (fun h1 => ?_)
      · try with_reducible exact ft_elim h1
        all_goals
          try replace h1 := of_decide_eq_true h1
          refine g_seq ?_
          refine g_region ?_
          refine xV rfl rfl rfl (v_assign rfl) ?_
          refine rl_nil (g_le (xK (Fr.le_refl _)) ?_)
          refine g_ret1 Try.func5 rfl rfl ?_
          exact ⟨rfl, hw.xQ⟩
      · try with_reducible exact tf_elim h1
        all_goals
          try replace h1 := of_decide_eq_false h1
          exact absurd ⟨by simpa using g5_3, by simpa using h1⟩ hq
theorem ord_f5_r30_P16K : orderOfB Try.f5 30 [] (.a 0 (.a 1 (.a 2 (.a 5 (.a 6 (.a 7 (.v 3 (.v 8 (.k 4 (.k 9 (.k 10 (.k 11 (.a 12 (.a 13 (.a 14 (.a 17 (.v 15 (.v 18 (.k 16 (.k 19 (.k 20 (.k 21 (.a 22 (.a 23 (.a 24 (.a 27 (.k 25 (.k 26 (.k 28 (.k 29 (.k 30 .done))))))))))))))))))))))))))))))) = true := by kernel_rfl
set_option maxHeartbeats 4000000 in
theorem PagesCaches_good {W w : World} {q : Qt} {cv : Int} {a1 a2 a3 : Option Addr} {n1 c1 n2 c2 n3 c3 : Nat} {xs as_ : List Int} {ns : List Nd} (hq : q.ok) (hq2 : ({ q with ca := cv } : Qt).ok) (hd : (rdSl 8 1 (rdInt .u64)) (hpOf W) [.slice a1 n1 c1] xs) (hn : (rdSl 56 3 rdNd) (hpOf W) [.slice a2 n2 c2] ns) (ha : (rdSl 8 1 (rdInt .i64)) (hpOf W) [.slice a3 n3 c3] as_) (hw : Sat (envOf W) w [RO (hpOf W)]) :
    Calls Try.prog 5 #[q.v, .int .i64 cv, .slice a1 n1 c1, .slice a2 n2 c2, .slice a3 n3 c3] w fun v w' => v = .returned (.bool true) ∧ Sat (envOf W) w' [RO (hpOf W)] := by
  obtain ⟨_, hb1, hc1, hm1, _⟩ := rdSl_get hd
  have hd40 := rdSl_take (min n1 40) hd (Nat.min_le_left ..)
  have hu64 := u64s_rd hd40
  have hl40 : (xs.take (min n1 40)).length ≤ 40 := by rw [List.length_take]; omega
  obtain ⟨hnl, hb2, hc2, hm2, _⟩ := rdSl_get hn
  obtain ⟨hal, hb3, hc3, hm3, _⟩ := rdSl_get ha
  subst hnl hal
  simp only [reachBytes] at hb3
  refine calls_of_g (n := 163) Try.func5 rfl rfl rfl ?_
  change G _ _ _ _ _ [(0, _), (1, _), (2, _), (3, _), (4, _)] _
  refine g_seq ?_
  refine g_region ?_
  refine rl_k rfl (k_box hw rfl rfl rfl (fun bk0_0 w hw => ?_))
  refine xV rfl rfl rfl (v_assign rfl) ?_
  refine rl_nil (g_le (xK (xK (Fr.le_refl _))) ?_)
  refine g_seq ?_
  refine g_region ?_
  refine rl_v rfl rfl rfl (by exact sat_cells hw (by (repeat first | with_reducible exact xH | apply xT); first | done | fail) ⟨rfl, rfl, rfl, rfl, rfl, rfl, rfl, trivial⟩) (v_loadAgg (vs := [_, _, _, _, _, _, _]) T.agg_23_7 rfl rfl) ?_
  refine rl_k rfl (k_alloc hw T.zero_23 rfl rfl (fun bk1_1 w hw => ?_))
  refine rl_k rfl (k_storeWhole hw T.agg_23_7 rfl rfl (by simp [Value.oneCell']) rfl (by (repeat first | with_reducible exact xH | apply xT); first | done | fail) rfl (fun w hw => ?_))
  refine rl_nil (g_le (xK (xS rfl (Fr.le_refl _))) ?_)
  refine g_seq ?_
  refine g_region ?_
  refine xV rfl rfl rfl (v_move rfl) ?_
  refine xV rfl rfl rfl (v_fieldAddr0 T.fld_23_6_6 rfl) ?_
  refine rl_k rfl (k_store hw T.scal_3 rfl rfl rfl (by (repeat first | with_reducible exact xH | apply xT); first | done | fail) rfl (by simp only [List.set, Int.reduceToNat, Nat.reduceMul, Nat.reduceAdd]; rfl) (fun w hw => ?_))
  refine rl_nil (g_le (xS rfl (xS rfl (Fr.le_refl _))) ?_)
  refine g_seq ?_
  refine g_drawR ord_f5_r3_P16K (by kernel_rfl) T.mixed hw (fun w hw => ?_)
  refine rs_a 1 rfl rfl rfl rfl (v_move rfl) ?_
  refine rs_v 0 rfl rfl rfl rfl (OpV.mono (v_loadAgg (vs := [_, _, _, _, _, _, _]) T.agg_23_7 rfl rfl) (fun w hw => by exact sat_cells hw (by (repeat first | with_reducible exact xH | apply xT); first | done | fail) ⟨rfl, rfl, rfl, rfl, rfl, rfl, rfl, trivial⟩)) (by exact hw) ?_
  refine rs_k 2 rfl rfl (k_callf Try.func7 rfl rfl rfl rfl ?_)
  refine Calls.mono (cut16_calls (by omega) hc1 (hw.xQ)) ?_
  rintro _ w ⟨rfl, hw⟩
  refine ⟨_, rfl, ?_⟩
  refine ⟨fun _ => (by exact hw), ?_⟩
  refine rs_k 3 rfl rfl (k_callf Try.func6 rfl rfl rfl rfl ?_)
  refine Calls.mono (made_calls (q := q) hq (by omega) (by omega) hd40 (by omega) (hw.xQ)) ?_
  rintro _ w ⟨pp, rfl, hw⟩
  refine ⟨_, rfl, ?_⟩
  refine ⟨fun hn => absurd (by decide) hn, ?_⟩
  refine rs_kv 4 rfl rfl rfl rfl (S' := fun _ => True) trivial (v_assign rfl) ?_
  refine rs_done (g_le (xK (xS rfl (xS rfl (xS rfl (xS rfl (Fr.le_refl _)))))) ?_)
  refine g_seq ?_
  refine g_drawR ord_f5_r4_P16K (by kernel_rfl) T.mixed hw (fun w hw => ?_)
  refine rs_a 1 rfl rfl rfl rfl (v_move rfl) ?_
  refine rs_v 0 rfl rfl rfl rfl (OpV.mono (v_loadAgg (vs := [_, _, _, _, _, _, _]) T.agg_23_7 rfl rfl) (fun w hw => by exact sat_cells hw (by (repeat first | with_reducible exact xH | apply xT); first | done | fail) ⟨rfl, rfl, rfl, rfl, rfl, rfl, rfl, trivial⟩)) (by exact hw) ?_
  refine rs_k 2 rfl rfl (k_callf Try.func7 rfl rfl rfl rfl ?_)
  refine Calls.mono (cut16_calls (by omega) hc1 (hw.xQ)) ?_
  rintro _ w ⟨rfl, hw⟩
  refine ⟨_, rfl, ?_⟩
  refine ⟨fun _ => (by exact hw), ?_⟩
  refine rs_k 3 rfl rfl (k_callf Try.func6 rfl rfl rfl rfl ?_)
  refine Calls.mono (made_calls (q := { q with ca := cv }) hq2 (by omega) (by omega) hd40 (by omega) (hw.xQ)) ?_
  rintro _ w ⟨pr, rfl, hw⟩
  refine ⟨_, rfl, ?_⟩
  refine ⟨fun hn => absurd (by decide) hn, ?_⟩
  refine rs_kv 4 rfl rfl rfl rfl (S' := fun _ => True) trivial (v_assign rfl) ?_
  refine rs_done (g_le (xK (xS rfl (xS rfl (xS rfl (xS rfl (Fr.le_refl _)))))) ?_)
  refine g_seq (g_seq ?_)
  refine g_region ?_
  refine rl_v rfl rfl rfl (by exact sat_cells hw (by (repeat first | with_reducible exact xH | apply xT); first | done | fail) ⟨rfl, rfl, rfl, rfl, rfl, rfl, rfl, trivial⟩) (v_loadAgg (vs := [_, _, _, _, _, _, _]) T.agg_23_7 rfl rfl) ?_
  refine rl_k rfl (k_callf Try.func8 rfl rfl rfl rfl ?_)
  refine Calls.mono (rright_calls q (hw.xQ)) ?_
  rintro _ w ⟨rfl, hw⟩
  refine ⟨_, rfl, ?_⟩
  refine xV rfl rfl rfl (v_not rfl) ?_
  refine xV rfl rfl rfl (v_move rfl) ?_
  refine rl_split (s := 41) rfl (fun g5_3 => ?_) (fun g5_3 => ?_)
  · try with_reducible exact ft_elim g5_3
    all_goals
      try replace g5_3 := of_decide_eq_true g5_3
      exact absurd hq (by simpa using g5_3)
  · try with_reducible exact tf_elim g5_3
    all_goals
      try replace g5_3 := of_decide_eq_false g5_3
      refine rl_vg (met_on rfl rfl rfl rfl) rfl rfl (by exact sat_cells hw (by (repeat first | with_reducible exact xH | apply xT); first | done | fail) ⟨rfl, rfl, rfl, rfl, rfl, rfl, rfl, trivial⟩) (v_loadAgg (vs := [_, _, _, _, _, _, _]) T.agg_23_7 rfl rfl) ?_
      refine rl_kg (met_on rfl rfl rfl rfl) (k_callf Try.func8 rfl rfl rfl rfl ?_)
      refine Calls.mono (rright_calls { q with ca := cv } (hw.xQ)) ?_
      rintro _ w ⟨rfl, hw⟩
      refine ⟨_, rfl, ?_⟩
      refine rl_vg (met_on rfl rfl rfl rfl) rfl rfl (S := fun _ => True) trivial (v_not rfl) ?_
      refine xV rfl rfl rfl (v_pick_false rfl rfl) ?_
      refine rl_nil (g_le (xK (xS rfl (xS rfl (xS rfl (xS rfl (xS rfl (xS rfl (xS rfl (xS rfl (Fr.le_refl _)))))))))) ?_)
      refine g_cond rfl (fun h1 => ?_) (fun h1 => ?_)
      · try with_reducible exact ft_elim h1
        all_goals
          try replace h1 := of_decide_eq_true h1
          exact absurd hq2 (by simpa using h1)
      · try with_reducible exact tf_elim h1
        all_goals
          try replace h1 := of_decide_eq_false h1
          refine g_skip (g_seq (g_seq ?_))
          refine g_region ?_
          refine xV rfl rfl rfl (v_move rfl) ?_
          refine xV rfl rfl rfl (v_eqlNil T.ptr_26 rfl rfl) ?_
          refine xV rfl rfl rfl (v_move rfl) ?_
          refine rl_split (s := 48) rfl (fun g7_2 => ?_) (fun g7_2 => ?_)
          · try with_reducible exact ft_elim g7_2
            all_goals
              try replace g7_2 := of_decide_eq_true g7_2
              simp at g7_2
          · try with_reducible exact tf_elim g7_2
            all_goals
              try replace g7_2 := of_decide_eq_false g7_2
              refine rl_vg (met_on rfl rfl rfl rfl) rfl rfl (S := fun _ => True) trivial (v_move rfl) ?_
              refine rl_vg (met_on rfl rfl rfl rfl) rfl rfl (S := fun _ => True) trivial (v_eqlNil T.ptr_26 rfl rfl) ?_
              refine xV rfl rfl rfl (v_pick_false rfl rfl) ?_
              refine rl_nil (g_le (xK (xS rfl (xS rfl (xS rfl (xS rfl (xS rfl (xS rfl (Fr.le_refl _)))))))) ?_)
              refine g_cond rfl (fun h2 => ?_) (fun h2 => ?_)
              · try with_reducible exact ft_elim h2
                all_goals
                  try replace h2 := of_decide_eq_true h2
                  simp at h2
              · try with_reducible exact tf_elim h2
                all_goals
                  try replace h2 := of_decide_eq_false h2
                  refine g_skip (g_seq ?_)
                  refine g_region ?_
                  refine xV rfl rfl rfl (v_assign rfl) ?_
                  refine rl_nil (g_le (xK (Fr.le_refl _)) ?_)
                  refine g_seq (g_seq ?_)
                  have I0 : PInv q 11 0 (newS q (12 : Int).toNat (xs.take (min n1 40))) := new_PInv hq (n := 12) (by omega) (by omega) hu64
                  have J0 : PInv { q with ca := cv } 11 0 (newS { q with ca := cv } (12 : Int).toNat (xs.take (min n1 40))) := new_PInv hq2 (n := 12) (by omega) (by omega) hu64
                  obtain ⟨S0, hS0⟩ : ∃ S0, S0 = newS q (12 : Int).toNat (xs.take (min n1 40)) := ⟨_, rfl⟩
                  obtain ⟨k0, hk0⟩ : ∃ k0 : Ch, k0 = ⟨roomC { q with ca := cv }, [], 0, 0⟩ := ⟨_, rfl⟩
                  have hsB : segB { q with ca := cv } = segB q := by rw [segB_eq hq, segB_eq hq2, (pageB_eq hq).1, (pageB_eq hq2).1]; rfl
                  have hT0 : newS { q with ca := cv } (12 : Int).toNat (xs.take (min n1 40)) = S0.got k0 := by rw [hS0, hk0]; unfold newS; rw [hsB]; rfl
                  rw [hT0] at J0 hw
                  have T0 : TwI q { q with ca := cv } 0 S0 k0 [] [] := ⟨by rw [hS0]; exact I0, J0, by rw [hS0]; rfl, by rw [hS0]; exact ⟨rfl, rfl⟩, .nil, .nil, fun x hx => by rw [hS0] at hx; exact absurd hx (by simp [newS]), fun x hx => by rw [hk0] at hx; exact absurd hx (by simp [PS.got]), by rw [hS0]; rfl, by rw [hk0], rfl⟩
                  rw [← hS0] at hw
                  have hrc := fun n => rightN_ca (q := q) (c := cv) hq hq2 n
                  obtain ⟨q2, hqq⟩ : ∃ q2 : Qt, q2 = { q with ca := cv } := ⟨_, rfl⟩
                  have hqc : q2.ca = cv := by rw [hqq]
                  rw [← hqq] at T0 hw hq2 hrc
                  refine g_region ?_
                  refine xV rfl rfl rfl (v_move rfl) ?_
                  refine xV rfl rfl rfl (v_lenSlice T.sl_25_48_3 rfl) ?_
                  refine xV rfl rfl rfl (v_move rfl) ?_
                  refine rl_nil (g_le (xK (xK (xK (Fr.le_refl _)))) ?_)
                  refine g_block ?_
                  refine g_loopC (σ := Nat × Nat × PS × Ch × List Rf × List Nd × Value × Hp) (fun C x => (54, .int .i64 (x.1 : Nat)) :: (14, x.2.2.2.2.2.2.1) :: C) [(1, _), (4, _), (5, _), (10, _), (12, _), (13, _), (52, _), (53, _)] (by repeat (first | exact Fr.le_nil _ | refine Fr.le_cons rfl ?_)) (fun z w => z.1 ≤ ns.length ∧ z.1 ≤ 20 ∧ z.2.1 ≤ z.1 ∧ TwI q q2 z.2.1 z.2.2.1 z.2.2.2.1 z.2.2.2.2.1 z.2.2.2.2.2.1 ∧ (hpOf W).le z.2.2.2.2.2.2.2 ∧ Sat (envOf W) w (PgA pp q z.2.2.1 :: PgA pr q2 (z.2.2.1.got z.2.2.2.1) :: OwnSl 51 4 z.2.2.2.2.2.2.1 z.2.2.2.2.1.length (z.2.2.2.2.1.flatMap Rf.cells) :: QtAt bk0_0 q :: RO z.2.2.2.2.2.2.2 :: [])) (fun z => ns.length - z.1) ?_ (0, 0, S0, k0, [], [], .slice none 0 0, hpOf W) (by repeat (first | exact Fr.le_nil _ | refine Fr.le_cons rfl ?_)) ⟨by simp, by simp, by simp, T0, Hp.le_refl _, by have h5 := hw.own_nil 51 4; exact (show Sat (envOf W) w (OwnSl 51 4 (.slice none 0 0) ([] : List Rf).length (([] : List Rf).flatMap Rf.cells) :: _) from h5).xQ⟩
                  rintro ⟨i, m, S, c, wl, kl, wv, g⟩ w ⟨hi1, hi2, hmi, I, hg, hw⟩ ih
                  dsimp only at hi1 hi2 hmi I hg hw ih ⊢
                  have hwm := I.len
                  have htk := I.tk
                  refine g_seq ?_
                  refine g_region ?_
                  refine xV rfl rfl rfl (v_lss rfl rfl) ?_
                  refine rl_nil (g_le (xK (Fr.le_refl _)) ?_)
                  refine g_seq ?_
                  refine g_cond rfl (fun h3 => ?_) (fun h3 => ?_)
                  · try with_reducible exact ft_elim h3
                    all_goals
                      try replace h3 := of_decide_eq_true h3
                      refine g_skip (g_seq (g_block (g_seq ?_)))
                      have hz := hw
                      clear hw
                      obtain ⟨_, _, _, _, gn⟩ := rdSl_get (mono_sl mono_Nd hg hn)
                      obtain ⟨b4, o1, x, ecs, rfl, hx, hat1, hl1, hrd⟩ := gn (i : Nat) (by omega) (by omega)
                      rw [Int.toNat_natCast] at hx hat1
                      obtain ⟨ea, en, ec, ka, kn, kc, rfl, hnd⟩ := nd_told hrd
                      have hw := hz
                      clear hz
                      refine g_region ?_
                      refine xV rfl rfl rfl (v_move rfl) ?_
                      refine xV rfl rfl rfl (v_indexAddr T.sl_25_48_3 rfl rfl (by omega) (by omega)) ?_
                      refine rl_v rfl rfl rfl (by exact ro_ats hw (by (repeat first | with_reducible exact xH | apply xT); first | done | fail) (by assumption)) (v_loadAgg (vs := [_, _, _]) T.agg_48_3 rfl rfl) ?_
                      refine rl_k rfl (k_alloc hw T.zero_48 rfl rfl (fun bk12_3 w hw => ?_))
                      refine xV rfl rfl rfl (v_assign rfl) ?_
                      refine rl_k rfl (k_storeWhole hw T.agg_48_3 rfl rfl (by simp [Value.oneCell']) rfl (by (repeat first | with_reducible exact xH | apply xT); first | done | fail) rfl (fun w hw => ?_))
                      refine rl_nil (g_le (xK (xK (xK (xK (xK (Fr.le_refl _)))))) ?_)
                      refine g_seq (g_seq ?_)
                      refine g_region ?_
                      refine xV rfl rfl rfl (v_move rfl) ?_
                      refine xV rfl rfl rfl (v_geq rfl rfl) ?_
                      refine rl_nil (g_le (xK (xK (Fr.le_refl _))) ?_)
                      refine g_cond rfl (fun h4 => ?_) (fun h4 => ?_)
                      · try with_reducible exact ft_elim h4
                        all_goals
                          try replace h4 := of_decide_eq_true h4
                          refine g_exit rfl (g_seq ?_)
                          have hkp := I.kept hq hq2
                          rw [hqc] at hkp
                          obtain ⟨p1, gc1, hp1, hw⟩ := pg_open (hw.xP (A := PgA pp q S))
                          obtain ⟨p2, gc2, hp2, hw⟩ := pg_open (hw.xP (A := PgA pr q2 (S.got c)))
                          dsimp only [PS.got] at hw
                          refine g_drawR ord_f5_r30_P16K (by kernel_rfl) T.mixed hw (fun w hw => ?_)
                          refine rs_a 0 rfl rfl rfl rfl (v_move rfl) ?_
                          refine rs_a 1 rfl rfl rfl rfl (v_nilCheck rfl) ?_
                          refine rs_a 2 rfl rfl rfl rfl (v_fieldAddr0 T.fld_35_2_2 rfl) ?_
                          refine rs_a 5 rfl rfl rfl rfl (v_move rfl) ?_
                          refine rs_a 6 rfl rfl rfl rfl (v_nilCheck rfl) ?_
                          refine rs_a 7 rfl rfl rfl rfl (v_fieldAddr0 T.fld_35_2_2 rfl) ?_
                          refine rs_v 3 rfl rfl rfl rfl (OpV.mono (v_load T.scal_33 rfl) (fun w hw => by exact sat_cell hw (by (repeat first | with_reducible exact xH | apply xT); first | done | fail) rfl)) (by exact hw) ?_
                          refine rs_v 8 rfl rfl rfl rfl (OpV.mono (v_load T.scal_33 rfl) (fun w hw => by exact sat_cell hw (by (repeat first | with_reducible exact xH | apply xT); first | done | fail) rfl)) (by exact hw) ?_
                          refine rs_k 4 rfl rfl (k_callf Try.func14 rfl rfl rfl rfl ?_)
                          refine Calls.mono (taken_calls p1.d p1.dv (S.tk : Nat) (hw.xP)) ?_
                          rintro _ w ⟨rfl, hw⟩
                          refine ⟨_, rfl, ?_⟩
                          refine ⟨fun _ => (by exact Sat.sub hw (by (repeat (first | with_reducible exact Sub.refl _ | exact Sub.nil _ | (apply Sub.cons; focus ((repeat (first | with_reducible exact Pick.here _ | apply Pick.there)); (first | done | fail))) | with_reducible apply Sub.drop)); first | done | fail)), ?_⟩
                          refine rs_k 9 rfl rfl (k_callf Try.func14 rfl rfl rfl rfl ?_)
                          refine Calls.mono (taken_calls p2.d p2.dv (S.tk : Nat) (hw.xP)) ?_
                          rintro _ w ⟨rfl, hw⟩
                          refine ⟨_, rfl, ?_⟩
                          refine ⟨fun _ => (by exact Sat.sub hw (by (repeat (first | with_reducible exact Sub.refl _ | exact Sub.nil _ | (apply Sub.cons; focus ((repeat (first | with_reducible exact Pick.here _ | apply Pick.there)); (first | done | fail))) | with_reducible apply Sub.drop)); first | done | fail)), ?_⟩
                          refine rs_kv 10 rfl rfl rfl rfl (S' := fun _ => True) trivial (v_eqlT rfl rfl (by omega)) ?_
                          refine rs_kv 11 rfl rfl rfl rfl (S' := fun _ => True) trivial (v_move rfl) ?_
                          refine rs_split (s := 144) rfl (fun g30_11 => ?_) (fun g30_11 => ?_)
                          · try with_reducible exact ft_elim g30_11
                            all_goals
                              try replace g30_11 := of_decide_eq_true g30_11
                              refine rs_ag 12 rfl (met_on rfl rfl rfl rfl) rfl rfl (v_move rfl) ?_
                              refine rs_ag 13 rfl (met_on rfl rfl rfl rfl) rfl rfl (v_nilCheck rfl) ?_
                              refine rs_ag 14 rfl (met_on rfl rfl rfl rfl) rfl rfl (v_fieldAddr0 T.fld_35_1_1 rfl) ?_
                              refine rs_ag 17 rfl (met_on rfl rfl rfl rfl) rfl rfl (v_fieldAddr0 T.fld_23_6_6 rfl) ?_
                              refine rs_vg 15 rfl (met_on rfl rfl rfl rfl) rfl rfl (OpV.mono (v_load T.scal_32 rfl) (fun w hw => by exact sat_cell hw (by (repeat first | with_reducible exact xH | apply xT); first | done | fail) rfl)) (by exact Sat.sub hw (by (repeat (first | with_reducible exact Sub.refl _ | exact Sub.nil _ | (apply Sub.cons; focus ((repeat (first | with_reducible exact Pick.here _ | apply Pick.there)); (first | done | fail))) | with_reducible apply Sub.drop)); first | done | fail)) ?_
                              refine rs_vg 18 rfl (met_on rfl rfl rfl rfl) rfl rfl (OpV.mono (v_load T.scal_3 rfl) (fun w hw => by exact sat_cell hw (by (repeat first | with_reducible exact xH | apply xT); first | done | fail) rfl)) (by exact Sat.sub hw (by (repeat (first | with_reducible exact Sub.refl _ | exact Sub.nil _ | (apply Sub.cons; focus ((repeat (first | with_reducible exact Pick.here _ | apply Pick.there)); (first | done | fail))) | with_reducible apply Sub.drop)); first | done | fail)) ?_
                              refine rs_kg 16 rfl (met_on rfl rfl rfl rfl) (k_callf Try.func18 rfl rfl rfl rfl ?_)
                              refine Calls.mono (ckept_calls (c := p1.c) (s := S.ch) (lv := p1.lv) (cells := p1.cells) (hw.xQ)) ?_
                              rintro _ w ⟨rfl, hw⟩
                              refine ⟨_, rfl, ?_⟩
                              refine ⟨fun _ => (by exact Sat.sub hw (by (repeat (first | with_reducible exact Sub.refl _ | exact Sub.nil _ | (apply Sub.cons; focus ((repeat (first | with_reducible exact Pick.here _ | apply Pick.there)); (first | done | fail))) | with_reducible apply Sub.drop)); first | done | fail)), ?_⟩
                              refine rs_kvg 19 rfl (met_on rfl rfl rfl rfl) rfl rfl (S' := fun _ => True) trivial (v_leqT rfl rfl (by omega)) ?_
                              refine rs_kv 20 rfl rfl rfl rfl (S' := fun _ => True) trivial (v_pick_true rfl rfl) ?_
                              refine rs_kv 21 rfl rfl rfl rfl (S' := fun _ => True) trivial (v_move rfl) ?_
                              refine rs_split (s := 154) rfl (fun g30_21 => ?_) (fun g30_21 => ?_)
                              · try with_reducible exact ft_elim g30_21
                                all_goals
                                  try replace g30_21 := of_decide_eq_true g30_21
                                  refine rs_ag 22 rfl (met_on rfl rfl rfl rfl) rfl rfl (v_move rfl) ?_
                                  refine rs_ag 23 rfl (met_on rfl rfl rfl rfl) rfl rfl (v_nilCheck rfl) ?_
                                  refine rs_ag 24 rfl (met_on rfl rfl rfl rfl) rfl rfl (v_fieldAddr0 T.fld_35_1_1 rfl) ?_
                                  refine rs_ag 27 rfl (met_on rfl rfl rfl rfl) rfl rfl (v_move rfl) ?_
                                  refine rs_kvg 25 rfl (met_on rfl rfl rfl rfl) rfl rfl (by exact sat_cell hw (by (repeat first | with_reducible exact xH | apply xT); first | done | fail) rfl) (v_load T.scal_32 rfl) ?_
                                  refine rs_kg 26 rfl (met_on rfl rfl rfl rfl) (k_callf Try.func18 rfl rfl rfl rfl ?_)
                                  refine Calls.mono (ckept_calls (c := p2.c) (s := c) (lv := p2.lv) (cells := p2.cells) (hw.xQ)) ?_
                                  rintro _ w ⟨rfl, hw⟩
                                  refine ⟨_, rfl, ?_⟩
                                  refine ⟨fun _ => (by exact Sat.sub hw (by (repeat (first | with_reducible exact Sub.refl _ | exact Sub.nil _ | (apply Sub.cons; focus ((repeat (first | with_reducible exact Pick.here _ | apply Pick.there)); (first | done | fail))) | with_reducible apply Sub.drop)); first | done | fail)), ?_⟩
                                  refine rs_kvg 28 rfl (met_on rfl rfl rfl rfl) rfl rfl (S' := fun _ => True) trivial (v_leqT rfl rfl (by omega)) ?_
                                  refine rs_kv 29 rfl rfl rfl rfl (S' := fun _ => True) trivial (v_pick_true rfl rfl) ?_
                                  refine rs_kv 30 rfl rfl rfl rfl (S' := fun _ => True) trivial (v_assign rfl) ?_
                                  refine rs_done (g_le (xK (xS rfl (xS rfl (xS rfl (xS rfl (xS rfl (xS rfl (xS rfl (xS rfl (xS rfl (xS rfl (xS rfl (xS rfl (xS rfl (xS rfl (xS rfl (xS rfl (xS rfl (xS rfl (xS rfl (xS rfl (xS rfl (xS rfl (xS rfl (xS rfl (xS rfl (xS rfl (xS rfl (xS rfl (xS rfl (xS rfl (xS rfl (xS rfl (Fr.le_refl _)))))))))))))))))))))))))))))))))) ?_)
                                  refine g_ret1 Try.func5 rfl rfl ?_
                                  refine ⟨?_, (hw.xQ : Sat (envOf W) w [RO g]).shrink hg⟩
                                  first | rfl | simp [hkp]
                              · try with_reducible exact tf_elim g30_21
                                all_goals
                                  try replace g30_21 := of_decide_eq_false g30_21
                                  refine rs_aoff 22 rfl (met_off rfl rfl rfl rfl rfl) rfl rfl ?_
                                  refine rs_aoff 23 rfl (met_off rfl rfl rfl rfl rfl) rfl rfl ?_
                                  refine rs_aoff 24 rfl (met_off rfl rfl rfl rfl rfl) rfl rfl ?_
                                  refine rs_aoff 27 rfl (met_off rfl rfl rfl rfl rfl) rfl rfl ?_
                                  refine rs_koff 25 rfl (met_off rfl rfl rfl rfl rfl) rfl rfl ?_
                                  refine rs_koff 26 rfl (met_off rfl rfl rfl rfl rfl) rfl rfl ?_
                                  refine rs_koff 28 rfl (met_off rfl rfl rfl rfl rfl) rfl rfl ?_
                                  first | (refine rs_kv 29 rfl rfl rfl rfl (S' := fun _ => True) trivial (v_pick_true rfl rfl) ?_) | (refine rs_kv 29 rfl rfl rfl rfl (S' := fun _ => True) trivial (v_pick_false rfl rfl) ?_) | (refine rs_kv 29 rfl rfl rfl rfl (S' := fun _ => True) trivial (v_pick rfl rfl rfl) ?_)
                                  refine rs_kv 30 rfl rfl rfl rfl (S' := fun _ => True) trivial (v_assign rfl) ?_
                                  refine rs_done (g_le (xK (xS rfl (xS rfl (xS rfl (xS rfl (xS rfl (xS rfl (xS rfl (xS rfl (xS rfl (xS rfl (xS rfl (xS rfl (xS rfl (xS rfl (xS rfl (xS rfl (xS rfl (xS rfl (xS rfl (xS rfl (xS rfl (xS rfl (xS rfl (xS rfl (xS rfl (xS rfl (xS rfl (xS rfl (xS rfl (xS rfl (xS rfl (xS rfl (Fr.le_refl _)))))))))))))))))))))))))))))))))) ?_)
                                  refine g_ret1 Try.func5 rfl rfl ?_
                                  refine ⟨?_, (hw.xQ : Sat (envOf W) w [RO g]).shrink hg⟩
                                  first | rfl | simp [hkp]
                          · try with_reducible exact tf_elim g30_11
                            all_goals
                              try replace g30_11 := of_decide_eq_false g30_11
                              refine rs_aoff 12 rfl (met_off rfl rfl rfl rfl rfl) rfl rfl ?_
                              refine rs_aoff 13 rfl (met_off rfl rfl rfl rfl rfl) rfl rfl ?_
                              refine rs_aoff 14 rfl (met_off rfl rfl rfl rfl rfl) rfl rfl ?_
                              refine rs_aoff 17 rfl (met_off rfl rfl rfl rfl rfl) rfl rfl ?_
                              refine rs_voff 15 rfl (met_off rfl rfl rfl rfl rfl) rfl rfl (by first | exact hw | exact Sat.sub hw (by (repeat (first | with_reducible exact Sub.refl _ | exact Sub.nil _ | (apply Sub.cons; focus ((repeat (first | with_reducible exact Pick.here _ | apply Pick.there)); (first | done | fail))) | with_reducible apply Sub.drop)); first | done | fail)) ?_
                              refine rs_voff 18 rfl (met_off rfl rfl rfl rfl rfl) rfl rfl (by first | exact hw | exact Sat.sub hw (by (repeat (first | with_reducible exact Sub.refl _ | exact Sub.nil _ | (apply Sub.cons; focus ((repeat (first | with_reducible exact Pick.here _ | apply Pick.there)); (first | done | fail))) | with_reducible apply Sub.drop)); first | done | fail)) ?_
                              refine rs_koff 16 rfl (met_off rfl rfl rfl rfl rfl) rfl rfl ?_
                              refine rs_koff 19 rfl (met_off rfl rfl rfl rfl rfl) rfl rfl ?_
                              first | (refine rs_kv 20 rfl rfl rfl rfl (S' := fun _ => True) trivial (v_pick_true rfl rfl) ?_) | (refine rs_kv 20 rfl rfl rfl rfl (S' := fun _ => True) trivial (v_pick_false rfl rfl) ?_) | (refine rs_kv 20 rfl rfl rfl rfl (S' := fun _ => True) trivial (v_pick rfl rfl rfl) ?_)
                              refine rs_kv 21 rfl rfl rfl rfl (S' := fun _ => True) trivial (v_move rfl) ?_
                              refine rs_aoff 22 rfl (met_off rfl rfl rfl rfl rfl) rfl rfl ?_
                              refine rs_aoff 23 rfl (met_off rfl rfl rfl rfl rfl) rfl rfl ?_
                              refine rs_aoff 24 rfl (met_off rfl rfl rfl rfl rfl) rfl rfl ?_
                              refine rs_aoff 27 rfl (met_off rfl rfl rfl rfl rfl) rfl rfl ?_
                              refine rs_koff 25 rfl (met_off rfl rfl rfl rfl rfl) rfl rfl ?_
                              refine rs_koff 26 rfl (met_off rfl rfl rfl rfl rfl) rfl rfl ?_
                              refine rs_koff 28 rfl (met_off rfl rfl rfl rfl rfl) rfl rfl ?_
                              first | (refine rs_kv 29 rfl rfl rfl rfl (S' := fun _ => True) trivial (v_pick_true rfl rfl) ?_) | (refine rs_kv 29 rfl rfl rfl rfl (S' := fun _ => True) trivial (v_pick_false rfl rfl) ?_) | (refine rs_kv 29 rfl rfl rfl rfl (S' := fun _ => True) trivial (v_pick rfl rfl rfl) ?_)
                              refine rs_kv 30 rfl rfl rfl rfl (S' := fun _ => True) trivial (v_assign rfl) ?_
                              refine rs_done (g_le (xK (xS rfl (xS rfl (xS rfl (xS rfl (xS rfl (xS rfl (xS rfl (xS rfl (xS rfl (xS rfl (xS rfl (xS rfl (xS rfl (xS rfl (xS rfl (xS rfl (xS rfl (xS rfl (xS rfl (xS rfl (xS rfl (xS rfl (xS rfl (xS rfl (xS rfl (xS rfl (xS rfl (xS rfl (xS rfl (xS rfl (xS rfl (Fr.le_refl _))))))))))))))))))))))))))))))))) ?_)
                              refine g_ret1 Try.func5 rfl rfl ?_
                              refine ⟨?_, (hw.xQ : Sat (envOf W) w [RO g]).shrink hg⟩
                              first | rfl | simp [hkp]
                      · try with_reducible exact tf_elim h4
                        all_goals
                          try replace h4 := of_decide_eq_false h4
                          refine g_skip (g_seq ?_)
                          refine g_region ?_
                          refine xV rfl rfl rfl (v_move rfl) ?_
                          refine rl_v rfl rfl rfl (by exact sat_cells hw (by (repeat first | with_reducible exact xH | apply xT); first | done | fail) ⟨rfl, rfl, rfl, trivial⟩) (v_loadAgg (vs := [_, _, _]) T.agg_48_3 rfl rfl) ?_
                          refine rl_k rfl (k_callf Try.func10 rfl rfl rfl rfl ?_)
                          refine Calls.mono (pwrite_calls (q := q) (I.i1.ok (by omega) (by omega)) hnd (hw.xQ)) ?_
                          generalize hwr1 : S.wr q x = r9
                          obtain ⟨rr, ee, S2⟩ := r9
                          dsimp only
                          rintro _ w ⟨rfl, hw⟩
                          refine ⟨_, rfl, ?_⟩
                          refine xV rfl rfl rfl (v_move rfl) ?_
                          refine xV rfl rfl rfl (v_extract rfl rfl) ?_
                          refine xV rfl rfl rfl (v_extract rfl rfl) ?_
                          refine rl_k rfl (k_alloc hw T.zero_51 rfl rfl (fun bk14_6 w hw => ?_))
                          refine rl_k rfl (k_storeWhole hw T.agg_51_4 rfl rfl (by simp [Value.oneCell']) rfl (by (repeat first | with_reducible exact xH | apply xT); first | done | fail) rfl (fun w hw => ?_))
                          refine xV rfl rfl rfl (v_assign rfl) ?_
                          refine rl_nil (g_le (xK (xK (xK (xK (xK (xK (xK (xK (Fr.le_refl _))))))))) ?_)
                          refine g_seq ?_
                          refine g_region ?_
                          refine xV rfl rfl rfl (v_move rfl) ?_
                          refine rl_v rfl rfl rfl (by exact sat_cells hw (by (repeat first | with_reducible exact xH | apply xT); first | done | fail) ⟨rfl, rfl, rfl, trivial⟩) (v_loadAgg (vs := [_, _, _]) T.agg_48_3 rfl rfl) ?_
                          refine rl_k rfl (k_callf Try.func10 rfl rfl rfl rfl ?_)
                          refine Calls.mono (pwrite_calls (q := q2) (S := S.got c) (I.i2.ok (by omega) (by show S.tk ≤ _; omega)) hnd (hw.xQ)) ?_
                          generalize hwr2 : (S.got c).wr q2 x = r9
                          obtain ⟨rr2, ee2, T2⟩ := r9
                          dsimp only
                          rintro _ w ⟨rfl, hw⟩
                          refine ⟨_, rfl, ?_⟩
                          refine xV rfl rfl rfl (v_move rfl) ?_
                          refine xV rfl rfl rfl (v_extract rfl rfl) ?_
                          refine xV rfl rfl rfl (v_extract rfl rfl) ?_
                          refine rl_k rfl (k_alloc hw T.zero_51 rfl rfl (fun bk15_6 w hw => ?_))
                          refine rl_k rfl (k_storeWhole hw T.agg_51_4 rfl rfl (by simp [Value.oneCell']) rfl (by (repeat first | with_reducible exact xH | apply xT); first | done | fail) rfl (fun w hw => ?_))
                          refine xV rfl rfl rfl (v_assign rfl) ?_
                          refine rl_nil (g_le (xK (xK (xK (xK (xK (xK (xK (xK (Fr.le_refl _))))))))) ?_)
                          refine g_seq (g_seq ?_)
                          have hst := I.step hq hq2 (hrc x) (by omega) (keys_rd hnd) hwr1 hwr2
                          have hz := hw
                          clear hw
                          obtain ⟨rfl, rfl, c5, rfl, hst⟩ := hst
                          have hw := hz
                          clear hz
                          refine g_region ?_
                          refine xV rfl rfl rfl (v_move rfl) ?_
                          refine xV rfl rfl rfl (v_move rfl) ?_
                          refine xV rfl rfl rfl (v_neqF rfl rfl (by omega)) ?_
                          refine xV rfl rfl rfl (v_move rfl) ?_
                          refine rl_split (s := 76) rfl (fun g16_3 => ?_) (fun g16_3 => ?_)
                          · try with_reducible exact ft_elim g16_3
                            all_goals
                              try replace g16_3 := of_decide_eq_true g16_3
                              simp at g16_3
                          · try with_reducible exact tf_elim g16_3
                            all_goals
                              try replace g16_3 := of_decide_eq_false g16_3
                              refine rl_vg (met_on rfl rfl rfl rfl) rfl rfl (by exact sat_cells hw (by (repeat first | with_reducible exact xH | apply xT); first | done | fail) ⟨rfl, rfl, rfl, rfl, trivial⟩) (v_loadAgg (vs := [_, _, _, _]) T.agg_51_4 rfl rfl) ?_
                              refine rl_vg (met_on rfl rfl rfl rfl) rfl rfl (by exact sat_cells hw (by (repeat first | with_reducible exact xH | apply xT); first | done | fail) ⟨rfl, rfl, rfl, rfl, trivial⟩) (v_loadAgg (vs := [_, _, _, _]) T.agg_51_4 rfl rfl) ?_
                              refine rl_vg (met_on rfl rfl rfl rfl) rfl rfl (S := fun _ => True) trivial (v_neqAgg T.cmp_51_iiii rfl rfl rfl rfl (by exact eq_Rf _ _)) ?_
                              refine xV rfl rfl rfl (v_pick_false rfl rfl) ?_
                              refine rl_nil (g_le (xK (xK (xK (xK (xK (xK (xK (xK (xK (Fr.le_refl _)))))))))) ?_)
                              refine g_cond rfl (fun h5 => ?_) (fun h5 => ?_)
                              · try with_reducible exact ft_elim h5
                                all_goals
                                  try replace h5 := of_decide_eq_true h5
                                  simp at h5
                              · try with_reducible exact tf_elim h5
                                all_goals
                                  try replace h5 := of_decide_eq_false h5
                                  refine g_skip (g_seq (g_seq ?_))
                                  refine g_region ?_
                                  refine xV rfl rfl rfl (v_move rfl) ?_
                                  refine xV rfl rfl rfl (v_eql rfl rfl) ?_
                                  refine rl_nil (g_le (xK (xK (Fr.le_refl _))) ?_)
                                  refine g_cutc (σ := Nat × Ch × List Rf × List Nd × Value) (fun C x => (14, x.2.2.2.2) :: C) [(1, _), (4, _), (5, _), (10, _), (12, _), (13, _), (15, _), (16, _), (17, _), (18, _), (19, _), (20, _), (52, _), (53, _), (54, _), (55, _), (56, _), (57, _), (58, _), (59, _), (60, _), (61, _), (62, _), (63, _), (64, _), (65, _), (66, _), (67, _), (68, _), (69, _), (70, _), (71, _), (72, _), (73, _), (74, _), (75, _), (76, _), (77, _), (78, _), (79, _), (80, _), (81, _), (82, _)] (by repeat (first | exact Fr.le_nil _ | refine Fr.le_cons rfl ?_)) (fun z w => z.1 ≤ i + 1 ∧ TwI q q2 z.1 S2 z.2.1 z.2.2.1 z.2.2.2.1 ∧ Sat (envOf W) w (PgA pp q S2 :: PgA pr q2 (S2.got z.2.1) :: OwnSl 51 4 z.2.2.2.2 z.2.2.1.length (z.2.2.1.flatMap Rf.cells) :: QtAt bk0_0 q :: RO g :: [])) ?_ ?_
                                  · skip
                                    clear hst hwr1 hwr2 hw htk hwm I
                                    rintro ⟨m2, c6, wl2, kl2, wv2⟩ w ⟨hm2, I, hw⟩
                                    dsimp only at hm2 I hw ⊢
                                    all_goals
                                      refine g_seq ?_
                                      have hz := hw
                                      clear hw
                                      obtain ⟨wa, wc, rfl, hwc, _, hwa⟩ := (hz.xP (A := OwnSl 51 4 wv2 wl2.length (wl2.flatMap Rf.cells))).own_shape
                                      have hw := hz
                                      clear hz
                                      refine g_region ?_
                                      refine xV rfl rfl rfl (v_move rfl) ?_
                                      refine xV rfl rfl rfl (v_lenSlice T.sl_65_3_1 rfl) ?_
                                      refine xV rfl rfl rfl (v_move rfl) ?_
                                      refine rl_nil (g_le (xK (xK (xK (Fr.le_refl _)))) ?_)
                                      refine g_block ?_
                                      refine g_loopC (σ := Nat × Ch × Ch × Hp) (fun C x => (89, .int .i64 (x.1 : Nat)) :: C) [(1, _), (4, _), (5, _), (10, _), (12, _), (13, _), (14, _), (15, _), (16, _), (17, _), (18, _), (19, _), (20, _), (52, _), (53, _), (54, _), (55, _), (56, _), (57, _), (58, _), (59, _), (60, _), (61, _), (62, _), (63, _), (64, _), (65, _), (66, _), (67, _), (68, _), (69, _), (70, _), (71, _), (72, _), (73, _), (74, _), (75, _), (76, _), (77, _), (78, _), (79, _), (80, _), (81, _), (82, _), (87, _), (88, _)] (by repeat (first | exact Fr.le_nil _ | refine Fr.le_cons rfl ?_)) (fun z w => z.1 ≤ as_.length ∧ TwI q q2 m2 (S2.got z.2.1) z.2.2.1 wl2 kl2 ∧ (hpOf W).le z.2.2.2 ∧ Sat (envOf W) w (PgA pp q (S2.got z.2.1) :: PgA pr q2 (S2.got z.2.2.1) :: OwnSl 51 4 (.slice wa wl2.length wc) wl2.length (wl2.flatMap Rf.cells) :: QtAt bk0_0 q :: RO z.2.2.2 :: [])) (fun z => as_.length - z.1) ?_ (0, S2.ch, c6, g) (by repeat (first | exact Fr.le_nil _ | refine Fr.le_cons rfl ?_)) ⟨by simp, I, hg, (hw.xQ : Sat (envOf W) w (PgA pp q S2 :: PgA pr q2 (S2.got c6) :: OwnSl 51 4 (.slice wa wl2.length wc) wl2.length (wl2.flatMap Rf.cells) :: QtAt bk0_0 q :: RO g :: []))⟩
                                      rintro ⟨j, d1, d2, g3⟩ w ⟨hj, I3, hg3, hw⟩ ih2
                                      dsimp only at hj I3 hg3 hw ih2 ⊢
                                      refine g_seq ?_
                                      refine g_region ?_
                                      refine xV rfl rfl rfl (v_lss rfl rfl) ?_
                                      refine rl_nil (g_le (xK (Fr.le_refl _)) ?_)
                                      refine g_seq ?_
                                      refine g_cond rfl (fun h7 => ?_) (fun h7 => ?_)
                                      · try with_reducible exact ft_elim h7
                                        all_goals
                                          try replace h7 := of_decide_eq_true h7
                                          refine g_skip (g_seq (g_block (g_seq ?_)))
                                          have hz := hw
                                          clear hw
                                          obtain ⟨_, _, _, _, ga⟩ := rdSl_get (mono_sl mono_int hg3 ha)
                                          obtain ⟨b5, o2, av, acs, rfl, hax, hat2, hl2, hard⟩ := ga (j : Nat) (by omega) (by omega)
                                          obtain ⟨rfl, hav⟩ := hard
                                          have hw := hz
                                          clear hz
                                          refine g_region ?_
                                          refine xV rfl rfl rfl (v_indexAddr T.sl_65_3_1 rfl rfl (by omega) (by omega)) ?_
                                          refine rl_v rfl rfl rfl (by exact ro_at0 hw (by (repeat first | with_reducible exact xH | apply xT); first | done | fail) (by assumption) rfl) (v_load T.scal_3 rfl) ?_
                                          refine xV rfl rfl rfl (v_assign rfl) ?_
                                          refine rl_nil (g_le (xK (xK (xK (Fr.le_refl _)))) ?_)
                                          refine g_seq (g_seq ?_)
                                          refine g_region ?_
                                          refine xV rfl rfl rfl (v_move rfl) ?_
                                          refine xV rfl rfl rfl (v_lss rfl rfl) ?_
                                          refine xV rfl rfl rfl (v_move rfl) ?_
                                          refine rl_split (s := 95) rfl (fun g23_2 => ?_) (fun g23_2 => ?_)
                                          · try with_reducible exact ft_elim g23_2
                                            all_goals
                                              try replace g23_2 := of_decide_eq_true g23_2
                                              refine rl_off (met_off rfl rfl rfl rfl rfl) rfl rfl ?_
                                              refine rl_off (met_off rfl rfl rfl rfl rfl) rfl rfl ?_
                                              refine rl_off (met_off rfl rfl rfl rfl rfl) rfl rfl ?_
                                              refine rl_off (met_off rfl rfl rfl rfl rfl) rfl rfl ?_
                                              refine xV rfl rfl rfl (v_pick_true rfl rfl) ?_
                                              refine rl_nil (g_le (xK (xK (xK (xK (xK (xK (xK (xK (xK (Fr.le_refl _)))))))))) ?_)
                                              refine g_cond_true rfl ?_
                                              refine g_exit rfl ?_
                                              refine g_region ?_
                                              refine xV rfl rfl rfl (v_add rfl rfl (by omega)) ?_
                                              refine xV rfl rfl rfl (v_move rfl) ?_
                                              refine rl_nil (g_le (xK (xK (Fr.le_refl _))) ?_)
                                              exact g_le (by repeat (first | exact Fr.le_nil _ | refine Fr.le_cons rfl ?_)) (ih2 (j + 1, d1, d2, g3) w ⟨by simp only; omega, I3, hg3, hw.xQ⟩ (by simp only; omega))
                                          · try with_reducible exact tf_elim g23_2
                                            all_goals
                                              try replace g23_2 := of_decide_eq_false g23_2
                                              refine rl_vg (met_on rfl rfl rfl rfl) rfl rfl (S := fun _ => True) trivial (v_move rfl) ?_
                                              refine rl_vg (met_on rfl rfl rfl rfl) rfl rfl (S := fun _ => True) trivial (v_move rfl) ?_
                                              refine rl_vg (met_on rfl rfl rfl rfl) rfl rfl (S := fun _ => True) trivial (v_lenSlice T.sl_59_51_4 rfl) ?_
                                              refine rl_vg (met_on rfl rfl rfl rfl) rfl rfl (S := fun _ => True) trivial (v_geq rfl rfl) ?_
                                              refine xV rfl rfl rfl (v_pick_false rfl rfl) ?_
                                              refine rl_nil (g_le (xK (xK (xK (xK (xK (xK (xK (xK (xK (Fr.le_refl _)))))))))) ?_)
                                              refine g_cond rfl (fun h8 => ?_) (fun h8 => ?_)
                                              · try with_reducible exact ft_elim h8
                                                all_goals
                                                  try replace h8 := of_decide_eq_true h8
                                                  refine g_exit rfl ?_
                                                  refine g_region ?_
                                                  refine xV rfl rfl rfl (v_add rfl rfl (by omega)) ?_
                                                  refine xV rfl rfl rfl (v_move rfl) ?_
                                                  refine rl_nil (g_le (xK (xK (Fr.le_refl _))) ?_)
                                                  exact g_le (by repeat (first | exact Fr.le_nil _ | refine Fr.le_cons rfl ?_)) (ih2 (j + 1, d1, d2, g3) w ⟨by simp only; omega, I3, hg3, hw.xQ⟩ (by simp only; omega))
                                              · try with_reducible exact tf_elim h8
                                                all_goals
                                                  try replace h8 := of_decide_eq_false h8
                                                  refine g_skip (g_seq ?_)
                                                  have hz := hw
                                                  clear hw
                                                  obtain ⟨k, rfl⟩ : ∃ k : Nat, av = k := ⟨av.toNat, by omega⟩
                                                  obtain ⟨r, hr⟩ : ∃ r, wl2[k]? = some r := ⟨_, List.getElem?_eq_getElem (by omega)⟩
                                                  have hsub := subAt_flat (f := Rf.cells) (sz := 4) (fun _ => rfl) hr
                                                  obtain ⟨wb, rfl⟩ := hwa (by omega)
                                                  obtain ⟨nk, e1, e2, hrok, hrd1, hrd2, I4⟩ := I3.read hr
                                                  have htk3 := I3.tk
                                                  have hw := hz
                                                  clear hz
                                                  refine g_region ?_
                                                  refine xV rfl rfl rfl (v_move rfl) ?_
                                                  refine xV rfl rfl rfl (v_move rfl) ?_
                                                  refine xV rfl rfl rfl (v_move rfl) ?_
                                                  refine xV rfl rfl rfl (v_indexAddr T.sl_59_51_4 rfl rfl (by omega) (by omega)) ?_
                                                  refine rl_v rfl rfl rfl (by exact own_cells hw (by (repeat first | with_reducible exact xH | apply xT); first | done | fail) (by assumption)) (v_loadAgg (vs := [_, _, _, _]) T.agg_51_4 rfl rfl) ?_
                                                  refine rl_k rfl (k_callf Try.func16 rfl rfl rfl rfl ?_)
                                                  refine Calls.mono (pread_calls (q := q) (I3.i1.ok (by omega) (by omega)) r hrok (hw.xQ)) ?_
                                                  rw [show (S2.got d1).rd q r = (nk, 0, S2.got e1) from hrd1]
                                                  dsimp only
                                                  rintro _ w ⟨ea1, ec1, ka1, kc1, vs1, rfl, hfi1, hw⟩
                                                  refine ⟨_, rfl, ?_⟩
                                                  refine xV rfl rfl rfl (v_move rfl) ?_
                                                  refine xV rfl rfl rfl (v_extract rfl rfl) ?_
                                                  refine xV rfl rfl rfl (v_extract rfl rfl) ?_
                                                  refine rl_k rfl (k_alloc hw T.zero_48 rfl rfl (fun bk24_9 w hw => ?_))
                                                  refine rl_k rfl (k_storeWhole hw T.agg_48_3 rfl rfl (by simp [Value.oneCell']) rfl (by (repeat first | with_reducible exact xH | apply xT); first | done | fail) rfl (fun w hw => ?_))
                                                  refine xV rfl rfl rfl (v_assign rfl) ?_
                                                  refine rl_nil (g_le (xK (xK (xK (xK (xK (xK (xK (xK (xK (xK (xK (Fr.le_refl _)))))))))))) ?_)
                                                  refine g_seq ?_
                                                  refine g_region ?_
                                                  refine xV rfl rfl rfl (v_move rfl) ?_
                                                  refine xV rfl rfl rfl (v_move rfl) ?_
                                                  refine xV rfl rfl rfl (v_move rfl) ?_
                                                  refine xV rfl rfl rfl (v_indexAddr T.sl_59_51_4 rfl rfl (by omega) (by omega)) ?_
                                                  refine rl_v rfl rfl rfl (by exact own_cells hw (by (repeat first | with_reducible exact xH | apply xT); first | done | fail) (by assumption)) (v_loadAgg (vs := [_, _, _, _]) T.agg_51_4 rfl rfl) ?_
                                                  refine rl_k rfl (k_callf Try.func16 rfl rfl rfl rfl ?_)
                                                  refine Calls.mono (pread_calls (q := q2) (S := S2.got d2) (I3.i2.ok (by omega) (by show (S2.got d1).tk ≤ _; omega)) r hrok (hw.xQ)) ?_
                                                  rw [show (S2.got d2).rd q2 r = (nk, 0, S2.got e2) from hrd2]
                                                  dsimp only
                                                  rintro _ w ⟨ea2, ec2, ka2, kc2, vs2, rfl, hfi2, hw⟩
                                                  refine ⟨_, rfl, ?_⟩
                                                  refine xV rfl rfl rfl (v_move rfl) ?_
                                                  refine xV rfl rfl rfl (v_extract rfl rfl) ?_
                                                  refine xV rfl rfl rfl (v_extract rfl rfl) ?_
                                                  refine rl_k rfl (k_alloc hw T.zero_48 rfl rfl (fun bk25_9 w hw => ?_))
                                                  refine rl_k rfl (k_storeWhole hw T.agg_48_3 rfl rfl (by simp [Value.oneCell']) rfl (by (repeat first | with_reducible exact xH | apply xT); first | done | fail) rfl (fun w hw => ?_))
                                                  refine xV rfl rfl rfl (v_assign rfl) ?_
                                                  refine rl_nil (g_le (xK (xK (xK (xK (xK (xK (xK (xK (xK (xK (xK (Fr.le_refl _)))))))))))) ?_)
                                                  refine g_seq ?_
                                                  obtain ⟨g4, hg4, hnd4, hw⟩ := nd_freeze (g := g3) (ev := .slice ea1 nk.entries.length ec1) (kv := .slice ka1 nk.kids.length kc1) (vs := vs1) hfi1 (hw.xQ : Sat (envOf W) w (RO g3 :: OwnSl 126 2 (.slice ea1 nk.entries.length ec1) (nk).entries.length (enCells (nk).entries vs1) :: eachOf VnsOf vs1 (nk).entries :: KdsAt (.slice ka1 nk.kids.length kc1) (nk).kids :: OwnSl 126 2 (.slice ea2 nk.entries.length ec2) (nk).entries.length (enCells (nk).entries vs2) :: eachOf VnsOf vs2 (nk).entries :: KdsAt (.slice ka2 nk.kids.length kc2) (nk).kids :: pt bk24_9 (.cells [Value.bool nk.leaf, .slice ea1 nk.entries.length ec1, .slice ka1 nk.kids.length kc1].toArray 48 (0, 0)) :: pt bk25_9 (.cells [Value.bool nk.leaf, .slice ea2 nk.entries.length ec2, .slice ka2 nk.kids.length kc2].toArray 48 (0, 0)) :: PgA pp q (S2.got e1) :: PgA pr q2 (S2.got e2) :: OwnSl 51 4 (.slice (some ⟨wb, 0, none⟩) wl2.length wc) wl2.length (wl2.flatMap Rf.cells) :: QtAt bk0_0 q :: []))
                                                  obtain ⟨g5, hg5, hnd5, hw⟩ := nd_freeze (g := g4) (ev := .slice ea2 nk.entries.length ec2) (kv := .slice ka2 nk.kids.length kc2) (vs := vs2) hfi2 hw
                                                  refine g_region ?_
                                                  refine xV rfl rfl rfl (v_move rfl) ?_
                                                  refine xV rfl rfl rfl (v_neqF rfl rfl (by omega)) ?_
                                                  refine xV rfl rfl rfl (v_move rfl) ?_
                                                  refine rl_split (s := 121) rfl (fun g26_2 => ?_) (fun g26_2 => ?_)
                                                  · try with_reducible exact ft_elim g26_2
                                                    all_goals
                                                      try replace g26_2 := of_decide_eq_true g26_2
                                                      refine rl_off (met_off rfl rfl rfl rfl rfl) rfl rfl ?_
                                                      refine rl_off (met_off rfl rfl rfl rfl rfl) rfl rfl ?_
                                                      first | (refine xV rfl rfl rfl (v_pick_true rfl rfl) ?_) | (refine xV rfl rfl rfl (v_pick_false rfl rfl) ?_) | (refine xV rfl rfl rfl (v_pick rfl rfl rfl) ?_)
                                                      refine xV rfl rfl rfl (v_move rfl) ?_
                                                      refine rl_off (met_off rfl rfl rfl rfl rfl) rfl rfl ?_
                                                      refine rl_off (met_off rfl rfl rfl rfl rfl) rfl rfl ?_
                                                      refine rl_off (met_off rfl rfl rfl rfl rfl) rfl rfl ?_
                                                      refine rl_off (met_off rfl rfl rfl rfl rfl) rfl rfl ?_
                                                      first | (refine xV rfl rfl rfl (v_pick_true rfl rfl) ?_) | (refine xV rfl rfl rfl (v_pick_false rfl rfl) ?_) | (refine xV rfl rfl rfl (v_pick rfl rfl rfl) ?_)
                                                      refine rl_nil (g_le (xK (xK (xK (xK (xK (xK (xK (xK (xK (xK (xK (xK (xK (Fr.le_refl _)))))))))))))) ?_)
                                                      refine g_cond_true rfl ?_
                                                      refine g_seq ?_
                                                      refine g_region ?_
                                                      refine xV rfl rfl rfl (v_assign rfl) ?_
                                                      refine rl_nil (g_le (xK (Fr.le_refl _)) ?_)
                                                      refine g_ret1 Try.func5 rfl rfl ?_
                                                      exact ⟨rfl, hw⟩
                                                  · try with_reducible exact tf_elim g26_2
                                                    all_goals
                                                      try replace g26_2 := of_decide_eq_false g26_2
                                                      refine rl_vg (met_on rfl rfl rfl rfl) rfl rfl (S := fun _ => True) trivial (v_move rfl) ?_
                                                      refine rl_vg (met_on rfl rfl rfl rfl) rfl rfl (S := fun _ => True) trivial (v_neqF rfl rfl (by omega)) ?_
                                                      refine xV rfl rfl rfl (v_pick_false rfl rfl) ?_
                                                      refine xV rfl rfl rfl (v_move rfl) ?_
                                                      refine rl_split (s := 125) rfl (fun g26_6 => ?_) (fun g26_6 => ?_)
                                                      · try with_reducible exact ft_elim g26_6
                                                        all_goals
                                                          try replace g26_6 := of_decide_eq_true g26_6
                                                          refine rl_off (met_off rfl rfl rfl rfl rfl) rfl rfl ?_
                                                          refine rl_off (met_off rfl rfl rfl rfl rfl) rfl rfl ?_
                                                          refine rl_off (met_off rfl rfl rfl rfl rfl) rfl rfl ?_
                                                          refine rl_off (met_off rfl rfl rfl rfl rfl) rfl rfl ?_
                                                          first | (refine xV rfl rfl rfl (v_pick_true rfl rfl) ?_) | (refine xV rfl rfl rfl (v_pick_false rfl rfl) ?_) | (refine xV rfl rfl rfl (v_pick rfl rfl rfl) ?_)
                                                          refine rl_nil (g_le (xK (xK (xK (xK (xK (xK (xK (xK (xK (xK (xK (xK (xK (xK (Fr.le_refl _))))))))))))))) ?_)
                                                          refine g_cond_true rfl ?_
                                                          refine g_seq ?_
                                                          refine g_region ?_
                                                          refine xV rfl rfl rfl (v_assign rfl) ?_
                                                          refine rl_nil (g_le (xK (Fr.le_refl _)) ?_)
                                                          refine g_ret1 Try.func5 rfl rfl ?_
                                                          exact ⟨rfl, hw⟩
                                                      · try with_reducible exact tf_elim g26_6
                                                        all_goals
                                                          try replace g26_6 := of_decide_eq_false g26_6
                                                          refine rl_vg (met_on rfl rfl rfl rfl) rfl rfl (by exact sat_cells hw (by (repeat first | with_reducible exact xH | apply xT); first | done | fail) ⟨rfl, rfl, rfl, trivial⟩) (v_loadAgg (vs := [_, _, _]) T.agg_48_3 rfl rfl) ?_
                                                          refine rl_vg (met_on rfl rfl rfl rfl) rfl rfl (by exact sat_cells hw (by (repeat first | with_reducible exact xH | apply xT); first | done | fail) ⟨rfl, rfl, rfl, trivial⟩) (v_loadAgg (vs := [_, _, _]) T.agg_48_3 rfl rfl) ?_
                                                          refine rl_kg (met_on rfl rfl rfl rfl) (k_callf Try.func17 rfl rfl rfl rfl ?_)
                                                          refine Calls.mono (likeNd_calls (mono_Nd hg5 hnd4) hnd5 (hw.xQ)) ?_
                                                          rw [decide_eq_true rfl]
                                                          rintro _ w ⟨rfl, hw⟩
                                                          refine ⟨_, rfl, ?_⟩
                                                          refine rl_vg (met_on rfl rfl rfl rfl) rfl rfl (S := fun _ => True) trivial (v_not rfl) ?_
                                                          refine xV rfl rfl rfl (v_pick_false rfl rfl) ?_
                                                          refine rl_nil (g_le (xK (xK (xK (xK (xK (xK (xK (xK (xK (xK (xK (xK (xK (xK (Fr.le_refl _))))))))))))))) ?_)
                                                          refine g_cond rfl (fun h9 => ?_) (fun h9 => ?_)
                                                          · try with_reducible exact ft_elim h9
                                                            all_goals
                                                              try replace h9 := of_decide_eq_true h9
                                                              simp at h9
                                                          · try with_reducible exact tf_elim h9
                                                            all_goals
                                                              try replace h9 := of_decide_eq_false h9
                                                              refine g_skip (g_inBlock ?_)
                                                              refine g_region ?_
                                                              refine xV rfl rfl rfl (v_add rfl rfl (by omega)) ?_
                                                              refine xV rfl rfl rfl (v_move rfl) ?_
                                                              refine rl_nil (g_le (xK (xK (Fr.le_refl _))) ?_)
                                                              exact g_le (by repeat (first | exact Fr.le_nil _ | refine Fr.le_cons rfl ?_)) (ih2 (j + 1, e1, e2, g5) w ⟨by simp only; omega, I4, (hg3.trans hg4).trans hg5, hw.xQ⟩ (by simp only; omega))
                                      · try with_reducible exact tf_elim h7
                                        all_goals
                                          try replace h7 := of_decide_eq_false h7
                                          refine g_exit rfl (g_inBlock ?_)
                                          refine g_region ?_
                                          refine xV rfl rfl rfl (v_add rfl rfl (by omega)) ?_
                                          refine xV rfl rfl rfl (v_move rfl) ?_
                                          refine rl_nil (g_le (xK (xK (Fr.le_refl _))) ?_)
                                          exact g_le (by repeat (first | exact Fr.le_nil _ | refine Fr.le_cons rfl ?_)) (ih (i + 1, m2, S2.got d1, d2, wl2, kl2, .slice wa wl2.length wc, g3) w ⟨by simp only; omega, by simp only; omega, by simp only; omega, I3, hg3, (hw.xQ : Sat (envOf W) w (PgA pp q (S2.got d1) :: PgA pr q2 (S2.got d2) :: OwnSl 51 4 (.slice wa wl2.length wc) wl2.length (wl2.flatMap Rf.cells) :: QtAt bk0_0 q :: RO g3 :: []))⟩ (by simp only; omega))
                                  · intro joinc6
                                    refine g_cond rfl (fun h6 => ?_) (fun h6 => ?_)
                                    · try with_reducible exact ft_elim h6
                                      all_goals
                                        try replace h6 := of_decide_eq_true h6
                                        have I2 := (hst.resolve_right fun h => h.1 h6).2
                                        have hz := hw
                                        clear hw
                                        obtain ⟨wa, wc, rfl, hwc, _, _⟩ := (hz.xP (A := OwnSl 51 4 wv wl.length (wl.flatMap Rf.cells))).own_shape
                                        have hw := hz
                                        clear hz
                                        have hlen : (wl.flatMap Rf.cells).length = wl.length * 4 := rfs_len wl
                                        refine g_region ?_
                                        refine xV rfl rfl rfl (v_move rfl) ?_
                                        refine rl_v rfl rfl rfl (by exact sat_cells hw (by (repeat first | with_reducible exact xH | apply xT); first | done | fail) ⟨rfl, rfl, rfl, rfl, trivial⟩) (v_loadAgg (vs := [_, _, _, _]) T.agg_51_4 rfl rfl) ?_
                                        refine rl_k rfl (k_buildSlice (cells := [_, _, _, _]) hw T.sl_59_51_4 T.zero_51 rfl rfl rfl rfl rfl rfl (fun bk19_2 w hw => ?_))
                                        refine rl_k rfl (k_append (news := [_, _, _, _]) hw T.sl_59_51_4 T.zero_51 T.bytes_51_32 rfl (by decide) rfl rfl (by (repeat first | with_reducible exact xH | apply xT); first | done | fail) rfl (by exact sat_cells hw (by (repeat first | with_reducible exact xH | apply xT); first | done | fail) ⟨rfl, rfl, rfl, rfl, trivial⟩) (by simp [Value.oneCell']) (by omega) (by simp only [maxLen]; omega) rfl (fun vv19_3 w hw hnil => ?_))
                                        refine xV rfl rfl rfl (v_assign rfl) ?_
                                        refine rl_nil (g_le (xK (xK (xK (xK (xK (Fr.le_refl _)))))) ?_)
                                        exact joinc6 (m + 1, c5, wl ++ [rr2], kl ++ [x], vv19_3) w _ (by repeat (first | exact Fr.le_nil _ | refine Fr.le_cons rfl ?_)) ⟨by simp only; omega, I2, by dsimp only; rw [List.length_append, List.flatMap_append]; exact (hw.xQ : Sat (envOf W) w (PgA pp q S2 :: PgA pr q2 (S2.got c5) :: OwnSl 51 4 vv19_3 (wl.length + 1) (wl.flatMap Rf.cells ++ rr2.cells) :: QtAt bk0_0 q :: RO g :: []))⟩
                                    · try with_reducible exact tf_elim h6
                                      all_goals
                                        try replace h6 := of_decide_eq_false h6
                                        refine g_skip ?_
                                        exact joinc6 (m, c5, wl, kl, wv) w _ (by repeat (first | exact Fr.le_nil _ | refine Fr.le_cons rfl ?_)) ⟨by simp only; omega, (hst.resolve_left fun h => h6 h.1).2, hw.xQ⟩
                  · try with_reducible exact tf_elim h3
                    all_goals
                      try replace h3 := of_decide_eq_false h3
                      refine g_exit rfl (g_seq ?_)
                      have hkp := I.kept hq hq2
                      rw [hqc] at hkp
                      obtain ⟨p1, gc1, hp1, hw⟩ := pg_open (hw.xP (A := PgA pp q S))
                      obtain ⟨p2, gc2, hp2, hw⟩ := pg_open (hw.xP (A := PgA pr q2 (S.got c)))
                      dsimp only [PS.got] at hw
                      refine g_drawR ord_f5_r30_P16K (by kernel_rfl) T.mixed hw (fun w hw => ?_)
                      refine rs_a 0 rfl rfl rfl rfl (v_move rfl) ?_
                      refine rs_a 1 rfl rfl rfl rfl (v_nilCheck rfl) ?_
                      refine rs_a 2 rfl rfl rfl rfl (v_fieldAddr0 T.fld_35_2_2 rfl) ?_
                      refine rs_a 5 rfl rfl rfl rfl (v_move rfl) ?_
                      refine rs_a 6 rfl rfl rfl rfl (v_nilCheck rfl) ?_
                      refine rs_a 7 rfl rfl rfl rfl (v_fieldAddr0 T.fld_35_2_2 rfl) ?_
                      refine rs_v 3 rfl rfl rfl rfl (OpV.mono (v_load T.scal_33 rfl) (fun w hw => by exact sat_cell hw (by (repeat first | with_reducible exact xH | apply xT); first | done | fail) rfl)) (by exact hw) ?_
                      refine rs_v 8 rfl rfl rfl rfl (OpV.mono (v_load T.scal_33 rfl) (fun w hw => by exact sat_cell hw (by (repeat first | with_reducible exact xH | apply xT); first | done | fail) rfl)) (by exact hw) ?_
                      refine rs_k 4 rfl rfl (k_callf Try.func14 rfl rfl rfl rfl ?_)
                      refine Calls.mono (taken_calls p1.d p1.dv (S.tk : Nat) (hw.xP)) ?_
                      rintro _ w ⟨rfl, hw⟩
                      refine ⟨_, rfl, ?_⟩
                      refine ⟨fun _ => (by exact Sat.sub hw (by (repeat (first | with_reducible exact Sub.refl _ | exact Sub.nil _ | (apply Sub.cons; focus ((repeat (first | with_reducible exact Pick.here _ | apply Pick.there)); (first | done | fail))) | with_reducible apply Sub.drop)); first | done | fail)), ?_⟩
                      refine rs_k 9 rfl rfl (k_callf Try.func14 rfl rfl rfl rfl ?_)
                      refine Calls.mono (taken_calls p2.d p2.dv (S.tk : Nat) (hw.xP)) ?_
                      rintro _ w ⟨rfl, hw⟩
                      refine ⟨_, rfl, ?_⟩
                      refine ⟨fun _ => (by exact Sat.sub hw (by (repeat (first | with_reducible exact Sub.refl _ | exact Sub.nil _ | (apply Sub.cons; focus ((repeat (first | with_reducible exact Pick.here _ | apply Pick.there)); (first | done | fail))) | with_reducible apply Sub.drop)); first | done | fail)), ?_⟩
                      refine rs_kv 10 rfl rfl rfl rfl (S' := fun _ => True) trivial (v_eqlT rfl rfl (by omega)) ?_
                      refine rs_kv 11 rfl rfl rfl rfl (S' := fun _ => True) trivial (v_move rfl) ?_
                      refine rs_split (s := 144) rfl (fun g30_11 => ?_) (fun g30_11 => ?_)
                      · try with_reducible exact ft_elim g30_11
                        all_goals
                          try replace g30_11 := of_decide_eq_true g30_11
                          refine rs_ag 12 rfl (met_on rfl rfl rfl rfl) rfl rfl (v_move rfl) ?_
                          refine rs_ag 13 rfl (met_on rfl rfl rfl rfl) rfl rfl (v_nilCheck rfl) ?_
                          refine rs_ag 14 rfl (met_on rfl rfl rfl rfl) rfl rfl (v_fieldAddr0 T.fld_35_1_1 rfl) ?_
                          refine rs_ag 17 rfl (met_on rfl rfl rfl rfl) rfl rfl (v_fieldAddr0 T.fld_23_6_6 rfl) ?_
                          refine rs_vg 15 rfl (met_on rfl rfl rfl rfl) rfl rfl (OpV.mono (v_load T.scal_32 rfl) (fun w hw => by exact sat_cell hw (by (repeat first | with_reducible exact xH | apply xT); first | done | fail) rfl)) (by exact Sat.sub hw (by (repeat (first | with_reducible exact Sub.refl _ | exact Sub.nil _ | (apply Sub.cons; focus ((repeat (first | with_reducible exact Pick.here _ | apply Pick.there)); (first | done | fail))) | with_reducible apply Sub.drop)); first | done | fail)) ?_
                          refine rs_vg 18 rfl (met_on rfl rfl rfl rfl) rfl rfl (OpV.mono (v_load T.scal_3 rfl) (fun w hw => by exact sat_cell hw (by (repeat first | with_reducible exact xH | apply xT); first | done | fail) rfl)) (by exact Sat.sub hw (by (repeat (first | with_reducible exact Sub.refl _ | exact Sub.nil _ | (apply Sub.cons; focus ((repeat (first | with_reducible exact Pick.here _ | apply Pick.there)); (first | done | fail))) | with_reducible apply Sub.drop)); first | done | fail)) ?_
                          refine rs_kg 16 rfl (met_on rfl rfl rfl rfl) (k_callf Try.func18 rfl rfl rfl rfl ?_)
                          refine Calls.mono (ckept_calls (c := p1.c) (s := S.ch) (lv := p1.lv) (cells := p1.cells) (hw.xQ)) ?_
                          rintro _ w ⟨rfl, hw⟩
                          refine ⟨_, rfl, ?_⟩
                          refine ⟨fun _ => (by exact Sat.sub hw (by (repeat (first | with_reducible exact Sub.refl _ | exact Sub.nil _ | (apply Sub.cons; focus ((repeat (first | with_reducible exact Pick.here _ | apply Pick.there)); (first | done | fail))) | with_reducible apply Sub.drop)); first | done | fail)), ?_⟩
                          refine rs_kvg 19 rfl (met_on rfl rfl rfl rfl) rfl rfl (S' := fun _ => True) trivial (v_leqT rfl rfl (by omega)) ?_
                          refine rs_kv 20 rfl rfl rfl rfl (S' := fun _ => True) trivial (v_pick_true rfl rfl) ?_
                          refine rs_kv 21 rfl rfl rfl rfl (S' := fun _ => True) trivial (v_move rfl) ?_
                          refine rs_split (s := 154) rfl (fun g30_21 => ?_) (fun g30_21 => ?_)
                          · try with_reducible exact ft_elim g30_21
                            all_goals
                              try replace g30_21 := of_decide_eq_true g30_21
                              refine rs_ag 22 rfl (met_on rfl rfl rfl rfl) rfl rfl (v_move rfl) ?_
                              refine rs_ag 23 rfl (met_on rfl rfl rfl rfl) rfl rfl (v_nilCheck rfl) ?_
                              refine rs_ag 24 rfl (met_on rfl rfl rfl rfl) rfl rfl (v_fieldAddr0 T.fld_35_1_1 rfl) ?_
                              refine rs_ag 27 rfl (met_on rfl rfl rfl rfl) rfl rfl (v_move rfl) ?_
                              refine rs_kvg 25 rfl (met_on rfl rfl rfl rfl) rfl rfl (by exact sat_cell hw (by (repeat first | with_reducible exact xH | apply xT); first | done | fail) rfl) (v_load T.scal_32 rfl) ?_
                              refine rs_kg 26 rfl (met_on rfl rfl rfl rfl) (k_callf Try.func18 rfl rfl rfl rfl ?_)
                              refine Calls.mono (ckept_calls (c := p2.c) (s := c) (lv := p2.lv) (cells := p2.cells) (hw.xQ)) ?_
                              rintro _ w ⟨rfl, hw⟩
                              refine ⟨_, rfl, ?_⟩
                              refine ⟨fun _ => (by exact Sat.sub hw (by (repeat (first | with_reducible exact Sub.refl _ | exact Sub.nil _ | (apply Sub.cons; focus ((repeat (first | with_reducible exact Pick.here _ | apply Pick.there)); (first | done | fail))) | with_reducible apply Sub.drop)); first | done | fail)), ?_⟩
                              refine rs_kvg 28 rfl (met_on rfl rfl rfl rfl) rfl rfl (S' := fun _ => True) trivial (v_leqT rfl rfl (by omega)) ?_
                              refine rs_kv 29 rfl rfl rfl rfl (S' := fun _ => True) trivial (v_pick_true rfl rfl) ?_
                              refine rs_kv 30 rfl rfl rfl rfl (S' := fun _ => True) trivial (v_assign rfl) ?_
                              refine rs_done (g_le (xK (xS rfl (xS rfl (xS rfl (xS rfl (xS rfl (xS rfl (xS rfl (xS rfl (xS rfl (xS rfl (xS rfl (xS rfl (xS rfl (xS rfl (xS rfl (xS rfl (xS rfl (xS rfl (xS rfl (xS rfl (xS rfl (xS rfl (xS rfl (xS rfl (xS rfl (xS rfl (xS rfl (xS rfl (xS rfl (xS rfl (xS rfl (xS rfl (Fr.le_refl _)))))))))))))))))))))))))))))))))) ?_)
                              refine g_ret1 Try.func5 rfl rfl ?_
                              refine ⟨?_, (hw.xQ : Sat (envOf W) w [RO g]).shrink hg⟩
                              first | rfl | simp [hkp]
                          · try with_reducible exact tf_elim g30_21
                            all_goals
                              try replace g30_21 := of_decide_eq_false g30_21
                              refine rs_aoff 22 rfl (met_off rfl rfl rfl rfl rfl) rfl rfl ?_
                              refine rs_aoff 23 rfl (met_off rfl rfl rfl rfl rfl) rfl rfl ?_
                              refine rs_aoff 24 rfl (met_off rfl rfl rfl rfl rfl) rfl rfl ?_
                              refine rs_aoff 27 rfl (met_off rfl rfl rfl rfl rfl) rfl rfl ?_
                              refine rs_koff 25 rfl (met_off rfl rfl rfl rfl rfl) rfl rfl ?_
                              refine rs_koff 26 rfl (met_off rfl rfl rfl rfl rfl) rfl rfl ?_
                              refine rs_koff 28 rfl (met_off rfl rfl rfl rfl rfl) rfl rfl ?_
                              first | (refine rs_kv 29 rfl rfl rfl rfl (S' := fun _ => True) trivial (v_pick_true rfl rfl) ?_) | (refine rs_kv 29 rfl rfl rfl rfl (S' := fun _ => True) trivial (v_pick_false rfl rfl) ?_) | (refine rs_kv 29 rfl rfl rfl rfl (S' := fun _ => True) trivial (v_pick rfl rfl rfl) ?_)
                              refine rs_kv 30 rfl rfl rfl rfl (S' := fun _ => True) trivial (v_assign rfl) ?_
                              refine rs_done (g_le (xK (xS rfl (xS rfl (xS rfl (xS rfl (xS rfl (xS rfl (xS rfl (xS rfl (xS rfl (xS rfl (xS rfl (xS rfl (xS rfl (xS rfl (xS rfl (xS rfl (xS rfl (xS rfl (xS rfl (xS rfl (xS rfl (xS rfl (xS rfl (xS rfl (xS rfl (xS rfl (xS rfl (xS rfl (xS rfl (xS rfl (xS rfl (xS rfl (Fr.le_refl _)))))))))))))))))))))))))))))))))) ?_)
                              refine g_ret1 Try.func5 rfl rfl ?_
                              refine ⟨?_, (hw.xQ : Sat (envOf W) w [RO g]).shrink hg⟩
                              first | rfl | simp [hkp]
                      · try with_reducible exact tf_elim g30_11
                        all_goals
                          try replace g30_11 := of_decide_eq_false g30_11
                          refine rs_aoff 12 rfl (met_off rfl rfl rfl rfl rfl) rfl rfl ?_
                          refine rs_aoff 13 rfl (met_off rfl rfl rfl rfl rfl) rfl rfl ?_
                          refine rs_aoff 14 rfl (met_off rfl rfl rfl rfl rfl) rfl rfl ?_
                          refine rs_aoff 17 rfl (met_off rfl rfl rfl rfl rfl) rfl rfl ?_
                          refine rs_voff 15 rfl (met_off rfl rfl rfl rfl rfl) rfl rfl (by first | exact hw | exact Sat.sub hw (by (repeat (first | with_reducible exact Sub.refl _ | exact Sub.nil _ | (apply Sub.cons; focus ((repeat (first | with_reducible exact Pick.here _ | apply Pick.there)); (first | done | fail))) | with_reducible apply Sub.drop)); first | done | fail)) ?_
                          refine rs_voff 18 rfl (met_off rfl rfl rfl rfl rfl) rfl rfl (by first | exact hw | exact Sat.sub hw (by (repeat (first | with_reducible exact Sub.refl _ | exact Sub.nil _ | (apply Sub.cons; focus ((repeat (first | with_reducible exact Pick.here _ | apply Pick.there)); (first | done | fail))) | with_reducible apply Sub.drop)); first | done | fail)) ?_
                          refine rs_koff 16 rfl (met_off rfl rfl rfl rfl rfl) rfl rfl ?_
                          refine rs_koff 19 rfl (met_off rfl rfl rfl rfl rfl) rfl rfl ?_
                          first | (refine rs_kv 20 rfl rfl rfl rfl (S' := fun _ => True) trivial (v_pick_true rfl rfl) ?_) | (refine rs_kv 20 rfl rfl rfl rfl (S' := fun _ => True) trivial (v_pick_false rfl rfl) ?_) | (refine rs_kv 20 rfl rfl rfl rfl (S' := fun _ => True) trivial (v_pick rfl rfl rfl) ?_)
                          refine rs_kv 21 rfl rfl rfl rfl (S' := fun _ => True) trivial (v_move rfl) ?_
                          refine rs_aoff 22 rfl (met_off rfl rfl rfl rfl rfl) rfl rfl ?_
                          refine rs_aoff 23 rfl (met_off rfl rfl rfl rfl rfl) rfl rfl ?_
                          refine rs_aoff 24 rfl (met_off rfl rfl rfl rfl rfl) rfl rfl ?_
                          refine rs_aoff 27 rfl (met_off rfl rfl rfl rfl rfl) rfl rfl ?_
                          refine rs_koff 25 rfl (met_off rfl rfl rfl rfl rfl) rfl rfl ?_
                          refine rs_koff 26 rfl (met_off rfl rfl rfl rfl rfl) rfl rfl ?_
                          refine rs_koff 28 rfl (met_off rfl rfl rfl rfl rfl) rfl rfl ?_
                          first | (refine rs_kv 29 rfl rfl rfl rfl (S' := fun _ => True) trivial (v_pick_true rfl rfl) ?_) | (refine rs_kv 29 rfl rfl rfl rfl (S' := fun _ => True) trivial (v_pick_false rfl rfl) ?_) | (refine rs_kv 29 rfl rfl rfl rfl (S' := fun _ => True) trivial (v_pick rfl rfl rfl) ?_)
                          refine rs_kv 30 rfl rfl rfl rfl (S' := fun _ => True) trivial (v_assign rfl) ?_
                          refine rs_done (g_le (xK (xS rfl (xS rfl (xS rfl (xS rfl (xS rfl (xS rfl (xS rfl (xS rfl (xS rfl (xS rfl (xS rfl (xS rfl (xS rfl (xS rfl (xS rfl (xS rfl (xS rfl (xS rfl (xS rfl (xS rfl (xS rfl (xS rfl (xS rfl (xS rfl (xS rfl (xS rfl (xS rfl (xS rfl (xS rfl (xS rfl (xS rfl (Fr.le_refl _))))))))))))))))))))))))))))))))) ?_)
                          refine g_ret1 Try.func5 rfl rfl ?_
                          refine ⟨?_, (hw.xQ : Sat (envOf W) w [RO g]).shrink hg⟩
                          first | rfl | simp [hkp]
theorem PagesCaches_law {w : World} {qcs : Array Value} {xq : Quota} {cv : Int} {a1 a2 a3 : Option Addr} {n1 c1 n2 c2 n3 c3 : Nat} {xs as_ : List Int} {ns : List Nd} (hq : rdArg rdQuota w (.agg qcs) xq) (hi : (Lit.int .i64 cv).wf = true) (hd : rdArg (rdSl 8 1 (rdInt .u64)) w (.slice a1 n1 c1) xs) (hn : rdArg (rdSl 56 3 rdNd) w (.slice a2 n2 c2) ns) (ha : rdArg (rdSl 8 1 (rdInt .i64)) w (.slice a3 n3 c3) as_) :
    Law Try.prog 5 [.agg qcs, .int .i64 cv, .slice a1 n1 c1, .slice a2 n2 c2, .slice a3 n3 c3] w := by
  unfold Law
  have hw := Sat.old w
  obtain ⟨q, rfl⟩ := qt_of hq
  clear hq hi
  generalize w = W at hw hd hn ha ⊢
  have hd : (rdSl 8 1 (rdInt .u64)) (hpOf W) [.slice a1 n1 c1] xs := hd
  have hn : (rdSl 56 3 rdNd) (hpOf W) [.slice a2 n2 c2] ns := hn
  have ha : (rdSl 8 1 (rdInt .i64)) (hpOf W) [.slice a3 n3 c3] as_ := ha
  by_cases hq : q.ok ∧ ({ q with ca := cv } : Qt).ok
  · exact PagesCaches_good hq.1 hq.2 hd hn ha hw
  · exact PagesCaches_bad hq hd hw

set_option maxRecDepth 100000 in
theorem PagesCaches_lifted (os : Os) (started : os.Started) (H : Type) (enc : TypeId × Value → H) :
    ReturnsInHanded {} Try.checked os 5 .any (Rows.pagesCachesSpec.pre6 enc Try.prog Try.f5 Rows.pagesCachesRow.domain false) (Rows.pagesCachesSpec.post enc Try.prog Try.f5 false true false false) := by
  refine returnsInHanded_of_change_sized (C := Try.checked) T.own started (by kernel_rfl) Try.func5
    (ChangeSpec.witness6 (enc := enc) (C := Try.checked) false ⟨#[], #[(.agg #[(.int .i64 0), (.int .i64 0), (.int .i64 0), (.int .i64 0), (.int .i64 0), (.int .i64 0), (.int .i64 0)]), (.int .i64 0), (.slice none 0 0), (.slice none 0 0), (.slice none 0 0)], []⟩ 8 (by kernel_rfl) (by kernel_rfl) (by kernel_rfl) (by kernel_rfl)) ?_
  intro W base args ds gs before hval0 hW hcnd hsz0 _
  have hval : ∀ (j : Nat) t v, Try.f5.params[j]? = some t → args[j]? = some v → Value.okWide Try.prog W .any base t v := hval0
  have hW' := hW
  obtain ⟨p, q, hA0, hV, rfl, hfz, hnd⟩ := hW
  have hA : DataW.TrodAll enc Try.prog W 0 (fun _ => true) true Try.f5.params.toList args.toList ds p := hA0
  obtain ⟨rfl, rfl⟩ := trodVars_none hV
  have hsz : (DataW.weightsEach Try.prog (Try.f5.params.toList ++ []) (ds ++ [])).all (· ≤ reachBytes) = true := hsz0
  rw [List.append_nil, List.append_nil] at hsz
  rw [Try.params5] at hA hval hsz
  obtain ⟨v0, vs0, d0, ds0, p0, q0, hargs, rfl, rfl, h0, r0⟩ := trodAll_cons hA
  obtain ⟨v1, vs1, d1, ds1, p1, q1, rfl, rfl, rfl, h1, r1⟩ := trodAll_cons r0
  obtain ⟨v2, vs2, d2, ds2, p2, q2, rfl, rfl, rfl, h2, r2⟩ := trodAll_cons r1
  obtain ⟨v3, vs3, d3, ds3, p3, q3, rfl, rfl, rfl, h3, r3⟩ := trodAll_cons r2
  obtain ⟨v4, vs4, d4, ds4, p4, q4, rfl, rfl, rfl, h4, r4⟩ := trodAll_cons r3
  obtain ⟨rfl, rfl, rfl⟩ := trodAll_nil r4
  obtain rfl : args = #[v0, v1, v2, v3, v4] := by cases args; simp_all
  have lt0 : ∀ x ∈ p0, x.block < W.heap.size := by obtain ⟨m, hm⟩ := h0; exact DataW.trod_lt m _ _ _ hm
  obtain ⟨x0, w0⟩ := arg_of (j := 0) reads_Quota h0 hsz rfl rfl
  have lt1 : ∀ x ∈ p1, x.block < W.heap.size := by obtain ⟨m, hm⟩ := h1; exact DataW.trod_lt m _ _ _ hm
  obtain ⟨x1, w1⟩ := arg_of (j := 1) (reads_int T.int_3_i64) h1 hsz rfl rfl
  have lt2 : ∀ x ∈ p2, x.block < W.heap.size := by obtain ⟨m, hm⟩ := h2; exact DataW.trod_lt m _ _ _ hm
  obtain ⟨x2, w2⟩ := arg_of (j := 2) (reads_sl T.sl_24_49_1 T.bytes_49_8 (by decide) (reads_int T.int_49_u64)) h2 hsz rfl rfl
  have lt3 : ∀ x ∈ p3, x.block < W.heap.size := by obtain ⟨m, hm⟩ := h3; exact DataW.trod_lt m _ _ _ hm
  obtain ⟨x3, w3⟩ := arg_of (j := 3) (reads_sl T.sl_25_48_3 T.bytes_48_56 (by decide) reads_Nd) h3 hsz rfl rfl
  have lt4 : ∀ x ∈ p4, x.block < W.heap.size := by obtain ⟨m, hm⟩ := h4; exact DataW.trod_lt m _ _ _ hm
  obtain ⟨x4, w4⟩ := arg_of (j := 4) (reads_sl T.sl_65_3_1 T.bytes_3_8 (by decide) (reads_int T.int_3_i64)) h4 hsz rfl rfl
  obtain ⟨cs0, rfl⟩ := okWide_agg T.agg_23_7 (hval 0 23 v0 rfl rfl)
  obtain ⟨n1, rfl⟩ := okWide_int Try.underlying3 (hval 1 3 v1 rfl rfl)
  obtain ⟨a2, l2, c2, rfl⟩ := okWide_slice Try.underlying24 (hval 2 24 v2 rfl rfl)
  obtain ⟨a3, l3, c3, rfl⟩ := okWide_slice Try.underlying25 (hval 3 25 v3 rfl rfl)
  obtain ⟨a4, l4, c4, rfl⟩ := okWide_slice Try.underlying65 (hval 4 65 v4 rfl rfl)
  obtain ⟨hc1, hr1⟩ := w1
  cases hc1
  refine (PagesCaches_law w0 hr1 w2 w3 w4).mono fun e W' ⟨he, hb⟩ => ?_
  have bel := hb.below
  subst he
  exact ⟨_, rfl, _, _, _, [], _, [], hW', trodAll_mk1 (shut_bool Try.underlying4 _), (trodAll_cons_mk (Below.trod T.laidOut (by kernel_rfl) (of_decide_eq_true (by kernel_rfl)) h0 bel lt0) (trodAll_cons_mk (Below.trod T.laidOut (by kernel_rfl) (of_decide_eq_true (by kernel_rfl)) h1 bel lt1) (trodAll_cons_mk (Below.trod T.laidOut (by kernel_rfl) (of_decide_eq_true (by kernel_rfl)) h2 bel lt2) (trodAll_cons_mk (Below.trod T.laidOut (by kernel_rfl) (of_decide_eq_true (by kernel_rfl)) h3 bel lt3) (trodAll_cons_mk (Below.trod T.laidOut (by kernel_rfl) (of_decide_eq_true (by kernel_rfl)) h4 bel lt4) trodAll_mk0))))), rfl, bel.frame _, fun h => by cases h⟩
theorem PagesCaches_holds : Rows.PagesCachesSaid :=
  OpenClaim.holds_of_wide 5 Try.f5 rfl rfl rfl rfl rfl rfl rfl ⟨rfl, rfl, rfl, rfl, rfl⟩ rfl rfl rfl rfl rfl (by kernel_rfl) Try.func5 (by kernel_rfl)
    (of_decide_eq_true (by kernel_rfl)) (by unfold Func.isWrapper; rw [if_neg (of_decide_eq_false (by kernel_rfl))]; exact ⟨rfl, rfl⟩)
    (fun os started H enc _ => PagesCaches_lifted os started H enc)
#print axioms PagesCaches_holds
end Go.Proofs.Ytlgpdglnfjndhaa
