/-
  PagesHarmed: a page that was written over is told as damaged; what lies ahead of it is read as ever.
-/
import Derived.Test.YtlgpdglnfjndhaaP22
import Derived.Test.YtlgpdglnfjndhaaN06
import Derived.Test.YtlgpdglnfjndhaaRows
namespace Go.Proofs.Ytlgpdglnfjndhaa
set_option maxRecDepth 8000
set_option linter.unusedSimpArgs false
set_option linter.unusedVariables false
open Go Xe Go.Lib Go.RowKit Go.ChangeShapes Go.WideShapes Go.ChangeAt
structure Quota where
  secrets : Int
  name : Int
  value : Int
  note : Int
  versions : Int
  batch : Int
  cache : Int
instance : DecidableEq Quota := fun a b => decidable_of_iff (a.secrets = b.secrets ∧ a.name = b.name ∧ a.value = b.value ∧ a.note = b.note ∧ a.versions = b.versions ∧ a.batch = b.batch ∧ a.cache = b.cache) (by cases a; cases b; simp)
@[reducible] def Quota.cells (x : Quota) : List Value := [.int .i64 x.secrets, .int .i64 x.name, .int .i64 x.value, .int .i64 x.note, .int .i64 x.versions, .int .i64 x.batch, .int .i64 x.cache]
def Quota.ok (x : Quota) : Prop := (Lit.int .i64 x.secrets).wf = true ∧ (Lit.int .i64 x.name).wf = true ∧ (Lit.int .i64 x.value).wf = true ∧ (Lit.int .i64 x.note).wf = true ∧ (Lit.int .i64 x.versions).wf = true ∧ (Lit.int .i64 x.batch).wf = true ∧ (Lit.int .i64 x.cache).wf = true
def rdQuota : Rd Quota := fun _ cs x => cs = x.cells ∧ x.ok
theorem reads_Quota {H : Type} {enc : TypeId × Value → H} : Reads enc Try.prog 23 rdQuota := fun w fuel cs d ps h hz => by
  have hl := reads_length T.agg_23_7 (by kernel_rfl) h hz
  obtain ⟨c0, c1, c2, c3, c4, c5, c6, rfl⟩ : ∃ c0 c1 c2 c3 c4 c5 c6, cs = [c0, c1, c2, c3, c4, c5, c6] := by
    match cs, hl with
    | [c0, c1, c2, c3, c4, c5, c6], _ => exact ⟨_, _, _, _, _, _, _, rfl⟩
  obtain ⟨x0, h0⟩ := reads_field (i := 0) (off := 0) (k := 1) (ft := 3) (by kernel_rfl) h hz (reads_int T.int_3_i64)
  obtain ⟨x1, h1⟩ := reads_field (i := 1) (off := 1) (k := 1) (ft := 3) (by kernel_rfl) h hz (reads_int T.int_3_i64)
  obtain ⟨x2, h2⟩ := reads_field (i := 2) (off := 2) (k := 1) (ft := 3) (by kernel_rfl) h hz (reads_int T.int_3_i64)
  obtain ⟨x3, h3⟩ := reads_field (i := 3) (off := 3) (k := 1) (ft := 3) (by kernel_rfl) h hz (reads_int T.int_3_i64)
  obtain ⟨x4, h4⟩ := reads_field (i := 4) (off := 4) (k := 1) (ft := 3) (by kernel_rfl) h hz (reads_int T.int_3_i64)
  obtain ⟨x5, h5⟩ := reads_field (i := 5) (off := 5) (k := 1) (ft := 3) (by kernel_rfl) h hz (reads_int T.int_3_i64)
  obtain ⟨x6, h6⟩ := reads_field (i := 6) (off := 6) (k := 1) (ft := 3) (by kernel_rfl) h hz (reads_int T.int_3_i64)
  obtain ⟨e0, k0⟩ := h0
  obtain ⟨e1, k1⟩ := h1
  obtain ⟨e2, k2⟩ := h2
  obtain ⟨e3, k3⟩ := h3
  obtain ⟨e4, k4⟩ := h4
  obtain ⟨e5, k5⟩ := h5
  obtain ⟨e6, k6⟩ := h6
  simp only [List.drop_zero, List.drop_succ_cons, List.take_succ_cons, List.take_zero, List.cons.injEq, and_true] at e0 e1 e2 e3 e4 e5 e6
  obtain rfl := e0
  obtain rfl := e1
  obtain rfl := e2
  obtain rfl := e3
  obtain rfl := e4
  obtain rfl := e5
  obtain rfl := e6
  exact ⟨⟨x0, x1, x2, x3, x4, x5, x6⟩, rfl, k0, k1, k2, k3, k4, k5, k6⟩
theorem qt_of {w : World} {cs : Array Value} {x : Quota} (hr : rdArg rdQuota w (.agg cs) x) : ∃ q : Qt, cs = q.cells.toArray :=
  ⟨⟨x.secrets, x.name, x.value, x.note, x.versions, x.batch, x.cache⟩, by apply Array.ext'; exact hr.1⟩
theorem u64s_rd {g : Hp} {v : Value} {xs : List Int} (h : rdSl 8 1 (rdInt .u64) g [v] xs) : ∀ x ∈ xs, U64 x := fun x hx => by
  obtain ⟨cs, h1⟩ := rdSl_mem' h x hx
  exact u64_wf h1.2
theorem ord_f4_r3_P16H : orderOfB Try.f4 3 [3] (.a 1 (.v 0 (.k 2 (.k 3 (.k 4 .done))))) = true := by kernel_rfl
theorem PagesHarmed_bad {W w : World} {q : Qt} {a1 a2 : Option Addr} {n1 c1 n2 c2 : Nat} {xs : List Int} {n : Int} (hq : ¬ ({ q with ca := 0 } : Qt).ok) (hd : (rdSl 8 1 (rdInt .u64)) (hpOf W) [.slice a1 n1 c1] xs) (hw : Sat (envOf W) w [Old W]) :
    Calls Try.prog 4 #[q.v, .slice a1 n1 c1, .slice a2 n2 c2, .int .i64 n] w fun v w' => v = .returned (.bool true) ∧ Sat (envOf W) w' [Old W] := by
  obtain ⟨_, hb1, hc1, hm1, _⟩ := rdSl_get hd
  have hd40 := rdSl_take (min n1 40) hd (Nat.min_le_left ..)
  refine calls_of_g (n := 162) Try.func4 rfl rfl rfl ?_
  change G _ _ _ _ _ [(0, _), (1, _), (2, _), (3, _)] _
  refine g_seq ?_
  refine g_region ?_
  refine rl_k rfl (k_box hw rfl rfl rfl (fun bk0_0 w hw => ?_))
  refine xV rfl rfl rfl (v_assign rfl) ?_
  refine rl_nil (g_le (xK (xK (Fr.le_refl _))) ?_)
  refine g_seq ?_
  refine g_region ?_
  refine rl_v rfl rfl rfl (by exact sat_cells hw (by (repeat first | with_reducible exact xH | apply xT); first | done | fail) ⟨rfl, rfl, rfl, rfl, rfl, rfl, rfl, trivial⟩) (v_loadAgg (vs := [_, _, _, _, _, _, _]) T.agg_23_7 rfl rfl) ?_
  refine rl_k rfl (k_alloc hw T.zero_23 rfl rfl (fun bk1_1 w hw => ?_))
  refine rl_k rfl (k_storeWhole hw T.agg_23_7 rfl rfl (by simp [Value.oneCell']) rfl (by (repeat first | with_reducible exact xH | apply xT); first | done | fail) rfl (fun w hw => ?_))
  refine rl_nil (g_le (xK (xS rfl (Fr.le_refl _))) ?_)
  refine g_seq ?_
  refine g_region ?_
  refine xV rfl rfl rfl (v_fieldAddr0 T.fld_23_6_6 rfl) ?_
  refine rl_k rfl (k_store hw T.scal_3 rfl rfl rfl (by (repeat first | with_reducible exact xH | apply xT); first | done | fail) rfl (by simp only [List.set, Int.reduceToNat, Nat.reduceMul, Nat.reduceAdd]; rfl) (fun w hw => ?_))
  refine rl_nil (g_le (xS rfl (Fr.le_refl _)) ?_)
  refine g_seq ?_
  refine g_drawR ord_f4_r3_P16H (by kernel_rfl) T.mixed hw (fun w hw => ?_)
  refine rs_a 1 rfl rfl rfl rfl (v_move rfl) ?_
  refine rs_v 0 rfl rfl rfl rfl (OpV.mono (v_loadAgg (vs := [_, _, _, _, _, _, _]) T.agg_23_7 rfl rfl) (fun w hw => by exact sat_cells hw (by (repeat first | with_reducible exact xH | apply xT); first | done | fail) ⟨rfl, rfl, rfl, rfl, rfl, rfl, rfl, trivial⟩)) (by exact hw) ?_
  refine rs_k 2 rfl rfl (k_callf Try.func7 rfl rfl rfl rfl ?_)
  refine Calls.mono (cut16_calls (by omega) hc1 (hw.xQ)) ?_
  rintro _ w ⟨rfl, hw⟩
  refine ⟨_, rfl, ?_⟩
  refine ⟨fun _ => (by exact hw), ?_⟩
  refine rs_k 3 rfl rfl (k_callf Try.func6 rfl rfl rfl rfl ?_)
  refine Calls.mono (madeBad_calls (q := { q with ca := 0 }) hq (by omega) (by omega) hd40 (by omega) (hw.xQ)) ?_
  rintro _ w ⟨rfl, hw⟩
  refine ⟨_, rfl, ?_⟩
  refine ⟨fun hn => absurd (by decide) hn, ?_⟩
  refine rs_kv 4 rfl rfl rfl rfl (S' := fun _ => True) trivial (v_assign rfl) ?_
  refine rs_done (g_le (xK (xS rfl (xS rfl (xS rfl (xS rfl (Fr.le_refl _)))))) ?_)
  refine g_seq (g_seq ?_)
  refine g_region ?_
  refine rl_v rfl rfl rfl (by exact sat_cells hw (by (repeat first | with_reducible exact xH | apply xT); first | done | fail) ⟨rfl, rfl, rfl, rfl, rfl, rfl, rfl, trivial⟩) (v_loadAgg (vs := [_, _, _, _, _, _, _]) T.agg_23_7 rfl rfl) ?_
  refine rl_k rfl (k_callf Try.func8 rfl rfl rfl rfl ?_)
  refine Calls.mono (rright_calls { q with ca := 0 } (hw.xQ)) ?_
  rintro _ w ⟨rfl, hw⟩
  refine ⟨_, rfl, ?_⟩
  refine xV rfl rfl rfl (v_not rfl) ?_
  refine rl_nil (g_le (xK (xS rfl (xS rfl (Fr.le_refl _)))) ?_)
  refine g_cond rfl (fun h1 => ?_) (fun h1 => ?_)
  · try with_reducible exact ft_elim h1
    all_goals
      try replace h1 := of_decide_eq_true h1
      refine g_seq ?_
      refine g_region ?_
      refine xV rfl rfl rfl (v_move rfl) ?_
      refine xV rfl rfl rfl (v_eqlNil T.ptr_26 rfl rfl) ?_
      refine xV rfl rfl rfl (v_assign rfl) ?_
      refine rl_nil (g_le (xK (xS rfl (xS rfl (Fr.le_refl _)))) ?_)
      refine g_ret1 Try.func4 rfl rfl ?_
      exact ⟨rfl, hw.xQ⟩
  · try with_reducible exact tf_elim h1
    all_goals
      try replace h1 := of_decide_eq_false h1
      exact absurd h1 (by simp [hq])
theorem ord_f4_r27_P16H : orderOfB Try.f4 27 [19] (.a 0 (.a 1 (.a 2 (.a 7 (.a 8 (.a 9 (.a 10 (.a 12 (.a 13 (.a 14 (.a 15 (.a 17 (.v 3 (.a 4 (.a 5 (.v 6 (.v 11 (.v 16 (.k 18 (.k 19 (.k 20 .done))))))))))))))))))))) = true := by kernel_rfl
theorem ord_f4_r35_P16H : orderOfB Try.f4 35 [] (.a 0 (.a 2 (.a 3 (.a 4 (.a 5 (.v 1 (.k 6 (.k 7 (.k 8 (.a 9 (.a 11 (.a 12 (.a 13 (.a 14 (.v 10 (.k 15 (.k 16 (.k 17 .done)))))))))))))))))) = true := by kernel_rfl
theorem ord_f4_r37_P16H : orderOfB Try.f4 37 [8] (.k 0 (.k 1 (.k 2 (.a 4 (.a 5 (.a 6 (.v 3 (.k 7 (.k 8 (.k 9 (.k 10 .done))))))))))) = true := by kernel_rfl
set_option maxHeartbeats 4000000 in
theorem PagesHarmed_good {W w : World} {q : Qt} {a1 a2 : Option Addr} {n1 c1 n2 c2 : Nat} {xs : List Int} {ns : List Nd} {n : Int} (hq : ({ q with ca := 0 } : Qt).ok) (hd : (rdSl 8 1 (rdInt .u64)) (hpOf W) [.slice a1 n1 c1] xs) (hn : (rdSl 56 3 rdNd) (hpOf W) [.slice a2 n2 c2] ns) (hw : Sat (envOf W) w [RO (hpOf W)]) :
    Calls Try.prog 4 #[q.v, .slice a1 n1 c1, .slice a2 n2 c2, .int .i64 n] w fun v w' => v = .returned (.bool true) ∧ Sat (envOf W) w' [RO (hpOf W)] := by
  obtain ⟨_, hb1, hc1, hm1, _⟩ := rdSl_get hd
  have hd40 := rdSl_take (min n1 40) hd (Nat.min_le_left ..)
  have hu64 := u64s_rd hd40
  have hl40 : (xs.take (min n1 40)).length ≤ 40 := by rw [List.length_take]; omega
  obtain ⟨rfl, hb2, hc2, hm2, gn⟩ := rdSl_get hn
  refine calls_of_g (n := 162) Try.func4 rfl rfl rfl ?_
  change G _ _ _ _ _ [(0, _), (1, _), (2, _), (3, _)] _
  refine g_seq ?_
  refine g_region ?_
  refine rl_k rfl (k_box hw rfl rfl rfl (fun bk0_0 w hw => ?_))
  refine xV rfl rfl rfl (v_assign rfl) ?_
  refine rl_nil (g_le (xK (xK (Fr.le_refl _))) ?_)
  refine g_seq ?_
  refine g_region ?_
  refine rl_v rfl rfl rfl (by exact sat_cells hw (by (repeat first | with_reducible exact xH | apply xT); first | done | fail) ⟨rfl, rfl, rfl, rfl, rfl, rfl, rfl, trivial⟩) (v_loadAgg (vs := [_, _, _, _, _, _, _]) T.agg_23_7 rfl rfl) ?_
  refine rl_k rfl (k_alloc hw T.zero_23 rfl rfl (fun bk1_1 w hw => ?_))
  refine rl_k rfl (k_storeWhole hw T.agg_23_7 rfl rfl (by simp [Value.oneCell']) rfl (by (repeat first | with_reducible exact xH | apply xT); first | done | fail) rfl (fun w hw => ?_))
  refine rl_nil (g_le (xK (xS rfl (Fr.le_refl _))) ?_)
  refine g_seq ?_
  refine g_region ?_
  refine xV rfl rfl rfl (v_fieldAddr0 T.fld_23_6_6 rfl) ?_
  refine rl_k rfl (k_store hw T.scal_3 rfl rfl rfl (by (repeat first | with_reducible exact xH | apply xT); first | done | fail) rfl (by simp only [List.set, Int.reduceToNat, Nat.reduceMul, Nat.reduceAdd]; rfl) (fun w hw => ?_))
  refine rl_nil (g_le (xS rfl (Fr.le_refl _)) ?_)
  refine g_seq ?_
  refine g_drawR ord_f4_r3_P16H (by kernel_rfl) T.mixed hw (fun w hw => ?_)
  refine rs_a 1 rfl rfl rfl rfl (v_move rfl) ?_
  refine rs_v 0 rfl rfl rfl rfl (OpV.mono (v_loadAgg (vs := [_, _, _, _, _, _, _]) T.agg_23_7 rfl rfl) (fun w hw => by exact sat_cells hw (by (repeat first | with_reducible exact xH | apply xT); first | done | fail) ⟨rfl, rfl, rfl, rfl, rfl, rfl, rfl, trivial⟩)) (by exact hw) ?_
  refine rs_k 2 rfl rfl (k_callf Try.func7 rfl rfl rfl rfl ?_)
  refine Calls.mono (cut16_calls (by omega) hc1 (hw.xQ)) ?_
  rintro _ w ⟨rfl, hw⟩
  refine ⟨_, rfl, ?_⟩
  refine ⟨fun _ => (by exact hw), ?_⟩
  refine rs_k 3 rfl rfl (k_callf Try.func6 rfl rfl rfl rfl ?_)
  refine Calls.mono (made_calls (q := { q with ca := 0 }) hq (by omega) (by omega) hd40 (by omega) (hw.xQ)) ?_
  rintro _ w ⟨pp, rfl, hw⟩
  refine ⟨_, rfl, ?_⟩
  refine ⟨fun hn => absurd (by decide) hn, ?_⟩
  refine rs_kv 4 rfl rfl rfl rfl (S' := fun _ => True) trivial (v_assign rfl) ?_
  refine rs_done (g_le (xK (xS rfl (xS rfl (xS rfl (xS rfl (Fr.le_refl _)))))) ?_)
  refine g_seq (g_seq ?_)
  refine g_region ?_
  refine rl_v rfl rfl rfl (by exact sat_cells hw (by (repeat first | with_reducible exact xH | apply xT); first | done | fail) ⟨rfl, rfl, rfl, rfl, rfl, rfl, rfl, trivial⟩) (v_loadAgg (vs := [_, _, _, _, _, _, _]) T.agg_23_7 rfl rfl) ?_
  refine rl_k rfl (k_callf Try.func8 rfl rfl rfl rfl ?_)
  refine Calls.mono (rright_calls { q with ca := 0 } (hw.xQ)) ?_
  rintro _ w ⟨rfl, hw⟩
  refine ⟨_, rfl, ?_⟩
  refine xV rfl rfl rfl (v_not rfl) ?_
  refine rl_nil (g_le (xK (xS rfl (xS rfl (Fr.le_refl _)))) ?_)
  refine g_cond rfl (fun h1 => ?_) (fun h1 => ?_)
  · try with_reducible exact ft_elim h1
    all_goals
      try replace h1 := of_decide_eq_true h1
      exact absurd hq (by simpa using h1)
  · try with_reducible exact tf_elim h1
    all_goals
      try replace h1 := of_decide_eq_false h1
      refine g_skip (g_seq (g_seq ?_))
      refine g_region ?_
      refine xV rfl rfl rfl (v_move rfl) ?_
      refine xV rfl rfl rfl (v_eqlNil T.ptr_26 rfl rfl) ?_
      refine rl_nil (g_le (xK (xS rfl (Fr.le_refl _))) ?_)
      refine g_cond rfl (fun h2 => ?_) (fun h2 => ?_)
      · try with_reducible exact ft_elim h2
        all_goals
          try replace h2 := of_decide_eq_true h2
          simp at h2
      · try with_reducible exact tf_elim h2
        all_goals
          try replace h2 := of_decide_eq_false h2
          refine g_skip (g_seq ?_)
          refine g_region ?_
          refine xV rfl rfl rfl (v_assign rfl) ?_
          refine rl_nil (g_le (xK (Fr.le_refl _)) ?_)
          refine g_seq ?_
          refine g_region ?_
          refine xV rfl rfl rfl (v_assign rfl) ?_
          refine rl_nil (g_le (xK (Fr.le_refl _)) ?_)
          refine g_seq (g_seq ?_)
          have I0 : PInv { q with ca := 0 } 11 0 (newS { q with ca := 0 } (12 : Int).toNat (xs.take (min n1 40))) := new_PInv hq (n := 12) (by omega) (by omega) hu64
          obtain ⟨S0, hS0⟩ : ∃ S0, S0 = newS { q with ca := 0 } (12 : Int).toNat (xs.take (min n1 40)) := ⟨_, rfl⟩
          have hp0 : S0.pw = ⟨false, 0, 0⟩ := by rw [hS0]; rfl
          have ht0 : S0.tk = 0 := by rw [hS0]; rfl
          have hr0 : S0.ch.room = 0 := by rw [hS0]; rfl
          have hc0 : S0.ch.l = [] := by rw [hS0]; rfl
          rw [← hS0] at I0 hw
          obtain ⟨q0, hq0⟩ : ∃ q0 : Qt, q0 = { q with ca := 0 } := ⟨_, rfl⟩
          rw [← hq0] at I0 hw hq
          refine g_region ?_
          refine xV rfl rfl rfl (v_move rfl) ?_
          refine xV rfl rfl rfl (v_lenSlice T.sl_25_48_3 rfl) ?_
          refine xV rfl rfl rfl (v_move rfl) ?_
          refine rl_nil (g_le (xK (xK (xK (Fr.le_refl _)))) ?_)
          refine g_block ?_
          refine g_loopC (σ := Nat × Nat × PS × List Rf × List Nd × Value × Value × List Value) (fun C x => (40, .int .i64 (x.1 : Nat)) :: (11, x.2.2.2.2.2.1) :: (12, x.2.2.2.2.2.2.1) :: C) [(3, _), (8, _), (10, _), (38, _), (39, _)] (by repeat (first | exact Fr.le_nil _ | refine Fr.le_cons rfl ?_)) (fun z w => z.1 ≤ ns.length ∧ z.1 ≤ 20 ∧ z.2.1 ≤ z.1 ∧ PInv q0 11 z.2.1 z.2.2.1 ∧ z.2.2.1.tk = z.2.1 ∧ z.2.2.1.ch.room = 0 ∧ (z.2.2.1.pw.off = false ∧ z.2.2.1.pw.ahead = 0) ∧ LdI q0 z.2.2.1 z.2.2.2.1 z.2.2.2.2.1 ∧ z.2.2.2.1.length = z.2.1 ∧ Els rdNd 3 (hpOf W) z.2.2.2.2.2.2.2 z.2.2.2.2.1 ∧ Sat (envOf W) w (PgA pp q0 z.2.2.1 :: OwnSl 51 4 z.2.2.2.2.2.1 z.2.2.2.1.length (z.2.2.2.1.flatMap Rf.cells) :: OwnSl 48 3 z.2.2.2.2.2.2.1 z.2.2.2.2.1.length z.2.2.2.2.2.2.2 :: RO (hpOf W) :: [])) (fun z => ns.length - z.1) ?_ (0, 0, _, [], [], .slice none 0 0, .slice none 0 0, []) (by repeat (first | exact Fr.le_nil _ | refine Fr.le_cons rfl ?_)) ⟨by simp, by simp, by simp, I0, ht0, hr0, by rw [hp0]; exact ⟨rfl, rfl⟩, .nil, rfl, Els.nil, by have h5 := (hw.own_nil 51 4).own_nil 48 3; exact (show Sat (envOf W) w (OwnSl 48 3 (.slice none 0 0) ([] : List Nd).length [] :: OwnSl 51 4 (.slice none 0 0) ([] : List Rf).length (([] : List Rf).flatMap Rf.cells) :: _) from h5).xQ⟩
          rintro ⟨i, m, S, wl, kl, wv, kv, kcs⟩ w ⟨hi1, hi2, hmi, I, htk, hrm, hpw, hld, hwm, hels, hw⟩ ih
          dsimp only at hi1 hi2 hmi I htk hrm hpw hld hwm hels hw ih ⊢
          have hkl := hld.len
          refine g_seq ?_
          refine g_region ?_
          refine xV rfl rfl rfl (v_lss rfl rfl) ?_
          refine rl_nil (g_le (xK (Fr.le_refl _)) ?_)
          refine g_seq ?_
          refine g_cond rfl (fun h3 => ?_) (fun h3 => ?_)
          · try with_reducible exact ft_elim h3
            all_goals
              try replace h3 := of_decide_eq_true h3
              refine g_skip (g_seq (g_block (g_seq ?_)))
              have hz := hw
              clear hw
              obtain ⟨b4, o1, x, ecs, rfl, hx, hat1, hl1, hrd⟩ := gn (i : Nat) (by omega) (by omega)
              rw [Int.toNat_natCast] at hx hat1
              obtain ⟨ea, en, ec, ka, kn, kc, rfl, hnd⟩ := nd_told hrd
              have hw := hz
              clear hz
              refine g_region ?_
              refine xV rfl rfl rfl (v_move rfl) ?_
              refine xV rfl rfl rfl (v_indexAddr T.sl_25_48_3 rfl rfl (by omega) (by omega)) ?_
              refine rl_v rfl rfl rfl (by exact ro_ats hw (by (repeat first | with_reducible exact xH | apply xT); first | done | fail) (by assumption)) (v_loadAgg (vs := [_, _, _]) T.agg_48_3 rfl rfl) ?_
              refine rl_k rfl (k_alloc hw T.zero_48 rfl rfl (fun bk12_3 w hw => ?_))
              refine xV rfl rfl rfl (v_assign rfl) ?_
              refine rl_k rfl (k_storeWhole hw T.agg_48_3 rfl rfl (by simp [Value.oneCell']) rfl (by (repeat first | with_reducible exact xH | apply xT); first | done | fail) rfl (fun w hw => ?_))
              refine rl_nil (g_le (xK (xK (xK (xK (xK (Fr.le_refl _)))))) ?_)
              refine g_seq (g_seq ?_)
              refine g_region ?_
              refine xV rfl rfl rfl (v_move rfl) ?_
              refine xV rfl rfl rfl (v_geq rfl rfl) ?_
              refine rl_nil (g_le (xK (xK (Fr.le_refl _))) ?_)
              refine g_cond rfl (fun h4 => ?_) (fun h4 => ?_)
              · try with_reducible exact ft_elim h4
                all_goals
                  try replace h4 := of_decide_eq_true h4
                  refine g_exit rfl (g_seq (g_seq ?_))
                  have hz := hw
                  clear hw
                  obtain ⟨wa, wc, rfl, hwc, _, hwa⟩ := (hz.xP (A := OwnSl 51 4 wv wl.length (wl.flatMap Rf.cells))).own_shape
                  obtain ⟨va, vc, rfl, hvc, _, hva⟩ := (hz.xP (A := OwnSl 48 3 kv kl.length kcs)).own_shape
                  have hw := hz
                  clear hz
                  refine g_region ?_
                  refine xV rfl rfl rfl (v_move rfl) ?_
                  refine xV rfl rfl rfl (v_lss rfl rfl) ?_
                  refine xV rfl rfl rfl (v_move rfl) ?_
                  refine rl_split (s := 66) rfl (fun g19_2 => ?_) (fun g19_2 => ?_)
                  · try with_reducible exact ft_elim g19_2
                    all_goals
                      try replace g19_2 := of_decide_eq_true g19_2
                      refine rl_off (met_off rfl rfl rfl rfl rfl) rfl rfl ?_
                      refine rl_off (met_off rfl rfl rfl rfl rfl) rfl rfl ?_
                      refine rl_off (met_off rfl rfl rfl rfl rfl) rfl rfl ?_
                      refine rl_off (met_off rfl rfl rfl rfl rfl) rfl rfl ?_
                      refine xV rfl rfl rfl (v_pick_true rfl rfl) ?_
                      refine rl_nil (g_le (xK (xS rfl (xS rfl (xS rfl (xS rfl (xS rfl (xS rfl (xS rfl (xS rfl (Fr.le_refl _)))))))))) ?_)
                      refine g_cond_true rfl ?_
                      refine g_seq ?_
                      refine g_region ?_
                      refine xV rfl rfl rfl (v_assign rfl) ?_
                      refine rl_nil (g_le (xK (Fr.le_refl _)) ?_)
                      refine g_ret1 Try.func4 rfl rfl ?_
                      exact ⟨rfl, hw.xQ⟩
                  · try with_reducible exact tf_elim g19_2
                    all_goals
                      try replace g19_2 := of_decide_eq_false g19_2
                      refine rl_vg (met_on rfl rfl rfl rfl) rfl rfl (S := fun _ => True) trivial (v_move rfl) ?_
                      refine rl_vg (met_on rfl rfl rfl rfl) rfl rfl (S := fun _ => True) trivial (v_move rfl) ?_
                      refine rl_vg (met_on rfl rfl rfl rfl) rfl rfl (S := fun _ => True) trivial (v_lenSlice T.sl_59_51_4 rfl) ?_
                      refine rl_vg (met_on rfl rfl rfl rfl) rfl rfl (S := fun _ => True) trivial (v_geq rfl rfl) ?_
                      refine xV rfl rfl rfl (v_pick_false rfl rfl) ?_
                      refine rl_nil (g_le (xK (xS rfl (xS rfl (xS rfl (xS rfl (xS rfl (xS rfl (xS rfl (xS rfl (Fr.le_refl _)))))))))) ?_)
                      refine g_cond rfl (fun h6 => ?_) (fun h6 => ?_)
                      · try with_reducible exact ft_elim h6
                        all_goals
                          try replace h6 := of_decide_eq_true h6
                          refine g_seq ?_
                          refine g_region ?_
                          refine xV rfl rfl rfl (v_assign rfl) ?_
                          refine rl_nil (g_le (xK (Fr.le_refl _)) ?_)
                          refine g_ret1 Try.func4 rfl rfl ?_
                          exact ⟨rfl, hw.xQ⟩
                      · try with_reducible exact tf_elim h6
                        all_goals
                          try replace h6 := of_decide_eq_false h6
                          refine g_skip (g_seq ?_)
                          have hz := hw
                          clear hw
                          obtain ⟨k, rfl⟩ : ∃ k : Nat, n = k := ⟨n.toNat, by omega⟩
                          obtain ⟨r, hr⟩ : ∃ r, wl[k]? = some r := ⟨_, List.getElem?_eq_getElem (by omega)⟩
                          obtain ⟨nk, hnk, hpa⟩ := hld.get hr
                          obtain ⟨hr1, hr2, hr3, hr4, hr5, hr6⟩ := id hpa.ref
                          have hsub := subAt_flat (f := Rf.cells) (sz := 4) (fun _ => rfl) hr
                          obtain ⟨wb, rfl⟩ := hwa (by omega)
                          obtain ⟨vb, rfl⟩ := hva (by omega)
                          have hw := hz
                          clear hz
                          refine g_region ?_
                          refine xV rfl rfl rfl (v_move rfl) ?_
                          refine xV rfl rfl rfl (v_move rfl) ?_
                          refine xV rfl rfl rfl (v_indexAddr T.sl_59_51_4 rfl rfl (by omega) (by omega)) ?_
                          refine xV rfl rfl rfl (v_fieldAddr T.fld_51_3_3 rfl) ?_
                          refine rl_v rfl rfl rfl (by exact own_at hw (by (repeat first | with_reducible exact xH | apply xT); first | done | fail) (by assumption) rfl) (v_load T.scal_3 rfl) ?_
                          refine rl_k rfl (k_makeSlice hw T.sl_60_5_1 T.zero_5 T.bytes_5_1 rfl rfl (by omega) (by omega) (by omega) (by omega) rfl (fun bk21_5 w hw => ?_))
                          refine xV rfl rfl rfl (v_assign rfl) ?_
                          refine rl_nil (g_le (xK (xS rfl (xS rfl (xS rfl (xS rfl (xS rfl (xS rfl (Fr.le_refl _)))))))) ?_)
                          refine g_seq (g_seq ?_)
                          rw [made_one _ rfl _ _ (Nat.le_refl _)] at hw
                          refine g_region ?_
                          refine xV rfl rfl rfl (v_move rfl) ?_
                          refine xV rfl rfl rfl (v_lenSlice T.sl_60_5_1 rfl) ?_
                          refine xV rfl rfl rfl (v_move rfl) ?_
                          refine rl_nil (g_le (xK (xK (xS rfl (Fr.le_refl _)))) ?_)
                          refine g_block ?_
                          refine g_loopC (σ := Nat) (fun C x => (80, .int .i64 (x : Nat)) :: C) [(3, _), (8, _), (10, _), (11, _), (12, _), (17, _), (79, _)] (by repeat (first | exact Fr.le_nil _ | refine Fr.le_cons rfl ?_)) (fun z w => z ≤ r.len.toNat ∧ Sat (envOf W) w (OwnSl 5 1 (.slice (some ⟨bk21_5, 0, none⟩) r.len.toNat r.len.toNat) r.len.toNat (strCells (ffs r.len.toNat z)) :: PgA pp q0 S :: OwnSl 51 4 (.slice (some ⟨wb, 0, none⟩) wl.length wc) wl.length (wl.flatMap Rf.cells) :: OwnSl 48 3 (.slice (some ⟨vb, 0, none⟩) kl.length vc) kl.length kcs :: RO (hpOf W) :: [])) (fun z => r.len.toNat - z) ?_ 0 (by repeat (first | exact Fr.le_nil _ | refine Fr.le_cons rfl ?_)) ⟨by simp, by rw [ffs_cells, List.replicate_zero, List.nil_append, Nat.sub_zero]; exact hw.xQ⟩
                          rintro j w ⟨hj, hw⟩ ih
                          refine g_seq ?_
                          refine g_region ?_
                          refine xV rfl rfl rfl (v_lss rfl rfl) ?_
                          refine rl_nil (g_le (xK (Fr.le_refl _)) ?_)
                          refine g_seq ?_
                          refine g_cond rfl (fun h7 => ?_) (fun h7 => ?_)
                          · try with_reducible exact ft_elim h7
                            all_goals
                              try replace h7 := of_decide_eq_true h7
                              refine g_skip (g_seq (g_block (g_seq ?_)))
                              refine g_region ?_
                              refine xV rfl rfl rfl (v_move rfl) ?_
                              refine xV rfl rfl rfl (v_assign rfl) ?_
                              refine rl_nil (g_le (xK (xK (Fr.le_refl _))) ?_)
                              have hj9 : 0 + (j : Int).toNat * 1 < (strCells (ffs r.len.toNat j)).length := by rw [ffs_cells]; simp; omega
                              refine g_region ?_
                              refine xV rfl rfl rfl (v_move rfl) ?_
                              refine xV rfl rfl rfl (v_move rfl) ?_
                              refine xV rfl rfl rfl (v_indexAddr T.sl_60_5_1 rfl rfl (by omega) (by omega)) ?_
                              refine rl_k rfl (k_storeOwn hw T.scal_5 rfl rfl rfl (by (repeat first | with_reducible exact xH | apply xT); first | done | fail) (by assumption) (fun w hw => ?_))
                              refine rl_nil (g_le (xK (xK (xK (Fr.le_refl _)))) ?_)
                              refine g_inBlock ?_
                              refine g_region ?_
                              refine xV rfl rfl rfl (v_add rfl rfl (by omega)) ?_
                              refine xV rfl rfl rfl (v_move rfl) ?_
                              refine rl_nil (g_le (xK (xK (Fr.le_refl _))) ?_)
                              rw [show 0 + (j : Int).toNat * 1 = j by omega, ffs_set (by omega)] at hw
                              exact g_le (by repeat (first | exact Fr.le_nil _ | refine Fr.le_cons rfl ?_)) (ih (j + 1) w ⟨by omega, hw.xQ⟩ (by omega))
                          · try with_reducible exact tf_elim h7
                            all_goals
                              try replace h7 := of_decide_eq_false h7
                              refine g_exit rfl (g_seq (g_seq ?_))
                              obtain rfl : j = r.len.toNat := by omega
                              have hok := I.ok (by omega) (by omega)
                              have hok2 := over_ok hpa hok (by have := I.past; omega)
                              have hch : S.ch.l = [] := List.eq_nil_of_length_eq_zero (by have := I.chr.2.2; omega)
                              obtain ⟨c, hrd, hcl, hcr⟩ := rd_none (q := q0) (S := S.over r) hpa.ref hch hrm
                              rw [over_raw hpa] at hrd
                              obtain ⟨pa, gc, hpe, hw⟩ := pg_open (hw.xP (A := PgA pp q0 S))
                              have hw := (hw.xP (A := PwAt pa.p S.pw)).xP (A := MdAt pa.m pa.p S.md)
                              have hfs := ffs_size (Nat.le_refl r.len.toNat)
                              have hw : Sat (envOf W) w (MdAt pa.m pa.p S.md :: PwAt pa.p S.pw :: OwnSl 5 1 (.slice (some ⟨bk21_5, 0, none⟩) (ffs r.len.toNat r.len.toNat).size r.len.toNat) (ffs r.len.toNat r.len.toNat).size (strCells (ffs r.len.toNat r.len.toNat)) :: PgsAt pp pa.l pa.c pa.d q0 :: pt pa.l (.cells [Value.pointer (some ⟨pa.m, 0, none⟩), .int .i64 S.o, .slice (some ⟨pa.b, 0, none⟩) (S.ss : List Sg).length pa.k].toArray 39 (0, 0)) :: OwnSl 108 3 (.slice (some ⟨pa.b, 0, none⟩) (S.ss).length pa.k) (S.ss).length ((S.ss).flatMap Sg.cells) :: pt pa.c (.cells [Value.int .i64 (S.ch : Ch).room, pa.lv, .int .i64 (S.ch : Ch).hits, .int .i64 (S.ch : Ch).misses].toArray 104 (0, 0)) :: OwnSl 119 8 pa.lv (S.ch : Ch).l.length pa.cells :: pt pa.d (.cells [pa.dv, .int .i64 ((S.tk : Nat) : Int)].toArray 89 (0, 0)) :: OwnSl 49 1 pa.dv (S.list : List Int).length ((S.list).map (Value.int .u64)) :: OwnSl 51 4 (.slice (some ⟨wb, 0, none⟩) wl.length wc) wl.length (wl.flatMap Rf.cells) :: OwnSl 48 3 (.slice (some ⟨vb, 0, none⟩) kl.length vc) kl.length kcs :: RO gc :: RO (hpOf W) :: []) := by rw [hfs]; exact hw.xQ
                              rw [show (.slice (some ⟨bk21_5, 0, none⟩) r.len.toNat r.len.toNat : Value) = .slice (some ⟨bk21_5, 0, none⟩) (ffs r.len.toNat r.len.toNat).size r.len.toNat by rw [hfs]]
                              refine g_drawB ord_f4_r27_P16H (by kernel_rfl) T.mixed (fun w hw => ((hw.pick .at0).drop.pick .at0).drop) hw (fun w hw => ?_)
                              refine rs_a 0 rfl rfl rfl rfl (v_move rfl) ?_
                              refine rs_a 1 rfl rfl rfl rfl (v_nilCheck rfl) ?_
                              refine rs_a 2 rfl rfl rfl rfl (v_fieldAddr0 T.fld_35_0_0 rfl) ?_
                              refine rs_a 7 rfl rfl rfl rfl (v_move rfl) ?_
                              refine rs_a 8 rfl rfl rfl rfl (v_move rfl) ?_
                              refine rs_a 9 rfl rfl rfl rfl (v_indexAddr T.sl_59_51_4 rfl rfl (by omega) (by omega)) ?_
                              refine rs_a 10 rfl rfl rfl rfl (v_fieldAddr T.fld_51_1_1 rfl) ?_
                              refine rs_a 12 rfl rfl rfl rfl (v_move rfl) ?_
                              refine rs_a 13 rfl rfl rfl rfl (v_move rfl) ?_
                              refine rs_a 14 rfl rfl rfl rfl (v_indexAddr T.sl_59_51_4 rfl rfl (by omega) (by omega)) ?_
                              refine rs_a 15 rfl rfl rfl rfl (v_fieldAddr T.fld_51_2_2 rfl) ?_
                              refine rs_a 17 rfl rfl rfl rfl (v_move rfl) ?_
                              refine rs_v 3 rfl rfl rfl rfl (OpV.mono (v_load T.scal_31 rfl) (fun w hw => by exact sat_cell hw (by (repeat first | with_reducible exact xH | apply xT); first | done | fail) rfl)) (by exact Sat.sub hw (by (repeat (first | with_reducible exact Sub.refl _ | exact Sub.nil _ | (apply Sub.cons; focus ((repeat (first | with_reducible exact Pick.here _ | apply Pick.there)); (first | done | fail))) | with_reducible apply Sub.drop)); first | done | fail)) ?_
                              refine rs_a 4 rfl rfl rfl rfl (v_nilCheck rfl) ?_
                              refine rs_a 5 rfl rfl rfl rfl (v_fieldAddr0 T.fld_39_0_0 rfl) ?_
                              refine rs_v 6 rfl rfl rfl rfl (OpV.mono (v_load T.scal_36 rfl) (fun w hw => by exact sat_cell hw (by (repeat first | with_reducible exact xH | apply xT); first | done | fail) rfl)) (by exact Sat.sub hw (by (repeat (first | with_reducible exact Sub.refl _ | exact Sub.nil _ | (apply Sub.cons; focus ((repeat (first | with_reducible exact Pick.here _ | apply Pick.there)); (first | done | fail))) | with_reducible apply Sub.drop)); first | done | fail)) ?_
                              refine rs_v 11 rfl rfl rfl rfl (OpV.mono (v_load T.scal_3 rfl) (fun w hw => by exact own_at hw (by (repeat first | with_reducible exact xH | apply xT); first | done | fail) (by assumption) rfl)) (by exact Sat.sub hw (by (repeat (first | with_reducible exact Sub.refl _ | exact Sub.nil _ | (apply Sub.cons; focus ((repeat (first | with_reducible exact Pick.here _ | apply Pick.there)); (first | done | fail))) | with_reducible apply Sub.drop)); first | done | fail)) ?_
                              refine rs_v 16 rfl rfl rfl rfl (OpV.mono (v_load T.scal_3 rfl) (fun w hw => by exact own_at hw (by (repeat first | with_reducible exact xH | apply xT); first | done | fail) (by assumption) rfl)) (by exact Sat.sub hw (by (repeat (first | with_reducible exact Sub.refl _ | exact Sub.nil _ | (apply Sub.cons; focus ((repeat (first | with_reducible exact Pick.here _ | apply Pick.there)); (first | done | fail))) | with_reducible apply Sub.drop)); first | done | fail)) ?_
                              refine rs_kv 18 rfl rfl rfl rfl (by exact own_bytes_all hw (by (repeat first | with_reducible exact xH | apply xT); first | done | fail)) (v_convBytes T.sl_60_5_1 T.u8_5 T.str_9 rfl) ?_
                              refine rs_k 19 rfl rfl (k_callf Try.func15 rfl rfl rfl rfl ?_)
                              refine Calls.mono (mwrite_calls pa.m pa.p S.md S.pw r.seg r.off (ffs r.len.toNat r.len.toNat) I.pw (by have := I.past; omega) hw) ?_
                              rw [over_write hpa I.lg.ok hpw.1]
                              rintro _ w ⟨rfl, hw⟩
                              refine ⟨_, rfl, ?_⟩
                              refine ⟨fun hn => absurd (by decide) hn, ?_⟩
                              refine rs_kv 20 rfl rfl rfl rfl (S' := fun _ => True) trivial (v_neqF rfl rfl (by omega)) ?_
                              refine rs_done (g_le (xK (xS rfl (xS rfl (xS rfl (xS rfl (xS rfl (xS rfl (xS rfl (xS rfl (xS rfl (xS rfl (xS rfl (xS rfl (xS rfl (xS rfl (xS rfl (xS rfl (xS rfl (xS rfl (xS rfl (xS rfl (Fr.le_refl _)))))))))))))))))))))) ?_)
                              refine g_cond rfl (fun h8 => ?_) (fun h8 => ?_)
                              · try with_reducible exact ft_elim h8
                                all_goals
                                  try replace h8 := of_decide_eq_true h8
                                  refine g_seq ?_
                                  refine g_region ?_
                                  refine xV rfl rfl rfl (v_assign rfl) ?_
                                  refine rl_nil (g_le (xK (Fr.le_refl _)) ?_)
                                  refine g_ret1 Try.func4 rfl rfl ?_
                                  exact ⟨rfl, hw⟩
                              · try with_reducible exact tf_elim h8
                                all_goals
                                  try replace h8 := of_decide_eq_false h8
                                  refine g_skip (g_seq ?_)
                                  have hw := pg_close (S := S.over r) (q := q0) (pp := pp) (L := OwnSl 51 4 (.slice (some ⟨wb, 0, none⟩) wl.length wc) wl.length (wl.flatMap Rf.cells) :: OwnSl 48 3 (.slice (some ⟨vb, 0, none⟩) kl.length vc) kl.length kcs :: RO (hpOf W) :: []) pa hpe (by dsimp only [PS.over] at hw ⊢; exact hw.xQ)
                                  refine g_region ?_
                                  refine xV rfl rfl rfl (v_move rfl) ?_
                                  refine xV rfl rfl rfl (v_move rfl) ?_
                                  refine xV rfl rfl rfl (v_move rfl) ?_
                                  refine xV rfl rfl rfl (v_indexAddr T.sl_59_51_4 rfl rfl (by omega) (by omega)) ?_
                                  refine rl_v rfl rfl rfl (by exact own_cells hw (by (repeat first | with_reducible exact xH | apply xT); first | done | fail) (by assumption)) (v_loadAgg (vs := [_, _, _, _]) T.agg_51_4 rfl rfl) ?_
                                  refine rl_k rfl (k_callf Try.func16 rfl rfl rfl rfl ?_)
                                  refine Calls.mono (pread_calls (q := q0) hok2 r hpa.ok (hw.xQ)) ?_
                                  rw [hrd]
                                  dsimp only
                                  rintro _ w ⟨ea, ec, ka, kc, vs, rfl, hfi, hw⟩
                                  refine ⟨_, rfl, ?_⟩
                                  refine xV rfl rfl rfl (v_move rfl) ?_
                                  refine xV rfl rfl rfl (v_extract rfl rfl) ?_
                                  refine xV rfl rfl rfl (v_extract rfl rfl) ?_
                                  refine rl_k rfl (k_alloc hw T.zero_48 rfl rfl (fun bk29_9 w hw => ?_))
                                  refine rl_k rfl (k_storeWhole hw T.agg_48_3 rfl rfl (by simp [Value.oneCell']) rfl (by (repeat first | with_reducible exact xH | apply xT); first | done | fail) rfl (fun w hw => ?_))
                                  refine xV rfl rfl rfl (v_assign rfl) ?_
                                  refine rl_nil (g_le (xK (xS rfl (xS rfl (xS rfl (xS rfl (xS rfl (xS rfl (xS rfl (xS rfl (xS rfl (xS rfl (Fr.le_refl _)))))))))))) ?_)
                                  refine g_seq (g_seq ?_)
                                  refine g_region ?_
                                  refine xV rfl rfl rfl (v_move rfl) ?_
                                  refine xV rfl rfl rfl (v_neqF rfl rfl (by omega)) ?_
                                  refine rl_nil (g_le (xK (xS rfl (Fr.le_refl _))) ?_)
                                  refine g_cond rfl (fun h9 => ?_) (fun h9 => ?_)
                                  · try with_reducible exact ft_elim h9
                                    all_goals
                                      try replace h9 := of_decide_eq_true h9
                                      refine g_seq ?_
                                      refine g_region ?_
                                      refine xV rfl rfl rfl (v_assign rfl) ?_
                                      refine rl_nil (g_le (xK (Fr.le_refl _)) ?_)
                                      refine g_ret1 Try.func4 rfl rfl ?_
                                      exact ⟨rfl, hw⟩
                                  · try with_reducible exact tf_elim h9
                                    all_goals
                                      try replace h9 := of_decide_eq_false h9
                                      refine g_skip (g_seq (g_seq ?_))
                                      refine g_region ?_
                                      refine xV rfl rfl rfl (v_move rfl) ?_
                                      refine xV rfl rfl rfl (v_lenSlice T.sl_59_51_4 rfl) ?_
                                      refine xV rfl rfl rfl (v_move rfl) ?_
                                      refine rl_nil (g_le (xK (xK (xK (Fr.le_refl _)))) ?_)
                                      refine g_block ?_
                                      refine g_loopC (σ := Nat × Ch × Hp) (fun C x => (121, .int .i64 (x.1 : Nat)) :: C) [(3, _), (8, _), (10, _), (11, _), (12, _), (119, _), (120, _)] (by repeat (first | exact Fr.le_nil _ | refine Fr.le_cons rfl ?_)) (fun z w => z.1 ≤ wl.length ∧ z.2.1.l = [] ∧ z.2.1.room = 0 ∧ (hpOf W).le z.2.2 ∧ Sat (envOf W) w (PgA pp q0 ((S.over r).got z.2.1) :: OwnSl 51 4 (.slice (some ⟨wb, 0, none⟩) wl.length wc) wl.length (wl.flatMap Rf.cells) :: OwnSl 48 3 (.slice (some ⟨vb, 0, none⟩) kl.length vc) kl.length kcs :: RO z.2.2 :: [])) (fun z => wl.length - z.1) ?_ (0, c, hpOf W) (by repeat (first | exact Fr.le_nil _ | refine Fr.le_cons rfl ?_)) ⟨by simp, hcl, hcr, Hp.le_refl _, hw.xQ⟩
                                      rintro ⟨j, c3, g3⟩ w ⟨hj, hcl3, hcr3, hg3, hw⟩ ih
                                      dsimp only at hj hcl3 hcr3 hg3 hw ih ⊢
                                      refine g_seq ?_
                                      refine g_region ?_
                                      refine xV rfl rfl rfl (v_lss rfl rfl) ?_
                                      refine rl_nil (g_le (xK (Fr.le_refl _)) ?_)
                                      refine g_seq ?_
                                      refine g_cond rfl (fun h10 => ?_) (fun h10 => ?_)
                                      · try with_reducible exact ft_elim h10
                                        all_goals
                                          try replace h10 := of_decide_eq_true h10
                                          refine g_skip (g_seq (g_block (g_seq ?_)))
                                          have hz := hw
                                          clear hw
                                          obtain ⟨rj, hrj⟩ : ∃ x, wl[j]? = some x := ⟨_, List.getElem?_eq_getElem (by omega)⟩
                                          obtain ⟨nj, hnj, hpj⟩ := hld.get hrj
                                          have hsubj := subAt_flat (f := Rf.cells) (sz := 4) (fun _ => rfl) hrj
                                          have hndj := (hels.at hnj).1
                                          have hsubk := subAt_of (show (kcs.drop (j * 3)).take 3 = _ from rfl)
                                          obtain ⟨qe1, qe2, qe3, qk1, qk2, qk3, hqq, hndj⟩ := nd_told hndj
                                          rw [hqq] at hsubk
                                          have hw := hz
                                          clear hz
                                          refine g_region ?_
                                          refine xV rfl rfl rfl (v_move rfl) ?_
                                          refine xV rfl rfl rfl (v_indexAddr T.sl_59_51_4 rfl rfl (by omega) (by omega)) ?_
                                          refine rl_v rfl rfl rfl (by exact own_cells hw (by (repeat first | with_reducible exact xH | apply xT); first | done | fail) (by assumption)) (v_loadAgg (vs := [_, _, _, _]) T.agg_51_4 rfl rfl) ?_
                                          refine rl_k rfl (k_alloc hw T.zero_51 rfl rfl (fun bk34_3 w hw => ?_))
                                          refine xV rfl rfl rfl (v_assign rfl) ?_
                                          refine rl_k rfl (k_storeWhole hw T.agg_51_4 rfl rfl (by simp [Value.oneCell']) rfl (by (repeat first | with_reducible exact xH | apply xT); first | done | fail) rfl (fun w hw => ?_))
                                          refine rl_nil (g_le (xK (xK (xK (xK (xK (Fr.le_refl _)))))) ?_)
                                          refine g_seq (g_seq ?_)
                                          refine g_drawR ord_f4_r35_P16H (by kernel_rfl) T.mixed hw (fun w hw => ?_)
                                          refine rs_a 0 rfl rfl rfl rfl (v_fieldAddr0 T.fld_51_1_1 rfl) ?_
                                          refine rs_a 2 rfl rfl rfl rfl (v_move rfl) ?_
                                          refine rs_a 3 rfl rfl rfl rfl (v_move rfl) ?_
                                          refine rs_a 4 rfl rfl rfl rfl (v_indexAddr T.sl_59_51_4 rfl rfl (by omega) (by omega)) ?_
                                          refine rs_a 5 rfl rfl rfl rfl (v_fieldAddr T.fld_51_1_1 rfl) ?_
                                          refine rs_v 1 rfl rfl rfl rfl (OpV.mono (v_load T.scal_3 rfl) (fun w hw => by exact sat_cell hw (by (repeat first | with_reducible exact xH | apply xT); first | done | fail) rfl)) (by exact hw) ?_
                                          refine rs_kv 6 rfl rfl rfl rfl (by exact own_at hw (by (repeat first | with_reducible exact xH | apply xT); first | done | fail) (by assumption) rfl) (v_load T.scal_3 rfl) ?_
                                          refine rs_kv 7 rfl rfl rfl rfl (S' := fun _ => True) trivial (v_eql rfl rfl) ?_
                                          refine rs_kv 8 rfl rfl rfl rfl (S' := fun _ => True) trivial (v_move rfl) ?_
                                          refine rs_split (s := 134) rfl (fun g35_8 => ?_) (fun g35_8 => ?_)
                                          · try with_reducible exact ft_elim g35_8
                                            all_goals
                                              try replace g35_8 := of_decide_eq_true g35_8
                                              refine rs_ag 9 rfl (met_on rfl rfl rfl rfl) rfl rfl (v_fieldAddr0 T.fld_51_2_2 rfl) ?_
                                              refine rs_ag 11 rfl (met_on rfl rfl rfl rfl) rfl rfl (v_move rfl) ?_
                                              refine rs_ag 12 rfl (met_on rfl rfl rfl rfl) rfl rfl (v_move rfl) ?_
                                              refine rs_ag 13 rfl (met_on rfl rfl rfl rfl) rfl rfl (v_indexAddr T.sl_59_51_4 rfl rfl (by omega) (by omega)) ?_
                                              refine rs_ag 14 rfl (met_on rfl rfl rfl rfl) rfl rfl (v_fieldAddr T.fld_51_2_2 rfl) ?_
                                              refine rs_vg 10 rfl (met_on rfl rfl rfl rfl) rfl rfl (OpV.mono (v_load T.scal_3 rfl) (fun w hw => by exact sat_cell hw (by (repeat first | with_reducible exact xH | apply xT); first | done | fail) rfl)) (by exact hw) ?_
                                              refine rs_kvg 15 rfl (met_on rfl rfl rfl rfl) rfl rfl (by exact own_at hw (by (repeat first | with_reducible exact xH | apply xT); first | done | fail) (by assumption) rfl) (v_load T.scal_3 rfl) ?_
                                              refine rs_kvg 16 rfl (met_on rfl rfl rfl rfl) rfl rfl (S' := fun _ => True) trivial (v_geq rfl rfl) ?_
                                              refine rs_kv 17 rfl rfl rfl rfl (S' := fun _ => True) trivial (v_pick_true rfl rfl) ?_
                                              refine rs_done (g_le (xK (xK (xK (xK (xK (xK (xK (xK (xK (xK (xK (xK (xK (xK (xK (xK (xK (xK (xK (Fr.le_refl _)))))))))))))))))))) ?_)
                                              refine g_cond rfl (fun h11 => ?_) (fun h11 => ?_)
                                              · try with_reducible exact ft_elim h11
                                                all_goals
                                                  try replace h11 := of_decide_eq_true h11
                                                  refine g_exit rfl ?_
                                                  refine g_region ?_
                                                  refine xV rfl rfl rfl (v_add rfl rfl (by omega)) ?_
                                                  refine xV rfl rfl rfl (v_move rfl) ?_
                                                  refine rl_nil (g_le (xK (xK (Fr.le_refl _))) ?_)
                                                  exact g_le (by repeat (first | exact Fr.le_nil _ | refine Fr.le_cons rfl ?_)) (ih (j + 1, c3, g3) w ⟨by simp only; omega, hcl3, hcr3, hg3, hw.xQ⟩ (by simp only; omega))
                                              · try with_reducible exact tf_elim h11
                                                all_goals
                                                  try replace h11 := of_decide_eq_false h11
                                                  refine g_skip (g_seq ?_)
                                                  have hah : rj.seg = r.seg → rj.off + rj.len ≤ r.off := hld.ahead hrj hr (by intro he; simp [he] at *; omega)
                                                  have hpo := over_keep hpa hpj hah
                                                  obtain ⟨c4, hrd4, hcl4, hcr4⟩ := rd_none (q := q0) (S := (S.over r).got c3) hpj.ref hcl3 hcr3
                                                  rw [show ((S.over r).got c3).raw q0 rj = (nj, 0) from hpo.raw, show ((S.over r).got c3).got c4 = (S.over r).got c4 from rfl] at hrd4
                                                  refine g_region ?_
                                                  refine xV rfl rfl rfl (v_move rfl) ?_
                                                  refine rl_v rfl rfl rfl (by exact sat_cells hw (by (repeat first | with_reducible exact xH | apply xT); first | done | fail) ⟨rfl, rfl, rfl, rfl, trivial⟩) (v_loadAgg (vs := [_, _, _, _]) T.agg_51_4 rfl rfl) ?_
                                                  refine rl_k rfl (k_callf Try.func16 rfl rfl rfl rfl ?_)
                                                  refine Calls.mono (pread_calls (q := q0) (got_ok hok2 hcl3) rj hpj.ok (hw.xQ)) ?_
                                                  rw [hrd4]
                                                  dsimp only
                                                  rintro _ w ⟨ea, ec, ka, kc, vs, rfl, hfi, hw⟩
                                                  refine ⟨_, rfl, ?_⟩
                                                  refine xV rfl rfl rfl (v_move rfl) ?_
                                                  refine xV rfl rfl rfl (v_extract rfl rfl) ?_
                                                  refine xV rfl rfl rfl (v_extract rfl rfl) ?_
                                                  refine rl_k rfl (k_alloc hw T.zero_48 rfl rfl (fun bk36_6 w hw => ?_))
                                                  refine rl_k rfl (k_storeWhole hw T.agg_48_3 rfl rfl (by simp [Value.oneCell']) rfl (by (repeat first | with_reducible exact xH | apply xT); first | done | fail) rfl (fun w hw => ?_))
                                                  refine xV rfl rfl rfl (v_assign rfl) ?_
                                                  refine rl_nil (g_le (xK (xK (xK (xK (xK (xK (xK (xK (Fr.le_refl _))))))))) ?_)
                                                  refine g_seq ?_
                                                  obtain ⟨g4, hg4, hnd4, hw⟩ := nd_freeze (g := g3) (ev := .slice ea nj.entries.length ec) (kv := .slice ka nj.kids.length kc) (vs := vs) hfi (hw.xQ : Sat (envOf W) w (RO g3 :: OwnSl 126 2 (.slice ea nj.entries.length ec) (nj).entries.length (enCells (nj).entries vs) :: eachOf VnsOf vs (nj).entries :: KdsAt (.slice ka nj.kids.length kc) (nj).kids :: pt bk36_6 (.cells [Value.bool nj.leaf, .slice ea nj.entries.length ec, .slice ka nj.kids.length kc].toArray 48 (0, 0)) :: PgA pp q0 ((S.over r).got c4) :: OwnSl 51 4 (.slice (some ⟨wb, 0, none⟩) wl.length wc) wl.length (wl.flatMap Rf.cells) :: OwnSl 48 3 (.slice (some ⟨vb, 0, none⟩) kl.length vc) kl.length kcs :: []))
                                                  refine g_drawR ord_f4_r37_P16H (by kernel_rfl) T.mixed hw (fun w hw => ?_)
                                                  refine rs_kv 0 rfl rfl rfl rfl (S' := fun _ => True) trivial (v_move rfl) ?_
                                                  refine rs_kv 1 rfl rfl rfl rfl (S' := fun _ => True) trivial (v_neqF rfl rfl (by omega)) ?_
                                                  refine rs_kv 2 rfl rfl rfl rfl (S' := fun _ => True) trivial (v_move rfl) ?_
                                                  refine rs_split (s := 152) rfl (fun g37_2 => ?_) (fun g37_2 => ?_)
                                                  · try with_reducible exact ft_elim g37_2
                                                    all_goals
                                                      try replace g37_2 := of_decide_eq_true g37_2
                                                      refine rs_aoff 4 rfl (met_off rfl rfl rfl rfl rfl) rfl rfl ?_
                                                      refine rs_aoff 5 rfl (met_off rfl rfl rfl rfl rfl) rfl rfl ?_
                                                      refine rs_aoff 6 rfl (met_off rfl rfl rfl rfl rfl) rfl rfl ?_
                                                      refine rs_voff 3 rfl (met_off rfl rfl rfl rfl rfl) rfl rfl (by first | exact hw | exact Sat.sub hw (by (repeat (first | with_reducible exact Sub.refl _ | exact Sub.nil _ | (apply Sub.cons; focus ((repeat (first | with_reducible exact Pick.here _ | apply Pick.there)); (first | done | fail))) | with_reducible apply Sub.drop)); first | done | fail)) ?_
                                                      refine rs_koff 7 rfl (met_off rfl rfl rfl rfl rfl) rfl rfl ?_
                                                      refine rs_koff 8 rfl (met_off rfl rfl rfl rfl rfl) rfl rfl ?_
                                                      refine rs_koff 9 rfl (met_off rfl rfl rfl rfl rfl) rfl rfl ?_
                                                      first | (refine rs_kv 10 rfl rfl rfl rfl (S' := fun _ => True) trivial (v_pick_true rfl rfl) ?_) | (refine rs_kv 10 rfl rfl rfl rfl (S' := fun _ => True) trivial (v_pick_false rfl rfl) ?_) | (refine rs_kv 10 rfl rfl rfl rfl (S' := fun _ => True) trivial (v_pick rfl rfl rfl) ?_)
                                                      refine rs_done (g_le (xK (xK (xK (xK (xK (xK (xK (xK (xK (xK (xK (xK (Fr.le_refl _))))))))))))) ?_)
                                                      refine g_cond_true rfl ?_
                                                      refine g_seq ?_
                                                      refine g_region ?_
                                                      refine xV rfl rfl rfl (v_assign rfl) ?_
                                                      refine rl_nil (g_le (xK (Fr.le_refl _)) ?_)
                                                      refine g_ret1 Try.func4 rfl rfl ?_
                                                      exact ⟨rfl, hw⟩
                                                  · try with_reducible exact tf_elim g37_2
                                                    all_goals
                                                      try replace g37_2 := of_decide_eq_false g37_2
                                                      refine rs_ag 4 rfl (met_on rfl rfl rfl rfl) rfl rfl (v_move rfl) ?_
                                                      refine rs_ag 5 rfl (met_on rfl rfl rfl rfl) rfl rfl (v_move rfl) ?_
                                                      refine rs_ag 6 rfl (met_on rfl rfl rfl rfl) rfl rfl (v_indexAddr T.sl_25_48_3 rfl rfl (by omega) (by omega)) ?_
                                                      refine rs_vg 3 rfl (met_on rfl rfl rfl rfl) rfl rfl (OpV.mono (v_loadAgg (vs := [_, _, _]) T.agg_48_3 rfl rfl) (fun w hw => by exact sat_cells hw (by (repeat first | with_reducible exact xH | apply xT); first | done | fail) ⟨rfl, rfl, rfl, trivial⟩)) (by exact hw) ?_
                                                      refine rs_kvg 7 rfl (met_on rfl rfl rfl rfl) rfl rfl (by exact own_cells hw (by (repeat first | with_reducible exact xH | apply xT); first | done | fail) (by assumption)) (v_loadAgg (vs := [_, _, _]) T.agg_48_3 rfl rfl) ?_
                                                      refine rs_kg 8 rfl (met_on rfl rfl rfl rfl) (k_callf Try.func17 rfl rfl rfl rfl ?_)
                                                      refine Calls.mono (likeNd_calls hnd4 (mono_Nd (hg3.trans hg4) hndj) hw) ?_
                                                      rw [decide_eq_true rfl]
                                                      rintro _ w ⟨rfl, hw⟩
                                                      refine ⟨_, rfl, ?_⟩
                                                      refine ⟨fun hn => absurd (by decide) hn, ?_⟩
                                                      refine rs_kvg 9 rfl (met_on rfl rfl rfl rfl) rfl rfl (S' := fun _ => True) trivial (v_not rfl) ?_
                                                      refine rs_kv 10 rfl rfl rfl rfl (S' := fun _ => True) trivial (v_pick_false rfl rfl) ?_
                                                      refine rs_done (g_le (xK (xK (xK (xK (xK (xK (xK (xK (xK (xK (xK (xK (Fr.le_refl _))))))))))))) ?_)
                                                      refine g_cond rfl (fun h12 => ?_) (fun h12 => ?_)
                                                      · try with_reducible exact ft_elim h12
                                                        all_goals
                                                          try replace h12 := of_decide_eq_true h12
                                                          simp at h12
                                                      · try with_reducible exact tf_elim h12
                                                        all_goals
                                                          try replace h12 := of_decide_eq_false h12
                                                          refine g_skip (g_inBlock ?_)
                                                          refine g_region ?_
                                                          refine xV rfl rfl rfl (v_add rfl rfl (by omega)) ?_
                                                          refine xV rfl rfl rfl (v_move rfl) ?_
                                                          refine rl_nil (g_le (xK (xK (Fr.le_refl _))) ?_)
                                                          exact g_le (by repeat (first | exact Fr.le_nil _ | refine Fr.le_cons rfl ?_)) (ih (j + 1, c4, g4) w ⟨by simp only; omega, hcl4, hcr4, hg3.trans hg4, hw.xQ⟩ (by simp only; omega))
                                          · try with_reducible exact tf_elim g35_8
                                            all_goals
                                              try replace g35_8 := of_decide_eq_false g35_8
                                              refine rs_aoff 9 rfl (met_off rfl rfl rfl rfl rfl) rfl rfl ?_
                                              refine rs_aoff 11 rfl (met_off rfl rfl rfl rfl rfl) rfl rfl ?_
                                              refine rs_aoff 12 rfl (met_off rfl rfl rfl rfl rfl) rfl rfl ?_
                                              refine rs_aoff 13 rfl (met_off rfl rfl rfl rfl rfl) rfl rfl ?_
                                              refine rs_aoff 14 rfl (met_off rfl rfl rfl rfl rfl) rfl rfl ?_
                                              refine rs_voff 10 rfl (met_off rfl rfl rfl rfl rfl) rfl rfl (by exact hw) ?_
                                              refine rs_koff 15 rfl (met_off rfl rfl rfl rfl rfl) rfl rfl ?_
                                              refine rs_koff 16 rfl (met_off rfl rfl rfl rfl rfl) rfl rfl ?_
                                              refine rs_kv 17 rfl rfl rfl rfl (S' := fun _ => True) trivial (v_pick_false rfl rfl) ?_
                                              refine rs_done (g_le (xK (xK (xK (xK (xK (xK (xK (xK (xK (xK (xK (xK (xK (xK (xK (xK (xK (xK (xK (Fr.le_refl _)))))))))))))))))))) ?_)
                                              refine g_cond_false rfl ?_
                                              refine g_skip (g_seq ?_)
                                              have hah : rj.seg = r.seg → rj.off + rj.len ≤ r.off := hld.ahead hrj hr (by intro he; exact absurd he (by simpa using g35_8))
                                              have hpo := over_keep hpa hpj hah
                                              obtain ⟨c4, hrd4, hcl4, hcr4⟩ := rd_none (q := q0) (S := (S.over r).got c3) hpj.ref hcl3 hcr3
                                              rw [show ((S.over r).got c3).raw q0 rj = (nj, 0) from hpo.raw, show ((S.over r).got c3).got c4 = (S.over r).got c4 from rfl] at hrd4
                                              refine g_region ?_
                                              refine xV rfl rfl rfl (v_move rfl) ?_
                                              refine rl_v rfl rfl rfl (by exact sat_cells hw (by (repeat first | with_reducible exact xH | apply xT); first | done | fail) ⟨rfl, rfl, rfl, rfl, trivial⟩) (v_loadAgg (vs := [_, _, _, _]) T.agg_51_4 rfl rfl) ?_
                                              refine rl_k rfl (k_callf Try.func16 rfl rfl rfl rfl ?_)
                                              refine Calls.mono (pread_calls (q := q0) (got_ok hok2 hcl3) rj hpj.ok (hw.xQ)) ?_
                                              rw [hrd4]
                                              dsimp only
                                              rintro _ w ⟨ea, ec, ka, kc, vs, rfl, hfi, hw⟩
                                              refine ⟨_, rfl, ?_⟩
                                              refine xV rfl rfl rfl (v_move rfl) ?_
                                              refine xV rfl rfl rfl (v_extract rfl rfl) ?_
                                              refine xV rfl rfl rfl (v_extract rfl rfl) ?_
                                              refine rl_k rfl (k_alloc hw T.zero_48 rfl rfl (fun bk36_6 w hw => ?_))
                                              refine rl_k rfl (k_storeWhole hw T.agg_48_3 rfl rfl (by simp [Value.oneCell']) rfl (by (repeat first | with_reducible exact xH | apply xT); first | done | fail) rfl (fun w hw => ?_))
                                              refine xV rfl rfl rfl (v_assign rfl) ?_
                                              refine rl_nil (g_le (xK (xK (xK (xK (xK (xK (xK (xK (Fr.le_refl _))))))))) ?_)
                                              refine g_seq ?_
                                              obtain ⟨g4, hg4, hnd4, hw⟩ := nd_freeze (g := g3) (ev := .slice ea nj.entries.length ec) (kv := .slice ka nj.kids.length kc) (vs := vs) hfi (hw.xQ : Sat (envOf W) w (RO g3 :: OwnSl 126 2 (.slice ea nj.entries.length ec) (nj).entries.length (enCells (nj).entries vs) :: eachOf VnsOf vs (nj).entries :: KdsAt (.slice ka nj.kids.length kc) (nj).kids :: pt bk36_6 (.cells [Value.bool nj.leaf, .slice ea nj.entries.length ec, .slice ka nj.kids.length kc].toArray 48 (0, 0)) :: PgA pp q0 ((S.over r).got c4) :: OwnSl 51 4 (.slice (some ⟨wb, 0, none⟩) wl.length wc) wl.length (wl.flatMap Rf.cells) :: OwnSl 48 3 (.slice (some ⟨vb, 0, none⟩) kl.length vc) kl.length kcs :: []))
                                              refine g_drawR ord_f4_r37_P16H (by kernel_rfl) T.mixed hw (fun w hw => ?_)
                                              refine rs_kv 0 rfl rfl rfl rfl (S' := fun _ => True) trivial (v_move rfl) ?_
                                              refine rs_kv 1 rfl rfl rfl rfl (S' := fun _ => True) trivial (v_neqF rfl rfl (by omega)) ?_
                                              refine rs_kv 2 rfl rfl rfl rfl (S' := fun _ => True) trivial (v_move rfl) ?_
                                              refine rs_split (s := 152) rfl (fun g37_2 => ?_) (fun g37_2 => ?_)
                                              · try with_reducible exact ft_elim g37_2
                                                all_goals
                                                  try replace g37_2 := of_decide_eq_true g37_2
                                                  refine rs_aoff 4 rfl (met_off rfl rfl rfl rfl rfl) rfl rfl ?_
                                                  refine rs_aoff 5 rfl (met_off rfl rfl rfl rfl rfl) rfl rfl ?_
                                                  refine rs_aoff 6 rfl (met_off rfl rfl rfl rfl rfl) rfl rfl ?_
                                                  refine rs_voff 3 rfl (met_off rfl rfl rfl rfl rfl) rfl rfl (by first | exact hw | exact Sat.sub hw (by (repeat (first | with_reducible exact Sub.refl _ | exact Sub.nil _ | (apply Sub.cons; focus ((repeat (first | with_reducible exact Pick.here _ | apply Pick.there)); (first | done | fail))) | with_reducible apply Sub.drop)); first | done | fail)) ?_
                                                  refine rs_koff 7 rfl (met_off rfl rfl rfl rfl rfl) rfl rfl ?_
                                                  refine rs_koff 8 rfl (met_off rfl rfl rfl rfl rfl) rfl rfl ?_
                                                  refine rs_koff 9 rfl (met_off rfl rfl rfl rfl rfl) rfl rfl ?_
                                                  first | (refine rs_kv 10 rfl rfl rfl rfl (S' := fun _ => True) trivial (v_pick_true rfl rfl) ?_) | (refine rs_kv 10 rfl rfl rfl rfl (S' := fun _ => True) trivial (v_pick_false rfl rfl) ?_) | (refine rs_kv 10 rfl rfl rfl rfl (S' := fun _ => True) trivial (v_pick rfl rfl rfl) ?_)
                                                  refine rs_done (g_le (xK (xK (xK (xK (xK (xK (xK (xK (xK (xK (xK (xK (Fr.le_refl _))))))))))))) ?_)
                                                  refine g_cond_true rfl ?_
                                                  refine g_seq ?_
                                                  refine g_region ?_
                                                  refine xV rfl rfl rfl (v_assign rfl) ?_
                                                  refine rl_nil (g_le (xK (Fr.le_refl _)) ?_)
                                                  refine g_ret1 Try.func4 rfl rfl ?_
                                                  exact ⟨rfl, hw⟩
                                              · try with_reducible exact tf_elim g37_2
                                                all_goals
                                                  try replace g37_2 := of_decide_eq_false g37_2
                                                  refine rs_ag 4 rfl (met_on rfl rfl rfl rfl) rfl rfl (v_move rfl) ?_
                                                  refine rs_ag 5 rfl (met_on rfl rfl rfl rfl) rfl rfl (v_move rfl) ?_
                                                  refine rs_ag 6 rfl (met_on rfl rfl rfl rfl) rfl rfl (v_indexAddr T.sl_25_48_3 rfl rfl (by omega) (by omega)) ?_
                                                  refine rs_vg 3 rfl (met_on rfl rfl rfl rfl) rfl rfl (OpV.mono (v_loadAgg (vs := [_, _, _]) T.agg_48_3 rfl rfl) (fun w hw => by exact sat_cells hw (by (repeat first | with_reducible exact xH | apply xT); first | done | fail) ⟨rfl, rfl, rfl, trivial⟩)) (by exact hw) ?_
                                                  refine rs_kvg 7 rfl (met_on rfl rfl rfl rfl) rfl rfl (by exact own_cells hw (by (repeat first | with_reducible exact xH | apply xT); first | done | fail) (by assumption)) (v_loadAgg (vs := [_, _, _]) T.agg_48_3 rfl rfl) ?_
                                                  refine rs_kg 8 rfl (met_on rfl rfl rfl rfl) (k_callf Try.func17 rfl rfl rfl rfl ?_)
                                                  refine Calls.mono (likeNd_calls hnd4 (mono_Nd (hg3.trans hg4) hndj) hw) ?_
                                                  rw [decide_eq_true rfl]
                                                  rintro _ w ⟨rfl, hw⟩
                                                  refine ⟨_, rfl, ?_⟩
                                                  refine ⟨fun hn => absurd (by decide) hn, ?_⟩
                                                  refine rs_kvg 9 rfl (met_on rfl rfl rfl rfl) rfl rfl (S' := fun _ => True) trivial (v_not rfl) ?_
                                                  refine rs_kv 10 rfl rfl rfl rfl (S' := fun _ => True) trivial (v_pick_false rfl rfl) ?_
                                                  refine rs_done (g_le (xK (xK (xK (xK (xK (xK (xK (xK (xK (xK (xK (xK (Fr.le_refl _))))))))))))) ?_)
                                                  refine g_cond rfl (fun h12 => ?_) (fun h12 => ?_)
                                                  · try with_reducible exact ft_elim h12
                                                    all_goals
                                                      try replace h12 := of_decide_eq_true h12
                                                      simp at h12
                                                  · try with_reducible exact tf_elim h12
                                                    all_goals
                                                      try replace h12 := of_decide_eq_false h12
                                                      refine g_skip (g_inBlock ?_)
                                                      refine g_region ?_
                                                      refine xV rfl rfl rfl (v_add rfl rfl (by omega)) ?_
                                                      refine xV rfl rfl rfl (v_move rfl) ?_
                                                      refine rl_nil (g_le (xK (xK (Fr.le_refl _))) ?_)
                                                      exact g_le (by repeat (first | exact Fr.le_nil _ | refine Fr.le_cons rfl ?_)) (ih (j + 1, c4, g4) w ⟨by simp only; omega, hcl4, hcr4, hg3.trans hg4, hw.xQ⟩ (by simp only; omega))
                                      · try with_reducible exact tf_elim h10
                                        all_goals
                                          try replace h10 := of_decide_eq_false h10
                                          refine g_exit rfl (g_seq ?_)
                                          refine g_region ?_
                                          refine xV rfl rfl rfl (v_assign rfl) ?_
                                          refine rl_nil (g_le (xK (Fr.le_refl _)) ?_)
                                          refine g_ret1 Try.func4 rfl rfl ?_
                                          exact ⟨rfl, (hw.xQ : Sat (envOf W) w [RO g3]).shrink hg3⟩
              · try with_reducible exact tf_elim h4
                all_goals
                  try replace h4 := of_decide_eq_false h4
                  refine g_skip (g_seq ?_)
                  refine g_region ?_
                  refine xV rfl rfl rfl (v_move rfl) ?_
                  refine rl_v rfl rfl rfl (by exact sat_cells hw (by (repeat first | with_reducible exact xH | apply xT); first | done | fail) ⟨rfl, rfl, rfl, trivial⟩) (v_loadAgg (vs := [_, _, _]) T.agg_48_3 rfl rfl) ?_
                  refine rl_k rfl (k_callf Try.func10 rfl rfl rfl rfl ?_)
                  refine Calls.mono (pwrite_calls (q := q0) (I.ok (by omega) (by omega)) hnd (hw.xQ)) ?_
                  generalize hwr : S.wr q0 x = r9
                  obtain ⟨rr, ee, S2⟩ := r9
                  dsimp only
                  rintro _ w ⟨rfl, hw⟩
                  refine ⟨_, rfl, ?_⟩
                  refine xV rfl rfl rfl (v_move rfl) ?_
                  refine xV rfl rfl rfl (v_extract rfl rfl) ?_
                  refine xV rfl rfl rfl (v_extract rfl rfl) ?_
                  refine rl_k rfl (k_alloc hw T.zero_51 rfl rfl (fun bk14_6 w hw => ?_))
                  refine rl_k rfl (k_storeWhole hw T.agg_51_4 rfl rfl (by simp [Value.oneCell']) rfl (by (repeat first | with_reducible exact xH | apply xT); first | done | fail) rfl (fun w hw => ?_))
                  refine xV rfl rfl rfl (v_assign rfl) ?_
                  refine rl_nil (g_le (xK (xK (xK (xK (xK (xK (xK (xK (Fr.le_refl _))))))))) ?_)
                  refine g_seq ?_
                  have hcs := wr_laid hq I (by omega) htk hpw hld (keys_rd hnd) hwr
                  refine g_region ?_
                  refine xV rfl rfl rfl (v_move rfl) ?_
                  refine xV rfl rfl rfl (v_eql rfl rfl) ?_
                  refine rl_nil (g_le (xK (xK (Fr.le_refl _))) ?_)
                  refine g_cond rfl (fun h5 => ?_) (fun h5 => ?_)
                  · try with_reducible exact ft_elim h5
                    all_goals
                      try replace h5 := of_decide_eq_true h5
                      obtain ⟨_, I2, ht2, hp2, hr2, hld2, _⟩ := hcs.resolve_right fun h => h.1 h5
                      refine g_seq ?_
                      have hz := hw
                      clear hw
                      obtain ⟨wa, wc, rfl, hwc, _, _⟩ := (hz.xP (A := OwnSl 51 4 wv wl.length (wl.flatMap Rf.cells))).own_shape
                      obtain ⟨va, vc, rfl, hvc, _, _⟩ := (hz.xP (A := OwnSl 48 3 kv kl.length kcs)).own_shape
                      have hw := hz
                      clear hz
                      have hlen : (wl.flatMap Rf.cells).length = wl.length * 4 := rfs_len wl
                      refine g_region ?_
                      refine xV rfl rfl rfl (v_move rfl) ?_
                      refine rl_v rfl rfl rfl (by exact sat_cells hw (by (repeat first | with_reducible exact xH | apply xT); first | done | fail) ⟨rfl, rfl, rfl, rfl, trivial⟩) (v_loadAgg (vs := [_, _, _, _]) T.agg_51_4 rfl rfl) ?_
                      refine rl_k rfl (k_buildSlice (cells := [_, _, _, _]) hw T.sl_59_51_4 T.zero_51 rfl rfl rfl rfl rfl rfl (fun bk16_2 w hw => ?_))
                      refine rl_k rfl (k_append (news := [_, _, _, _]) hw T.sl_59_51_4 T.zero_51 T.bytes_51_32 rfl (by decide) rfl rfl (by (repeat first | with_reducible exact xH | apply xT); first | done | fail) rfl (by exact sat_cells hw (by (repeat first | with_reducible exact xH | apply xT); first | done | fail) ⟨rfl, rfl, rfl, rfl, trivial⟩) (by simp [Value.oneCell']) (by omega) (by simp only [maxLen]; omega) rfl (fun vv16_3 w hw hnil => ?_))
                      refine xV rfl rfl rfl (v_assign rfl) ?_
                      refine rl_nil (g_le (xK (xK (xK (xK (xK (Fr.le_refl _)))))) ?_)
                      have hlen := hels.len
                      have hone := hels.ones one_Nd
                      refine g_region ?_
                      refine xV rfl rfl rfl (v_move rfl) ?_
                      refine rl_v rfl rfl rfl (by exact sat_cells hw (by (repeat first | with_reducible exact xH | apply xT); first | done | fail) ⟨rfl, rfl, rfl, trivial⟩) (v_loadAgg (vs := [_, _, _]) T.agg_48_3 rfl rfl) ?_
                      refine rl_k rfl (k_buildSlice (cells := [_, _, _]) hw T.sl_25_48_3 T.zero_48 rfl rfl rfl rfl rfl rfl (fun bk17_2 w hw => ?_))
                      refine rl_k rfl (k_append (news := [_, _, _]) hw T.sl_25_48_3 T.zero_48 T.bytes_48_56 rfl (by decide) rfl rfl (by (repeat first | with_reducible exact xH | apply xT); first | done | fail) rfl (by exact sat_cells hw (by (repeat first | with_reducible exact xH | apply xT); first | done | fail) ⟨rfl, rfl, rfl, trivial⟩) (by simp [Value.oneCell']) (by omega) (by simp only [maxLen]; omega) rfl (fun vv17_3 w hw hnil => ?_))
                      refine xV rfl rfl rfl (v_assign rfl) ?_
                      refine rl_nil (g_le (xK (xK (xK (xK (xK (Fr.le_refl _)))))) ?_)
                      refine g_inBlock ?_
                      refine g_region ?_
                      refine xV rfl rfl rfl (v_add rfl rfl (by omega)) ?_
                      refine xV rfl rfl rfl (v_move rfl) ?_
                      refine rl_nil (g_le (xK (xK (Fr.le_refl _))) ?_)
                      exact g_le (by repeat (first | exact Fr.le_nil _ | refine Fr.le_cons rfl ?_)) (ih (i + 1, m + 1, S2, wl ++ [rr], kl ++ [x], vv16_3, vv17_3, kcs ++ [.bool x.leaf, .slice ea en ec, .slice ka kn kc]) w ⟨by simp only; omega, by simp only; omega, by simp only; omega, I2, ht2, by simp only; omega, hp2, hld2, by simp [hwm], hels.snoc rfl hnd, by dsimp only; rw [List.length_append, List.length_append, List.flatMap_append]; exact (hw.xQ : Sat (envOf W) w (PgA pp q0 S2 :: OwnSl 51 4 vv16_3 (wl.length + 1) (wl.flatMap Rf.cells ++ rr.cells) :: OwnSl 48 3 vv17_3 (kl.length + 1) (kcs ++ [.bool x.leaf, .slice ea en ec, .slice ka kn kc]) :: RO (hpOf W) :: []))⟩ (by simp only; omega))
                  · try with_reducible exact tf_elim h5
                    all_goals
                      try replace h5 := of_decide_eq_false h5
                      have hz := hw
                      clear hw
                      obtain ⟨_, rfl⟩ := hcs.resolve_left fun h => h5 h.1
                      have hw := hz
                      clear hz
                      refine g_skip (g_inBlock ?_)
                      refine g_region ?_
                      refine xV rfl rfl rfl (v_add rfl rfl (by omega)) ?_
                      refine xV rfl rfl rfl (v_move rfl) ?_
                      refine rl_nil (g_le (xK (xK (Fr.le_refl _))) ?_)
                      exact g_le (by repeat (first | exact Fr.le_nil _ | refine Fr.le_cons rfl ?_)) (ih (i + 1, m, S2, wl, kl, wv, kv, kcs) w ⟨by simp only; omega, by simp only; omega, by simp only; omega, I, htk, hrm, hpw, hld, hwm, hels, hw.xQ⟩ (by simp only; omega))
          · try with_reducible exact tf_elim h3
            all_goals
              try replace h3 := of_decide_eq_false h3
              refine g_exit rfl (g_seq (g_seq ?_))
              have hz := hw
              clear hw
              obtain ⟨wa, wc, rfl, hwc, _, hwa⟩ := (hz.xP (A := OwnSl 51 4 wv wl.length (wl.flatMap Rf.cells))).own_shape
              obtain ⟨va, vc, rfl, hvc, _, hva⟩ := (hz.xP (A := OwnSl 48 3 kv kl.length kcs)).own_shape
              have hw := hz
              clear hz
              refine g_region ?_
              refine xV rfl rfl rfl (v_move rfl) ?_
              refine xV rfl rfl rfl (v_lss rfl rfl) ?_
              refine xV rfl rfl rfl (v_move rfl) ?_
              refine rl_split (s := 66) rfl (fun g19_2 => ?_) (fun g19_2 => ?_)
              · try with_reducible exact ft_elim g19_2
                all_goals
                  try replace g19_2 := of_decide_eq_true g19_2
                  refine rl_off (met_off rfl rfl rfl rfl rfl) rfl rfl ?_
                  refine rl_off (met_off rfl rfl rfl rfl rfl) rfl rfl ?_
                  refine rl_off (met_off rfl rfl rfl rfl rfl) rfl rfl ?_
                  refine rl_off (met_off rfl rfl rfl rfl rfl) rfl rfl ?_
                  refine xV rfl rfl rfl (v_pick_true rfl rfl) ?_
                  refine rl_nil (g_le (xK (xS rfl (xS rfl (xS rfl (xS rfl (xS rfl (xS rfl (xS rfl (xS rfl (Fr.le_refl _)))))))))) ?_)
                  refine g_cond_true rfl ?_
                  refine g_seq ?_
                  refine g_region ?_
                  refine xV rfl rfl rfl (v_assign rfl) ?_
                  refine rl_nil (g_le (xK (Fr.le_refl _)) ?_)
                  refine g_ret1 Try.func4 rfl rfl ?_
                  exact ⟨rfl, hw.xQ⟩
              · try with_reducible exact tf_elim g19_2
                all_goals
                  try replace g19_2 := of_decide_eq_false g19_2
                  refine rl_vg (met_on rfl rfl rfl rfl) rfl rfl (S := fun _ => True) trivial (v_move rfl) ?_
                  refine rl_vg (met_on rfl rfl rfl rfl) rfl rfl (S := fun _ => True) trivial (v_move rfl) ?_
                  refine rl_vg (met_on rfl rfl rfl rfl) rfl rfl (S := fun _ => True) trivial (v_lenSlice T.sl_59_51_4 rfl) ?_
                  refine rl_vg (met_on rfl rfl rfl rfl) rfl rfl (S := fun _ => True) trivial (v_geq rfl rfl) ?_
                  refine xV rfl rfl rfl (v_pick_false rfl rfl) ?_
                  refine rl_nil (g_le (xK (xS rfl (xS rfl (xS rfl (xS rfl (xS rfl (xS rfl (xS rfl (xS rfl (Fr.le_refl _)))))))))) ?_)
                  refine g_cond rfl (fun h6 => ?_) (fun h6 => ?_)
                  · try with_reducible exact ft_elim h6
                    all_goals
                      try replace h6 := of_decide_eq_true h6
                      refine g_seq ?_
                      refine g_region ?_
                      refine xV rfl rfl rfl (v_assign rfl) ?_
                      refine rl_nil (g_le (xK (Fr.le_refl _)) ?_)
                      refine g_ret1 Try.func4 rfl rfl ?_
                      exact ⟨rfl, hw.xQ⟩
                  · try with_reducible exact tf_elim h6
                    all_goals
                      try replace h6 := of_decide_eq_false h6
                      refine g_skip (g_seq ?_)
                      have hz := hw
                      clear hw
                      obtain ⟨k, rfl⟩ : ∃ k : Nat, n = k := ⟨n.toNat, by omega⟩
                      obtain ⟨r, hr⟩ : ∃ r, wl[k]? = some r := ⟨_, List.getElem?_eq_getElem (by omega)⟩
                      obtain ⟨nk, hnk, hpa⟩ := hld.get hr
                      obtain ⟨hr1, hr2, hr3, hr4, hr5, hr6⟩ := id hpa.ref
                      have hsub := subAt_flat (f := Rf.cells) (sz := 4) (fun _ => rfl) hr
                      obtain ⟨wb, rfl⟩ := hwa (by omega)
                      obtain ⟨vb, rfl⟩ := hva (by omega)
                      have hw := hz
                      clear hz
                      refine g_region ?_
                      refine xV rfl rfl rfl (v_move rfl) ?_
                      refine xV rfl rfl rfl (v_move rfl) ?_
                      refine xV rfl rfl rfl (v_indexAddr T.sl_59_51_4 rfl rfl (by omega) (by omega)) ?_
                      refine xV rfl rfl rfl (v_fieldAddr T.fld_51_3_3 rfl) ?_
                      refine rl_v rfl rfl rfl (by exact own_at hw (by (repeat first | with_reducible exact xH | apply xT); first | done | fail) (by assumption) rfl) (v_load T.scal_3 rfl) ?_
                      refine rl_k rfl (k_makeSlice hw T.sl_60_5_1 T.zero_5 T.bytes_5_1 rfl rfl (by omega) (by omega) (by omega) (by omega) rfl (fun bk21_5 w hw => ?_))
                      refine xV rfl rfl rfl (v_assign rfl) ?_
                      refine rl_nil (g_le (xK (xS rfl (xS rfl (xS rfl (xS rfl (xS rfl (xS rfl (Fr.le_refl _)))))))) ?_)
                      refine g_seq (g_seq ?_)
                      rw [made_one _ rfl _ _ (Nat.le_refl _)] at hw
                      refine g_region ?_
                      refine xV rfl rfl rfl (v_move rfl) ?_
                      refine xV rfl rfl rfl (v_lenSlice T.sl_60_5_1 rfl) ?_
                      refine xV rfl rfl rfl (v_move rfl) ?_
                      refine rl_nil (g_le (xK (xK (xS rfl (Fr.le_refl _)))) ?_)
                      refine g_block ?_
                      refine g_loopC (σ := Nat) (fun C x => (80, .int .i64 (x : Nat)) :: C) [(3, _), (8, _), (10, _), (11, _), (12, _), (17, _), (79, _)] (by repeat (first | exact Fr.le_nil _ | refine Fr.le_cons rfl ?_)) (fun z w => z ≤ r.len.toNat ∧ Sat (envOf W) w (OwnSl 5 1 (.slice (some ⟨bk21_5, 0, none⟩) r.len.toNat r.len.toNat) r.len.toNat (strCells (ffs r.len.toNat z)) :: PgA pp q0 S :: OwnSl 51 4 (.slice (some ⟨wb, 0, none⟩) wl.length wc) wl.length (wl.flatMap Rf.cells) :: OwnSl 48 3 (.slice (some ⟨vb, 0, none⟩) kl.length vc) kl.length kcs :: RO (hpOf W) :: [])) (fun z => r.len.toNat - z) ?_ 0 (by repeat (first | exact Fr.le_nil _ | refine Fr.le_cons rfl ?_)) ⟨by simp, by rw [ffs_cells, List.replicate_zero, List.nil_append, Nat.sub_zero]; exact hw.xQ⟩
                      rintro j w ⟨hj, hw⟩ ih
                      refine g_seq ?_
                      refine g_region ?_
                      refine xV rfl rfl rfl (v_lss rfl rfl) ?_
                      refine rl_nil (g_le (xK (Fr.le_refl _)) ?_)
                      refine g_seq ?_
                      refine g_cond rfl (fun h7 => ?_) (fun h7 => ?_)
                      · try with_reducible exact ft_elim h7
                        all_goals
                          try replace h7 := of_decide_eq_true h7
                          refine g_skip (g_seq (g_block (g_seq ?_)))
                          refine g_region ?_
                          refine xV rfl rfl rfl (v_move rfl) ?_
                          refine xV rfl rfl rfl (v_assign rfl) ?_
                          refine rl_nil (g_le (xK (xK (Fr.le_refl _))) ?_)
                          have hj9 : 0 + (j : Int).toNat * 1 < (strCells (ffs r.len.toNat j)).length := by rw [ffs_cells]; simp; omega
                          refine g_region ?_
                          refine xV rfl rfl rfl (v_move rfl) ?_
                          refine xV rfl rfl rfl (v_move rfl) ?_
                          refine xV rfl rfl rfl (v_indexAddr T.sl_60_5_1 rfl rfl (by omega) (by omega)) ?_
                          refine rl_k rfl (k_storeOwn hw T.scal_5 rfl rfl rfl (by (repeat first | with_reducible exact xH | apply xT); first | done | fail) (by assumption) (fun w hw => ?_))
                          refine rl_nil (g_le (xK (xK (xK (Fr.le_refl _)))) ?_)
                          refine g_inBlock ?_
                          refine g_region ?_
                          refine xV rfl rfl rfl (v_add rfl rfl (by omega)) ?_
                          refine xV rfl rfl rfl (v_move rfl) ?_
                          refine rl_nil (g_le (xK (xK (Fr.le_refl _))) ?_)
                          rw [show 0 + (j : Int).toNat * 1 = j by omega, ffs_set (by omega)] at hw
                          exact g_le (by repeat (first | exact Fr.le_nil _ | refine Fr.le_cons rfl ?_)) (ih (j + 1) w ⟨by omega, hw.xQ⟩ (by omega))
                      · try with_reducible exact tf_elim h7
                        all_goals
                          try replace h7 := of_decide_eq_false h7
                          refine g_exit rfl (g_seq (g_seq ?_))
                          obtain rfl : j = r.len.toNat := by omega
                          have hok := I.ok (by omega) (by omega)
                          have hok2 := over_ok hpa hok (by have := I.past; omega)
                          have hch : S.ch.l = [] := List.eq_nil_of_length_eq_zero (by have := I.chr.2.2; omega)
                          obtain ⟨c, hrd, hcl, hcr⟩ := rd_none (q := q0) (S := S.over r) hpa.ref hch hrm
                          rw [over_raw hpa] at hrd
                          obtain ⟨pa, gc, hpe, hw⟩ := pg_open (hw.xP (A := PgA pp q0 S))
                          have hw := (hw.xP (A := PwAt pa.p S.pw)).xP (A := MdAt pa.m pa.p S.md)
                          have hfs := ffs_size (Nat.le_refl r.len.toNat)
                          have hw : Sat (envOf W) w (MdAt pa.m pa.p S.md :: PwAt pa.p S.pw :: OwnSl 5 1 (.slice (some ⟨bk21_5, 0, none⟩) (ffs r.len.toNat r.len.toNat).size r.len.toNat) (ffs r.len.toNat r.len.toNat).size (strCells (ffs r.len.toNat r.len.toNat)) :: PgsAt pp pa.l pa.c pa.d q0 :: pt pa.l (.cells [Value.pointer (some ⟨pa.m, 0, none⟩), .int .i64 S.o, .slice (some ⟨pa.b, 0, none⟩) (S.ss : List Sg).length pa.k].toArray 39 (0, 0)) :: OwnSl 108 3 (.slice (some ⟨pa.b, 0, none⟩) (S.ss).length pa.k) (S.ss).length ((S.ss).flatMap Sg.cells) :: pt pa.c (.cells [Value.int .i64 (S.ch : Ch).room, pa.lv, .int .i64 (S.ch : Ch).hits, .int .i64 (S.ch : Ch).misses].toArray 104 (0, 0)) :: OwnSl 119 8 pa.lv (S.ch : Ch).l.length pa.cells :: pt pa.d (.cells [pa.dv, .int .i64 ((S.tk : Nat) : Int)].toArray 89 (0, 0)) :: OwnSl 49 1 pa.dv (S.list : List Int).length ((S.list).map (Value.int .u64)) :: OwnSl 51 4 (.slice (some ⟨wb, 0, none⟩) wl.length wc) wl.length (wl.flatMap Rf.cells) :: OwnSl 48 3 (.slice (some ⟨vb, 0, none⟩) kl.length vc) kl.length kcs :: RO gc :: RO (hpOf W) :: []) := by rw [hfs]; exact hw.xQ
                          rw [show (.slice (some ⟨bk21_5, 0, none⟩) r.len.toNat r.len.toNat : Value) = .slice (some ⟨bk21_5, 0, none⟩) (ffs r.len.toNat r.len.toNat).size r.len.toNat by rw [hfs]]
                          refine g_drawB ord_f4_r27_P16H (by kernel_rfl) T.mixed (fun w hw => ((hw.pick .at0).drop.pick .at0).drop) hw (fun w hw => ?_)
                          refine rs_a 0 rfl rfl rfl rfl (v_move rfl) ?_
                          refine rs_a 1 rfl rfl rfl rfl (v_nilCheck rfl) ?_
                          refine rs_a 2 rfl rfl rfl rfl (v_fieldAddr0 T.fld_35_0_0 rfl) ?_
                          refine rs_a 7 rfl rfl rfl rfl (v_move rfl) ?_
                          refine rs_a 8 rfl rfl rfl rfl (v_move rfl) ?_
                          refine rs_a 9 rfl rfl rfl rfl (v_indexAddr T.sl_59_51_4 rfl rfl (by omega) (by omega)) ?_
                          refine rs_a 10 rfl rfl rfl rfl (v_fieldAddr T.fld_51_1_1 rfl) ?_
                          refine rs_a 12 rfl rfl rfl rfl (v_move rfl) ?_
                          refine rs_a 13 rfl rfl rfl rfl (v_move rfl) ?_
                          refine rs_a 14 rfl rfl rfl rfl (v_indexAddr T.sl_59_51_4 rfl rfl (by omega) (by omega)) ?_
                          refine rs_a 15 rfl rfl rfl rfl (v_fieldAddr T.fld_51_2_2 rfl) ?_
                          refine rs_a 17 rfl rfl rfl rfl (v_move rfl) ?_
                          refine rs_v 3 rfl rfl rfl rfl (OpV.mono (v_load T.scal_31 rfl) (fun w hw => by exact sat_cell hw (by (repeat first | with_reducible exact xH | apply xT); first | done | fail) rfl)) (by exact Sat.sub hw (by (repeat (first | with_reducible exact Sub.refl _ | exact Sub.nil _ | (apply Sub.cons; focus ((repeat (first | with_reducible exact Pick.here _ | apply Pick.there)); (first | done | fail))) | with_reducible apply Sub.drop)); first | done | fail)) ?_
                          refine rs_a 4 rfl rfl rfl rfl (v_nilCheck rfl) ?_
                          refine rs_a 5 rfl rfl rfl rfl (v_fieldAddr0 T.fld_39_0_0 rfl) ?_
                          refine rs_v 6 rfl rfl rfl rfl (OpV.mono (v_load T.scal_36 rfl) (fun w hw => by exact sat_cell hw (by (repeat first | with_reducible exact xH | apply xT); first | done | fail) rfl)) (by exact Sat.sub hw (by (repeat (first | with_reducible exact Sub.refl _ | exact Sub.nil _ | (apply Sub.cons; focus ((repeat (first | with_reducible exact Pick.here _ | apply Pick.there)); (first | done | fail))) | with_reducible apply Sub.drop)); first | done | fail)) ?_
                          refine rs_v 11 rfl rfl rfl rfl (OpV.mono (v_load T.scal_3 rfl) (fun w hw => by exact own_at hw (by (repeat first | with_reducible exact xH | apply xT); first | done | fail) (by assumption) rfl)) (by exact Sat.sub hw (by (repeat (first | with_reducible exact Sub.refl _ | exact Sub.nil _ | (apply Sub.cons; focus ((repeat (first | with_reducible exact Pick.here _ | apply Pick.there)); (first | done | fail))) | with_reducible apply Sub.drop)); first | done | fail)) ?_
                          refine rs_v 16 rfl rfl rfl rfl (OpV.mono (v_load T.scal_3 rfl) (fun w hw => by exact own_at hw (by (repeat first | with_reducible exact xH | apply xT); first | done | fail) (by assumption) rfl)) (by exact Sat.sub hw (by (repeat (first | with_reducible exact Sub.refl _ | exact Sub.nil _ | (apply Sub.cons; focus ((repeat (first | with_reducible exact Pick.here _ | apply Pick.there)); (first | done | fail))) | with_reducible apply Sub.drop)); first | done | fail)) ?_
                          refine rs_kv 18 rfl rfl rfl rfl (by exact own_bytes_all hw (by (repeat first | with_reducible exact xH | apply xT); first | done | fail)) (v_convBytes T.sl_60_5_1 T.u8_5 T.str_9 rfl) ?_
                          refine rs_k 19 rfl rfl (k_callf Try.func15 rfl rfl rfl rfl ?_)
                          refine Calls.mono (mwrite_calls pa.m pa.p S.md S.pw r.seg r.off (ffs r.len.toNat r.len.toNat) I.pw (by have := I.past; omega) hw) ?_
                          rw [over_write hpa I.lg.ok hpw.1]
                          rintro _ w ⟨rfl, hw⟩
                          refine ⟨_, rfl, ?_⟩
                          refine ⟨fun hn => absurd (by decide) hn, ?_⟩
                          refine rs_kv 20 rfl rfl rfl rfl (S' := fun _ => True) trivial (v_neqF rfl rfl (by omega)) ?_
                          refine rs_done (g_le (xK (xS rfl (xS rfl (xS rfl (xS rfl (xS rfl (xS rfl (xS rfl (xS rfl (xS rfl (xS rfl (xS rfl (xS rfl (xS rfl (xS rfl (xS rfl (xS rfl (xS rfl (xS rfl (xS rfl (xS rfl (Fr.le_refl _)))))))))))))))))))))) ?_)
                          refine g_cond rfl (fun h8 => ?_) (fun h8 => ?_)
                          · try with_reducible exact ft_elim h8
                            all_goals
                              try replace h8 := of_decide_eq_true h8
                              refine g_seq ?_
                              refine g_region ?_
                              refine xV rfl rfl rfl (v_assign rfl) ?_
                              refine rl_nil (g_le (xK (Fr.le_refl _)) ?_)
                              refine g_ret1 Try.func4 rfl rfl ?_
                              exact ⟨rfl, hw⟩
                          · try with_reducible exact tf_elim h8
                            all_goals
                              try replace h8 := of_decide_eq_false h8
                              refine g_skip (g_seq ?_)
                              have hw := pg_close (S := S.over r) (q := q0) (pp := pp) (L := OwnSl 51 4 (.slice (some ⟨wb, 0, none⟩) wl.length wc) wl.length (wl.flatMap Rf.cells) :: OwnSl 48 3 (.slice (some ⟨vb, 0, none⟩) kl.length vc) kl.length kcs :: RO (hpOf W) :: []) pa hpe (by dsimp only [PS.over] at hw ⊢; exact hw.xQ)
                              refine g_region ?_
                              refine xV rfl rfl rfl (v_move rfl) ?_
                              refine xV rfl rfl rfl (v_move rfl) ?_
                              refine xV rfl rfl rfl (v_move rfl) ?_
                              refine xV rfl rfl rfl (v_indexAddr T.sl_59_51_4 rfl rfl (by omega) (by omega)) ?_
                              refine rl_v rfl rfl rfl (by exact own_cells hw (by (repeat first | with_reducible exact xH | apply xT); first | done | fail) (by assumption)) (v_loadAgg (vs := [_, _, _, _]) T.agg_51_4 rfl rfl) ?_
                              refine rl_k rfl (k_callf Try.func16 rfl rfl rfl rfl ?_)
                              refine Calls.mono (pread_calls (q := q0) hok2 r hpa.ok (hw.xQ)) ?_
                              rw [hrd]
                              dsimp only
                              rintro _ w ⟨ea, ec, ka, kc, vs, rfl, hfi, hw⟩
                              refine ⟨_, rfl, ?_⟩
                              refine xV rfl rfl rfl (v_move rfl) ?_
                              refine xV rfl rfl rfl (v_extract rfl rfl) ?_
                              refine xV rfl rfl rfl (v_extract rfl rfl) ?_
                              refine rl_k rfl (k_alloc hw T.zero_48 rfl rfl (fun bk29_9 w hw => ?_))
                              refine rl_k rfl (k_storeWhole hw T.agg_48_3 rfl rfl (by simp [Value.oneCell']) rfl (by (repeat first | with_reducible exact xH | apply xT); first | done | fail) rfl (fun w hw => ?_))
                              refine xV rfl rfl rfl (v_assign rfl) ?_
                              refine rl_nil (g_le (xK (xS rfl (xS rfl (xS rfl (xS rfl (xS rfl (xS rfl (xS rfl (xS rfl (xS rfl (xS rfl (Fr.le_refl _)))))))))))) ?_)
                              refine g_seq (g_seq ?_)
                              refine g_region ?_
                              refine xV rfl rfl rfl (v_move rfl) ?_
                              refine xV rfl rfl rfl (v_neqF rfl rfl (by omega)) ?_
                              refine rl_nil (g_le (xK (xS rfl (Fr.le_refl _))) ?_)
                              refine g_cond rfl (fun h9 => ?_) (fun h9 => ?_)
                              · try with_reducible exact ft_elim h9
                                all_goals
                                  try replace h9 := of_decide_eq_true h9
                                  refine g_seq ?_
                                  refine g_region ?_
                                  refine xV rfl rfl rfl (v_assign rfl) ?_
                                  refine rl_nil (g_le (xK (Fr.le_refl _)) ?_)
                                  refine g_ret1 Try.func4 rfl rfl ?_
                                  exact ⟨rfl, hw⟩
                              · try with_reducible exact tf_elim h9
                                all_goals
                                  try replace h9 := of_decide_eq_false h9
                                  refine g_skip (g_seq (g_seq ?_))
                                  refine g_region ?_
                                  refine xV rfl rfl rfl (v_move rfl) ?_
                                  refine xV rfl rfl rfl (v_lenSlice T.sl_59_51_4 rfl) ?_
                                  refine xV rfl rfl rfl (v_move rfl) ?_
                                  refine rl_nil (g_le (xK (xK (xK (Fr.le_refl _)))) ?_)
                                  refine g_block ?_
                                  refine g_loopC (σ := Nat × Ch × Hp) (fun C x => (121, .int .i64 (x.1 : Nat)) :: C) [(3, _), (8, _), (10, _), (11, _), (12, _), (119, _), (120, _)] (by repeat (first | exact Fr.le_nil _ | refine Fr.le_cons rfl ?_)) (fun z w => z.1 ≤ wl.length ∧ z.2.1.l = [] ∧ z.2.1.room = 0 ∧ (hpOf W).le z.2.2 ∧ Sat (envOf W) w (PgA pp q0 ((S.over r).got z.2.1) :: OwnSl 51 4 (.slice (some ⟨wb, 0, none⟩) wl.length wc) wl.length (wl.flatMap Rf.cells) :: OwnSl 48 3 (.slice (some ⟨vb, 0, none⟩) kl.length vc) kl.length kcs :: RO z.2.2 :: [])) (fun z => wl.length - z.1) ?_ (0, c, hpOf W) (by repeat (first | exact Fr.le_nil _ | refine Fr.le_cons rfl ?_)) ⟨by simp, hcl, hcr, Hp.le_refl _, hw.xQ⟩
                                  rintro ⟨j, c3, g3⟩ w ⟨hj, hcl3, hcr3, hg3, hw⟩ ih
                                  dsimp only at hj hcl3 hcr3 hg3 hw ih ⊢
                                  refine g_seq ?_
                                  refine g_region ?_
                                  refine xV rfl rfl rfl (v_lss rfl rfl) ?_
                                  refine rl_nil (g_le (xK (Fr.le_refl _)) ?_)
                                  refine g_seq ?_
                                  refine g_cond rfl (fun h10 => ?_) (fun h10 => ?_)
                                  · try with_reducible exact ft_elim h10
                                    all_goals
                                      try replace h10 := of_decide_eq_true h10
                                      refine g_skip (g_seq (g_block (g_seq ?_)))
                                      have hz := hw
                                      clear hw
                                      obtain ⟨rj, hrj⟩ : ∃ x, wl[j]? = some x := ⟨_, List.getElem?_eq_getElem (by omega)⟩
                                      obtain ⟨nj, hnj, hpj⟩ := hld.get hrj
                                      have hsubj := subAt_flat (f := Rf.cells) (sz := 4) (fun _ => rfl) hrj
                                      have hndj := (hels.at hnj).1
                                      have hsubk := subAt_of (show (kcs.drop (j * 3)).take 3 = _ from rfl)
                                      obtain ⟨qe1, qe2, qe3, qk1, qk2, qk3, hqq, hndj⟩ := nd_told hndj
                                      rw [hqq] at hsubk
                                      have hw := hz
                                      clear hz
                                      refine g_region ?_
                                      refine xV rfl rfl rfl (v_move rfl) ?_
                                      refine xV rfl rfl rfl (v_indexAddr T.sl_59_51_4 rfl rfl (by omega) (by omega)) ?_
                                      refine rl_v rfl rfl rfl (by exact own_cells hw (by (repeat first | with_reducible exact xH | apply xT); first | done | fail) (by assumption)) (v_loadAgg (vs := [_, _, _, _]) T.agg_51_4 rfl rfl) ?_
                                      refine rl_k rfl (k_alloc hw T.zero_51 rfl rfl (fun bk34_3 w hw => ?_))
                                      refine xV rfl rfl rfl (v_assign rfl) ?_
                                      refine rl_k rfl (k_storeWhole hw T.agg_51_4 rfl rfl (by simp [Value.oneCell']) rfl (by (repeat first | with_reducible exact xH | apply xT); first | done | fail) rfl (fun w hw => ?_))
                                      refine rl_nil (g_le (xK (xK (xK (xK (xK (Fr.le_refl _)))))) ?_)
                                      refine g_seq (g_seq ?_)
                                      refine g_drawR ord_f4_r35_P16H (by kernel_rfl) T.mixed hw (fun w hw => ?_)
                                      refine rs_a 0 rfl rfl rfl rfl (v_fieldAddr0 T.fld_51_1_1 rfl) ?_
                                      refine rs_a 2 rfl rfl rfl rfl (v_move rfl) ?_
                                      refine rs_a 3 rfl rfl rfl rfl (v_move rfl) ?_
                                      refine rs_a 4 rfl rfl rfl rfl (v_indexAddr T.sl_59_51_4 rfl rfl (by omega) (by omega)) ?_
                                      refine rs_a 5 rfl rfl rfl rfl (v_fieldAddr T.fld_51_1_1 rfl) ?_
                                      refine rs_v 1 rfl rfl rfl rfl (OpV.mono (v_load T.scal_3 rfl) (fun w hw => by exact sat_cell hw (by (repeat first | with_reducible exact xH | apply xT); first | done | fail) rfl)) (by exact hw) ?_
                                      refine rs_kv 6 rfl rfl rfl rfl (by exact own_at hw (by (repeat first | with_reducible exact xH | apply xT); first | done | fail) (by assumption) rfl) (v_load T.scal_3 rfl) ?_
                                      refine rs_kv 7 rfl rfl rfl rfl (S' := fun _ => True) trivial (v_eql rfl rfl) ?_
                                      refine rs_kv 8 rfl rfl rfl rfl (S' := fun _ => True) trivial (v_move rfl) ?_
                                      refine rs_split (s := 134) rfl (fun g35_8 => ?_) (fun g35_8 => ?_)
                                      · try with_reducible exact ft_elim g35_8
                                        all_goals
                                          try replace g35_8 := of_decide_eq_true g35_8
                                          refine rs_ag 9 rfl (met_on rfl rfl rfl rfl) rfl rfl (v_fieldAddr0 T.fld_51_2_2 rfl) ?_
                                          refine rs_ag 11 rfl (met_on rfl rfl rfl rfl) rfl rfl (v_move rfl) ?_
                                          refine rs_ag 12 rfl (met_on rfl rfl rfl rfl) rfl rfl (v_move rfl) ?_
                                          refine rs_ag 13 rfl (met_on rfl rfl rfl rfl) rfl rfl (v_indexAddr T.sl_59_51_4 rfl rfl (by omega) (by omega)) ?_
                                          refine rs_ag 14 rfl (met_on rfl rfl rfl rfl) rfl rfl (v_fieldAddr T.fld_51_2_2 rfl) ?_
                                          refine rs_vg 10 rfl (met_on rfl rfl rfl rfl) rfl rfl (OpV.mono (v_load T.scal_3 rfl) (fun w hw => by exact sat_cell hw (by (repeat first | with_reducible exact xH | apply xT); first | done | fail) rfl)) (by exact hw) ?_
                                          refine rs_kvg 15 rfl (met_on rfl rfl rfl rfl) rfl rfl (by exact own_at hw (by (repeat first | with_reducible exact xH | apply xT); first | done | fail) (by assumption) rfl) (v_load T.scal_3 rfl) ?_
                                          refine rs_kvg 16 rfl (met_on rfl rfl rfl rfl) rfl rfl (S' := fun _ => True) trivial (v_geq rfl rfl) ?_
                                          refine rs_kv 17 rfl rfl rfl rfl (S' := fun _ => True) trivial (v_pick_true rfl rfl) ?_
                                          refine rs_done (g_le (xK (xK (xK (xK (xK (xK (xK (xK (xK (xK (xK (xK (xK (xK (xK (xK (xK (xK (xK (Fr.le_refl _)))))))))))))))))))) ?_)
                                          refine g_cond rfl (fun h11 => ?_) (fun h11 => ?_)
                                          · try with_reducible exact ft_elim h11
                                            all_goals
                                              try replace h11 := of_decide_eq_true h11
                                              refine g_exit rfl ?_
                                              refine g_region ?_
                                              refine xV rfl rfl rfl (v_add rfl rfl (by omega)) ?_
                                              refine xV rfl rfl rfl (v_move rfl) ?_
                                              refine rl_nil (g_le (xK (xK (Fr.le_refl _))) ?_)
                                              exact g_le (by repeat (first | exact Fr.le_nil _ | refine Fr.le_cons rfl ?_)) (ih (j + 1, c3, g3) w ⟨by simp only; omega, hcl3, hcr3, hg3, hw.xQ⟩ (by simp only; omega))
                                          · try with_reducible exact tf_elim h11
                                            all_goals
                                              try replace h11 := of_decide_eq_false h11
                                              refine g_skip (g_seq ?_)
                                              have hah : rj.seg = r.seg → rj.off + rj.len ≤ r.off := hld.ahead hrj hr (by intro he; simp [he] at *; omega)
                                              have hpo := over_keep hpa hpj hah
                                              obtain ⟨c4, hrd4, hcl4, hcr4⟩ := rd_none (q := q0) (S := (S.over r).got c3) hpj.ref hcl3 hcr3
                                              rw [show ((S.over r).got c3).raw q0 rj = (nj, 0) from hpo.raw, show ((S.over r).got c3).got c4 = (S.over r).got c4 from rfl] at hrd4
                                              refine g_region ?_
                                              refine xV rfl rfl rfl (v_move rfl) ?_
                                              refine rl_v rfl rfl rfl (by exact sat_cells hw (by (repeat first | with_reducible exact xH | apply xT); first | done | fail) ⟨rfl, rfl, rfl, rfl, trivial⟩) (v_loadAgg (vs := [_, _, _, _]) T.agg_51_4 rfl rfl) ?_
                                              refine rl_k rfl (k_callf Try.func16 rfl rfl rfl rfl ?_)
                                              refine Calls.mono (pread_calls (q := q0) (got_ok hok2 hcl3) rj hpj.ok (hw.xQ)) ?_
                                              rw [hrd4]
                                              dsimp only
                                              rintro _ w ⟨ea, ec, ka, kc, vs, rfl, hfi, hw⟩
                                              refine ⟨_, rfl, ?_⟩
                                              refine xV rfl rfl rfl (v_move rfl) ?_
                                              refine xV rfl rfl rfl (v_extract rfl rfl) ?_
                                              refine xV rfl rfl rfl (v_extract rfl rfl) ?_
                                              refine rl_k rfl (k_alloc hw T.zero_48 rfl rfl (fun bk36_6 w hw => ?_))
                                              refine rl_k rfl (k_storeWhole hw T.agg_48_3 rfl rfl (by simp [Value.oneCell']) rfl (by (repeat first | with_reducible exact xH | apply xT); first | done | fail) rfl (fun w hw => ?_))
                                              refine xV rfl rfl rfl (v_assign rfl) ?_
                                              refine rl_nil (g_le (xK (xK (xK (xK (xK (xK (xK (xK (Fr.le_refl _))))))))) ?_)
                                              refine g_seq ?_
                                              obtain ⟨g4, hg4, hnd4, hw⟩ := nd_freeze (g := g3) (ev := .slice ea nj.entries.length ec) (kv := .slice ka nj.kids.length kc) (vs := vs) hfi (hw.xQ : Sat (envOf W) w (RO g3 :: OwnSl 126 2 (.slice ea nj.entries.length ec) (nj).entries.length (enCells (nj).entries vs) :: eachOf VnsOf vs (nj).entries :: KdsAt (.slice ka nj.kids.length kc) (nj).kids :: pt bk36_6 (.cells [Value.bool nj.leaf, .slice ea nj.entries.length ec, .slice ka nj.kids.length kc].toArray 48 (0, 0)) :: PgA pp q0 ((S.over r).got c4) :: OwnSl 51 4 (.slice (some ⟨wb, 0, none⟩) wl.length wc) wl.length (wl.flatMap Rf.cells) :: OwnSl 48 3 (.slice (some ⟨vb, 0, none⟩) kl.length vc) kl.length kcs :: []))
                                              refine g_drawR ord_f4_r37_P16H (by kernel_rfl) T.mixed hw (fun w hw => ?_)
                                              refine rs_kv 0 rfl rfl rfl rfl (S' := fun _ => True) trivial (v_move rfl) ?_
                                              refine rs_kv 1 rfl rfl rfl rfl (S' := fun _ => True) trivial (v_neqF rfl rfl (by omega)) ?_
                                              refine rs_kv 2 rfl rfl rfl rfl (S' := fun _ => True) trivial (v_move rfl) ?_
                                              refine rs_split (s := 152) rfl (fun g37_2 => ?_) (fun g37_2 => ?_)
                                              · try with_reducible exact ft_elim g37_2
                                                all_goals
                                                  try replace g37_2 := of_decide_eq_true g37_2
                                                  refine rs_aoff 4 rfl (met_off rfl rfl rfl rfl rfl) rfl rfl ?_
                                                  refine rs_aoff 5 rfl (met_off rfl rfl rfl rfl rfl) rfl rfl ?_
                                                  refine rs_aoff 6 rfl (met_off rfl rfl rfl rfl rfl) rfl rfl ?_
                                                  refine rs_voff 3 rfl (met_off rfl rfl rfl rfl rfl) rfl rfl (by first | exact hw | exact Sat.sub hw (by (repeat (first | with_reducible exact Sub.refl _ | exact Sub.nil _ | (apply Sub.cons; focus ((repeat (first | with_reducible exact Pick.here _ | apply Pick.there)); (first | done | fail))) | with_reducible apply Sub.drop)); first | done | fail)) ?_
                                                  refine rs_koff 7 rfl (met_off rfl rfl rfl rfl rfl) rfl rfl ?_
                                                  refine rs_koff 8 rfl (met_off rfl rfl rfl rfl rfl) rfl rfl ?_
                                                  refine rs_koff 9 rfl (met_off rfl rfl rfl rfl rfl) rfl rfl ?_
                                                  first | (refine rs_kv 10 rfl rfl rfl rfl (S' := fun _ => True) trivial (v_pick_true rfl rfl) ?_) | (refine rs_kv 10 rfl rfl rfl rfl (S' := fun _ => True) trivial (v_pick_false rfl rfl) ?_) | (refine rs_kv 10 rfl rfl rfl rfl (S' := fun _ => True) trivial (v_pick rfl rfl rfl) ?_)
                                                  refine rs_done (g_le (xK (xK (xK (xK (xK (xK (xK (xK (xK (xK (xK (xK (Fr.le_refl _))))))))))))) ?_)
                                                  refine g_cond_true rfl ?_
                                                  refine g_seq ?_
                                                  refine g_region ?_
                                                  refine xV rfl rfl rfl (v_assign rfl) ?_
                                                  refine rl_nil (g_le (xK (Fr.le_refl _)) ?_)
                                                  refine g_ret1 Try.func4 rfl rfl ?_
                                                  exact ⟨rfl, hw⟩
                                              · try with_reducible exact tf_elim g37_2
                                                all_goals
                                                  try replace g37_2 := of_decide_eq_false g37_2
                                                  refine rs_ag 4 rfl (met_on rfl rfl rfl rfl) rfl rfl (v_move rfl) ?_
                                                  refine rs_ag 5 rfl (met_on rfl rfl rfl rfl) rfl rfl (v_move rfl) ?_
                                                  refine rs_ag 6 rfl (met_on rfl rfl rfl rfl) rfl rfl (v_indexAddr T.sl_25_48_3 rfl rfl (by omega) (by omega)) ?_
                                                  refine rs_vg 3 rfl (met_on rfl rfl rfl rfl) rfl rfl (OpV.mono (v_loadAgg (vs := [_, _, _]) T.agg_48_3 rfl rfl) (fun w hw => by exact sat_cells hw (by (repeat first | with_reducible exact xH | apply xT); first | done | fail) ⟨rfl, rfl, rfl, trivial⟩)) (by exact hw) ?_
                                                  refine rs_kvg 7 rfl (met_on rfl rfl rfl rfl) rfl rfl (by exact own_cells hw (by (repeat first | with_reducible exact xH | apply xT); first | done | fail) (by assumption)) (v_loadAgg (vs := [_, _, _]) T.agg_48_3 rfl rfl) ?_
                                                  refine rs_kg 8 rfl (met_on rfl rfl rfl rfl) (k_callf Try.func17 rfl rfl rfl rfl ?_)
                                                  refine Calls.mono (likeNd_calls hnd4 (mono_Nd (hg3.trans hg4) hndj) hw) ?_
                                                  rw [decide_eq_true rfl]
                                                  rintro _ w ⟨rfl, hw⟩
                                                  refine ⟨_, rfl, ?_⟩
                                                  refine ⟨fun hn => absurd (by decide) hn, ?_⟩
                                                  refine rs_kvg 9 rfl (met_on rfl rfl rfl rfl) rfl rfl (S' := fun _ => True) trivial (v_not rfl) ?_
                                                  refine rs_kv 10 rfl rfl rfl rfl (S' := fun _ => True) trivial (v_pick_false rfl rfl) ?_
                                                  refine rs_done (g_le (xK (xK (xK (xK (xK (xK (xK (xK (xK (xK (xK (xK (Fr.le_refl _))))))))))))) ?_)
                                                  refine g_cond rfl (fun h12 => ?_) (fun h12 => ?_)
                                                  · try with_reducible exact ft_elim h12
                                                    all_goals
                                                      try replace h12 := of_decide_eq_true h12
                                                      simp at h12
                                                  · try with_reducible exact tf_elim h12
                                                    all_goals
                                                      try replace h12 := of_decide_eq_false h12
                                                      refine g_skip (g_inBlock ?_)
                                                      refine g_region ?_
                                                      refine xV rfl rfl rfl (v_add rfl rfl (by omega)) ?_
                                                      refine xV rfl rfl rfl (v_move rfl) ?_
                                                      refine rl_nil (g_le (xK (xK (Fr.le_refl _))) ?_)
                                                      exact g_le (by repeat (first | exact Fr.le_nil _ | refine Fr.le_cons rfl ?_)) (ih (j + 1, c4, g4) w ⟨by simp only; omega, hcl4, hcr4, hg3.trans hg4, hw.xQ⟩ (by simp only; omega))
                                      · try with_reducible exact tf_elim g35_8
                                        all_goals
                                          try replace g35_8 := of_decide_eq_false g35_8
                                          refine rs_aoff 9 rfl (met_off rfl rfl rfl rfl rfl) rfl rfl ?_
                                          refine rs_aoff 11 rfl (met_off rfl rfl rfl rfl rfl) rfl rfl ?_
                                          refine rs_aoff 12 rfl (met_off rfl rfl rfl rfl rfl) rfl rfl ?_
                                          refine rs_aoff 13 rfl (met_off rfl rfl rfl rfl rfl) rfl rfl ?_
                                          refine rs_aoff 14 rfl (met_off rfl rfl rfl rfl rfl) rfl rfl ?_
                                          refine rs_voff 10 rfl (met_off rfl rfl rfl rfl rfl) rfl rfl (by exact hw) ?_
                                          refine rs_koff 15 rfl (met_off rfl rfl rfl rfl rfl) rfl rfl ?_
                                          refine rs_koff 16 rfl (met_off rfl rfl rfl rfl rfl) rfl rfl ?_
                                          refine rs_kv 17 rfl rfl rfl rfl (S' := fun _ => True) trivial (v_pick_false rfl rfl) ?_
                                          refine rs_done (g_le (xK (xK (xK (xK (xK (xK (xK (xK (xK (xK (xK (xK (xK (xK (xK (xK (xK (xK (xK (Fr.le_refl _)))))))))))))))))))) ?_)
                                          refine g_cond_false rfl ?_
                                          refine g_skip (g_seq ?_)
                                          have hah : rj.seg = r.seg → rj.off + rj.len ≤ r.off := hld.ahead hrj hr (by intro he; exact absurd he (by simpa using g35_8))
                                          have hpo := over_keep hpa hpj hah
                                          obtain ⟨c4, hrd4, hcl4, hcr4⟩ := rd_none (q := q0) (S := (S.over r).got c3) hpj.ref hcl3 hcr3
                                          rw [show ((S.over r).got c3).raw q0 rj = (nj, 0) from hpo.raw, show ((S.over r).got c3).got c4 = (S.over r).got c4 from rfl] at hrd4
                                          refine g_region ?_
                                          refine xV rfl rfl rfl (v_move rfl) ?_
                                          refine rl_v rfl rfl rfl (by exact sat_cells hw (by (repeat first | with_reducible exact xH | apply xT); first | done | fail) ⟨rfl, rfl, rfl, rfl, trivial⟩) (v_loadAgg (vs := [_, _, _, _]) T.agg_51_4 rfl rfl) ?_
                                          refine rl_k rfl (k_callf Try.func16 rfl rfl rfl rfl ?_)
                                          refine Calls.mono (pread_calls (q := q0) (got_ok hok2 hcl3) rj hpj.ok (hw.xQ)) ?_
                                          rw [hrd4]
                                          dsimp only
                                          rintro _ w ⟨ea, ec, ka, kc, vs, rfl, hfi, hw⟩
                                          refine ⟨_, rfl, ?_⟩
                                          refine xV rfl rfl rfl (v_move rfl) ?_
                                          refine xV rfl rfl rfl (v_extract rfl rfl) ?_
                                          refine xV rfl rfl rfl (v_extract rfl rfl) ?_
                                          refine rl_k rfl (k_alloc hw T.zero_48 rfl rfl (fun bk36_6 w hw => ?_))
                                          refine rl_k rfl (k_storeWhole hw T.agg_48_3 rfl rfl (by simp [Value.oneCell']) rfl (by (repeat first | with_reducible exact xH | apply xT); first | done | fail) rfl (fun w hw => ?_))
                                          refine xV rfl rfl rfl (v_assign rfl) ?_
                                          refine rl_nil (g_le (xK (xK (xK (xK (xK (xK (xK (xK (Fr.le_refl _))))))))) ?_)
                                          refine g_seq ?_
                                          obtain ⟨g4, hg4, hnd4, hw⟩ := nd_freeze (g := g3) (ev := .slice ea nj.entries.length ec) (kv := .slice ka nj.kids.length kc) (vs := vs) hfi (hw.xQ : Sat (envOf W) w (RO g3 :: OwnSl 126 2 (.slice ea nj.entries.length ec) (nj).entries.length (enCells (nj).entries vs) :: eachOf VnsOf vs (nj).entries :: KdsAt (.slice ka nj.kids.length kc) (nj).kids :: pt bk36_6 (.cells [Value.bool nj.leaf, .slice ea nj.entries.length ec, .slice ka nj.kids.length kc].toArray 48 (0, 0)) :: PgA pp q0 ((S.over r).got c4) :: OwnSl 51 4 (.slice (some ⟨wb, 0, none⟩) wl.length wc) wl.length (wl.flatMap Rf.cells) :: OwnSl 48 3 (.slice (some ⟨vb, 0, none⟩) kl.length vc) kl.length kcs :: []))
                                          refine g_drawR ord_f4_r37_P16H (by kernel_rfl) T.mixed hw (fun w hw => ?_)
                                          refine rs_kv 0 rfl rfl rfl rfl (S' := fun _ => True) trivial (v_move rfl) ?_
                                          refine rs_kv 1 rfl rfl rfl rfl (S' := fun _ => True) trivial (v_neqF rfl rfl (by omega)) ?_
                                          refine rs_kv 2 rfl rfl rfl rfl (S' := fun _ => True) trivial (v_move rfl) ?_
                                          refine rs_split (s := 152) rfl (fun g37_2 => ?_) (fun g37_2 => ?_)
                                          · try with_reducible exact ft_elim g37_2
                                            all_goals
                                              try replace g37_2 := of_decide_eq_true g37_2
                                              refine rs_aoff 4 rfl (met_off rfl rfl rfl rfl rfl) rfl rfl ?_
                                              refine rs_aoff 5 rfl (met_off rfl rfl rfl rfl rfl) rfl rfl ?_
                                              refine rs_aoff 6 rfl (met_off rfl rfl rfl rfl rfl) rfl rfl ?_
                                              refine rs_voff 3 rfl (met_off rfl rfl rfl rfl rfl) rfl rfl (by first | exact hw | exact Sat.sub hw (by (repeat (first | with_reducible exact Sub.refl _ | exact Sub.nil _ | (apply Sub.cons; focus ((repeat (first | with_reducible exact Pick.here _ | apply Pick.there)); (first | done | fail))) | with_reducible apply Sub.drop)); first | done | fail)) ?_
                                              refine rs_koff 7 rfl (met_off rfl rfl rfl rfl rfl) rfl rfl ?_
                                              refine rs_koff 8 rfl (met_off rfl rfl rfl rfl rfl) rfl rfl ?_
                                              refine rs_koff 9 rfl (met_off rfl rfl rfl rfl rfl) rfl rfl ?_
                                              first | (refine rs_kv 10 rfl rfl rfl rfl (S' := fun _ => True) trivial (v_pick_true rfl rfl) ?_) | (refine rs_kv 10 rfl rfl rfl rfl (S' := fun _ => True) trivial (v_pick_false rfl rfl) ?_) | (refine rs_kv 10 rfl rfl rfl rfl (S' := fun _ => True) trivial (v_pick rfl rfl rfl) ?_)
                                              refine rs_done (g_le (xK (xK (xK (xK (xK (xK (xK (xK (xK (xK (xK (xK (Fr.le_refl _))))))))))))) ?_)
                                              refine g_cond_true rfl ?_
                                              refine g_seq ?_
                                              refine g_region ?_
                                              refine xV rfl rfl rfl (v_assign rfl) ?_
                                              refine rl_nil (g_le (xK (Fr.le_refl _)) ?_)
                                              refine g_ret1 Try.func4 rfl rfl ?_
                                              exact ⟨rfl, hw⟩
                                          · try with_reducible exact tf_elim g37_2
                                            all_goals
                                              try replace g37_2 := of_decide_eq_false g37_2
                                              refine rs_ag 4 rfl (met_on rfl rfl rfl rfl) rfl rfl (v_move rfl) ?_
                                              refine rs_ag 5 rfl (met_on rfl rfl rfl rfl) rfl rfl (v_move rfl) ?_
                                              refine rs_ag 6 rfl (met_on rfl rfl rfl rfl) rfl rfl (v_indexAddr T.sl_25_48_3 rfl rfl (by omega) (by omega)) ?_
                                              refine rs_vg 3 rfl (met_on rfl rfl rfl rfl) rfl rfl (OpV.mono (v_loadAgg (vs := [_, _, _]) T.agg_48_3 rfl rfl) (fun w hw => by exact sat_cells hw (by (repeat first | with_reducible exact xH | apply xT); first | done | fail) ⟨rfl, rfl, rfl, trivial⟩)) (by exact hw) ?_
                                              refine rs_kvg 7 rfl (met_on rfl rfl rfl rfl) rfl rfl (by exact own_cells hw (by (repeat first | with_reducible exact xH | apply xT); first | done | fail) (by assumption)) (v_loadAgg (vs := [_, _, _]) T.agg_48_3 rfl rfl) ?_
                                              refine rs_kg 8 rfl (met_on rfl rfl rfl rfl) (k_callf Try.func17 rfl rfl rfl rfl ?_)
                                              refine Calls.mono (likeNd_calls hnd4 (mono_Nd (hg3.trans hg4) hndj) hw) ?_
                                              rw [decide_eq_true rfl]
                                              rintro _ w ⟨rfl, hw⟩
                                              refine ⟨_, rfl, ?_⟩
                                              refine ⟨fun hn => absurd (by decide) hn, ?_⟩
                                              refine rs_kvg 9 rfl (met_on rfl rfl rfl rfl) rfl rfl (S' := fun _ => True) trivial (v_not rfl) ?_
                                              refine rs_kv 10 rfl rfl rfl rfl (S' := fun _ => True) trivial (v_pick_false rfl rfl) ?_
                                              refine rs_done (g_le (xK (xK (xK (xK (xK (xK (xK (xK (xK (xK (xK (xK (Fr.le_refl _))))))))))))) ?_)
                                              refine g_cond rfl (fun h12 => ?_) (fun h12 => ?_)
                                              · try with_reducible exact ft_elim h12
                                                all_goals
                                                  try replace h12 := of_decide_eq_true h12
                                                  simp at h12
                                              · try with_reducible exact tf_elim h12
                                                all_goals
                                                  try replace h12 := of_decide_eq_false h12
                                                  refine g_skip (g_inBlock ?_)
                                                  refine g_region ?_
                                                  refine xV rfl rfl rfl (v_add rfl rfl (by omega)) ?_
                                                  refine xV rfl rfl rfl (v_move rfl) ?_
                                                  refine rl_nil (g_le (xK (xK (Fr.le_refl _))) ?_)
                                                  exact g_le (by repeat (first | exact Fr.le_nil _ | refine Fr.le_cons rfl ?_)) (ih (j + 1, c4, g4) w ⟨by simp only; omega, hcl4, hcr4, hg3.trans hg4, hw.xQ⟩ (by simp only; omega))
                                  · try with_reducible exact tf_elim h10
                                    all_goals
                                      try replace h10 := of_decide_eq_false h10
                                      refine g_exit rfl (g_seq ?_)
                                      refine g_region ?_
                                      refine xV rfl rfl rfl (v_assign rfl) ?_
                                      refine rl_nil (g_le (xK (Fr.le_refl _)) ?_)
                                      refine g_ret1 Try.func4 rfl rfl ?_
                                      exact ⟨rfl, (hw.xQ : Sat (envOf W) w [RO g3]).shrink hg3⟩
theorem PagesHarmed_law {w : World} {qcs : Array Value} {xq : Quota} {a1 a2 : Option Addr} {n1 c1 n2 c2 : Nat} {xs : List Int} {ns : List Nd} {n : Int} (hq : rdArg rdQuota w (.agg qcs) xq) (hd : rdArg (rdSl 8 1 (rdInt .u64)) w (.slice a1 n1 c1) xs) (hn : rdArg (rdSl 56 3 rdNd) w (.slice a2 n2 c2) ns) (hi : (Lit.int .i64 n).wf = true) :
    Law Try.prog 4 [.agg qcs, .slice a1 n1 c1, .slice a2 n2 c2, .int .i64 n] w := by
  unfold Law
  have hw := Sat.old w
  obtain ⟨q, rfl⟩ := qt_of hq
  clear hq hi
  generalize w = W at hw hd hn ⊢
  have hd : (rdSl 8 1 (rdInt .u64)) (hpOf W) [.slice a1 n1 c1] xs := hd
  have hn : (rdSl 56 3 rdNd) (hpOf W) [.slice a2 n2 c2] ns := hn
  by_cases hq : ({ q with ca := 0 } : Qt).ok
  · exact PagesHarmed_good hq hd hn hw
  · exact PagesHarmed_bad hq hd hw

set_option maxRecDepth 100000 in
theorem PagesHarmed_lifted (os : Os) (started : os.Started) (H : Type) (enc : TypeId × Value → H) :
    ReturnsInHanded {} Try.checked os 4 .any (Rows.pagesHarmedSpec.pre6 enc Try.prog Try.f4 Rows.pagesHarmedRow.domain false) (Rows.pagesHarmedSpec.post enc Try.prog Try.f4 false true false false) := by
  refine returnsInHanded_of_change_sized (C := Try.checked) T.own started (by kernel_rfl) Try.func4
    (ChangeSpec.witness6 (enc := enc) (C := Try.checked) false ⟨#[], #[(.agg #[(.int .i64 0), (.int .i64 0), (.int .i64 0), (.int .i64 0), (.int .i64 0), (.int .i64 0), (.int .i64 0)]), (.slice none 0 0), (.slice none 0 0), (.int .i64 0)], []⟩ 8 (by kernel_rfl) (by kernel_rfl) (by kernel_rfl) (by kernel_rfl)) ?_
  intro W base args ds gs before hval0 hW hcnd hsz0 _
  have hval : ∀ (j : Nat) t v, Try.f4.params[j]? = some t → args[j]? = some v → Value.okWide Try.prog W .any base t v := hval0
  have hW' := hW
  obtain ⟨p, q, hA0, hV, rfl, hfz, hnd⟩ := hW
  have hA : DataW.TrodAll enc Try.prog W 0 (fun _ => true) true Try.f4.params.toList args.toList ds p := hA0
  obtain ⟨rfl, rfl⟩ := trodVars_none hV
  have hsz : (DataW.weightsEach Try.prog (Try.f4.params.toList ++ []) (ds ++ [])).all (· ≤ reachBytes) = true := hsz0
  rw [List.append_nil, List.append_nil] at hsz
  rw [Try.params4] at hA hval hsz
  obtain ⟨v0, vs0, d0, ds0, p0, q0, hargs, rfl, rfl, h0, r0⟩ := trodAll_cons hA
  obtain ⟨v1, vs1, d1, ds1, p1, q1, rfl, rfl, rfl, h1, r1⟩ := trodAll_cons r0
  obtain ⟨v2, vs2, d2, ds2, p2, q2, rfl, rfl, rfl, h2, r2⟩ := trodAll_cons r1
  obtain ⟨v3, vs3, d3, ds3, p3, q3, rfl, rfl, rfl, h3, r3⟩ := trodAll_cons r2
  obtain ⟨rfl, rfl, rfl⟩ := trodAll_nil r3
  obtain rfl : args = #[v0, v1, v2, v3] := by cases args; simp_all
  have lt0 : ∀ x ∈ p0, x.block < W.heap.size := by obtain ⟨m, hm⟩ := h0; exact DataW.trod_lt m _ _ _ hm
  obtain ⟨x0, w0⟩ := arg_of (j := 0) reads_Quota h0 hsz rfl rfl
  have lt1 : ∀ x ∈ p1, x.block < W.heap.size := by obtain ⟨m, hm⟩ := h1; exact DataW.trod_lt m _ _ _ hm
  obtain ⟨x1, w1⟩ := arg_of (j := 1) (reads_sl T.sl_24_49_1 T.bytes_49_8 (by decide) (reads_int T.int_49_u64)) h1 hsz rfl rfl
  have lt2 : ∀ x ∈ p2, x.block < W.heap.size := by obtain ⟨m, hm⟩ := h2; exact DataW.trod_lt m _ _ _ hm
  obtain ⟨x2, w2⟩ := arg_of (j := 2) (reads_sl T.sl_25_48_3 T.bytes_48_56 (by decide) reads_Nd) h2 hsz rfl rfl
  have lt3 : ∀ x ∈ p3, x.block < W.heap.size := by obtain ⟨m, hm⟩ := h3; exact DataW.trod_lt m _ _ _ hm
  obtain ⟨x3, w3⟩ := arg_of (j := 3) (reads_int T.int_3_i64) h3 hsz rfl rfl
  obtain ⟨cs0, rfl⟩ := okWide_agg T.agg_23_7 (hval 0 23 v0 rfl rfl)
  obtain ⟨a1, l1, c1, rfl⟩ := okWide_slice Try.underlying24 (hval 1 24 v1 rfl rfl)
  obtain ⟨a2, l2, c2, rfl⟩ := okWide_slice Try.underlying25 (hval 2 25 v2 rfl rfl)
  obtain ⟨n3, rfl⟩ := okWide_int Try.underlying3 (hval 3 3 v3 rfl rfl)
  obtain ⟨hc3, hr3⟩ := w3
  cases hc3
  refine (PagesHarmed_law w0 w1 w2 hr3).mono fun e W' ⟨he, hb⟩ => ?_
  have bel := hb.below
  subst he
  exact ⟨_, rfl, _, _, _, [], _, [], hW', trodAll_mk1 (shut_bool Try.underlying4 _), (trodAll_cons_mk (Below.trod T.laidOut (by kernel_rfl) (of_decide_eq_true (by kernel_rfl)) h0 bel lt0) (trodAll_cons_mk (Below.trod T.laidOut (by kernel_rfl) (of_decide_eq_true (by kernel_rfl)) h1 bel lt1) (trodAll_cons_mk (Below.trod T.laidOut (by kernel_rfl) (of_decide_eq_true (by kernel_rfl)) h2 bel lt2) (trodAll_cons_mk (Below.trod T.laidOut (by kernel_rfl) (of_decide_eq_true (by kernel_rfl)) h3 bel lt3) trodAll_mk0)))), rfl, bel.frame _, fun h => by cases h⟩
theorem PagesHarmed_holds : Rows.PagesHarmedSaid :=
  OpenClaim.holds_of_wide 4 Try.f4 rfl rfl rfl rfl rfl rfl rfl ⟨rfl, rfl, rfl, rfl, rfl⟩ rfl rfl rfl rfl rfl (by kernel_rfl) Try.func4 (by kernel_rfl)
    (of_decide_eq_true (by kernel_rfl)) (by unfold Func.isWrapper; rw [if_neg (of_decide_eq_false (by kernel_rfl))]; exact ⟨rfl, rfl⟩)
    (fun os started H enc _ => PagesHarmed_lifted os started H enc)
#print axioms PagesHarmed_holds
end Go.Proofs.Ytlgpdglnfjndhaa
