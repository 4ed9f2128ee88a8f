/-
  PagesCuts: with a cut n raw writes ahead just the first n nodes that may be are laid down, each under the next draw.
-/
import Derived.Test.YtlgpdglnfjndhaaP19
import Derived.Test.YtlgpdglnfjndhaaU05
import Derived.Test.YtlgpdglnfjndhaaRows
namespace Go.Proofs.Ytlgpdglnfjndhaa
set_option maxRecDepth 8000
set_option linter.unusedSimpArgs false
set_option linter.unusedVariables false
open Go Xe Go.Lib Go.RowKit Go.ChangeShapes Go.WideShapes Go.ChangeAt
structure Quota where
  secrets : Int
  name : Int
  value : Int
  note : Int
  versions : Int
  batch : Int
  cache : Int
instance : DecidableEq Quota := fun a b => decidable_of_iff (a.secrets = b.secrets ∧ a.name = b.name ∧ a.value = b.value ∧ a.note = b.note ∧ a.versions = b.versions ∧ a.batch = b.batch ∧ a.cache = b.cache) (by cases a; cases b; simp)
@[reducible] def Quota.cells (x : Quota) : List Value := [.int .i64 x.secrets, .int .i64 x.name, .int .i64 x.value, .int .i64 x.note, .int .i64 x.versions, .int .i64 x.batch, .int .i64 x.cache]
def Quota.ok (x : Quota) : Prop := (Lit.int .i64 x.secrets).wf = true ∧ (Lit.int .i64 x.name).wf = true ∧ (Lit.int .i64 x.value).wf = true ∧ (Lit.int .i64 x.note).wf = true ∧ (Lit.int .i64 x.versions).wf = true ∧ (Lit.int .i64 x.batch).wf = true ∧ (Lit.int .i64 x.cache).wf = true
def rdQuota : Rd Quota := fun _ cs x => cs = x.cells ∧ x.ok
theorem mono_Quota : Rd.Mono rdQuota := fun _ _ _ h => h
theorem one_Quota : Rd.One rdQuota := fun h => by rw [h.1]; simp [Value.oneCell']
theorem eq_Quota (x y : Quota) : cellsEq x.cells y.cells = some (decide (x = y)) := by
  simp only [cellsEq, cellEq, if_true, Bool.and_true, Option.some.injEq]
  by_cases h : x = y
  · subst h; simp
  · rw [decide_eq_false h]
    refine Bool.eq_false_iff.2 fun h2 => h ?_
    simp only [Bool.and_eq_true, decide_eq_true_eq, beq_iff_eq] at h2
    obtain ⟨_, _, _, _, _, _, _⟩ := x
    obtain ⟨_, _, _, _, _, _, _⟩ := y
    simp_all
theorem reads_Quota {H : Type} {enc : TypeId × Value → H} : Reads enc Try.prog 23 rdQuota := fun w fuel cs d ps h hz => by
  have hl := reads_length T.agg_23_7 (by kernel_rfl) h hz
  obtain ⟨c0, c1, c2, c3, c4, c5, c6, rfl⟩ : ∃ c0 c1 c2 c3 c4 c5 c6, cs = [c0, c1, c2, c3, c4, c5, c6] := by
    match cs, hl with
    | [c0, c1, c2, c3, c4, c5, c6], _ => exact ⟨_, _, _, _, _, _, _, rfl⟩
  obtain ⟨x0, h0⟩ := reads_field (i := 0) (off := 0) (k := 1) (ft := 3) (by kernel_rfl) h hz (reads_int T.int_3_i64)
  obtain ⟨x1, h1⟩ := reads_field (i := 1) (off := 1) (k := 1) (ft := 3) (by kernel_rfl) h hz (reads_int T.int_3_i64)
  obtain ⟨x2, h2⟩ := reads_field (i := 2) (off := 2) (k := 1) (ft := 3) (by kernel_rfl) h hz (reads_int T.int_3_i64)
  obtain ⟨x3, h3⟩ := reads_field (i := 3) (off := 3) (k := 1) (ft := 3) (by kernel_rfl) h hz (reads_int T.int_3_i64)
  obtain ⟨x4, h4⟩ := reads_field (i := 4) (off := 4) (k := 1) (ft := 3) (by kernel_rfl) h hz (reads_int T.int_3_i64)
  obtain ⟨x5, h5⟩ := reads_field (i := 5) (off := 5) (k := 1) (ft := 3) (by kernel_rfl) h hz (reads_int T.int_3_i64)
  obtain ⟨x6, h6⟩ := reads_field (i := 6) (off := 6) (k := 1) (ft := 3) (by kernel_rfl) h hz (reads_int T.int_3_i64)
  obtain ⟨e0, k0⟩ := h0
  obtain ⟨e1, k1⟩ := h1
  obtain ⟨e2, k2⟩ := h2
  obtain ⟨e3, k3⟩ := h3
  obtain ⟨e4, k4⟩ := h4
  obtain ⟨e5, k5⟩ := h5
  obtain ⟨e6, k6⟩ := h6
  simp only [List.drop_zero, List.drop_succ_cons, List.take_succ_cons, List.take_zero, List.cons.injEq, and_true] at e0 e1 e2 e3 e4 e5 e6
  obtain rfl := e0
  obtain rfl := e1
  obtain rfl := e2
  obtain rfl := e3
  obtain rfl := e4
  obtain rfl := e5
  obtain rfl := e6
  exact ⟨⟨x0, x1, x2, x3, x4, x5, x6⟩, rfl, k0, k1, k2, k3, k4, k5, k6⟩
theorem qt_of {w : World} {cs : Array Value} {x : Quota} (hr : rdArg rdQuota w (.agg cs) x) : ∃ q : Qt, cs = q.cells.toArray :=
  ⟨⟨x.secrets, x.name, x.value, x.note, x.versions, x.batch, x.cache⟩, by apply Array.ext'; exact hr.1⟩
theorem u64s_rd {g : Hp} {v : Value} {xs : List Int} (h : rdSl 8 1 (rdInt .u64) g [v] xs) : ∀ x ∈ xs, U64 x := fun x hx => by
  obtain ⟨cs, h1⟩ := rdSl_mem' h x hx
  exact u64_wf h1.2
theorem ord_f3_r1_P16C : orderOfB Try.f3 1 [3] (.a 1 (.v 0 (.k 2 (.k 3 (.k 4 .done))))) = true := by kernel_rfl
theorem PagesCuts_bad {W w : World} {q : Qt} {a1 a2 : Option Addr} {n1 c1 n2 c2 : Nat} {xs : List Int} {n : Int} (hq : ¬ q.ok) (hd : (rdSl 8 1 (rdInt .u64)) (hpOf W) [.slice a1 n1 c1] xs) (hw : Sat (envOf W) w [Old W]) :
    Calls Try.prog 3 #[q.v, .slice a1 n1 c1, .slice a2 n2 c2, .int .i64 n] w fun v w' => v = .returned (.bool true) ∧ Sat (envOf W) w' [Old W] := by
  obtain ⟨_, hb1, hc1, hm1, _⟩ := rdSl_get hd
  have hd40 := rdSl_take (min n1 40) hd (Nat.min_le_left ..)
  refine calls_of_g (n := 115) Try.func3 rfl rfl rfl ?_
  change G _ _ _ _ _ [(0, _), (1, _), (2, _), (3, _)] _
  refine g_seq ?_
  refine g_region ?_
  refine rl_k rfl (k_box hw rfl rfl rfl (fun bk0_0 w hw => ?_))
  refine xV rfl rfl rfl (v_assign rfl) ?_
  refine rl_nil (g_le (xK (xK (Fr.le_refl _))) ?_)
  refine g_seq ?_
  refine g_drawR ord_f3_r1_P16C (by kernel_rfl) T.mixed hw (fun w hw => ?_)
  refine rs_a 1 rfl rfl rfl rfl (v_move rfl) ?_
  refine rs_v 0 rfl rfl rfl rfl (OpV.mono (v_loadAgg (vs := [_, _, _, _, _, _, _]) T.agg_23_7 rfl rfl) (fun w hw => by exact sat_cells hw (by (repeat first | with_reducible exact xH | apply xT); first | done | fail) ⟨rfl, rfl, rfl, rfl, rfl, rfl, rfl, trivial⟩)) (by exact hw) ?_
  refine rs_k 2 rfl rfl (k_callf Try.func7 rfl rfl rfl rfl ?_)
  refine Calls.mono (cut16_calls (by omega) hc1 (hw.xQ)) ?_
  rintro _ w ⟨rfl, hw⟩
  refine ⟨_, rfl, ?_⟩
  refine ⟨fun _ => (by exact hw), ?_⟩
  refine rs_k 3 rfl rfl (k_callf Try.func6 rfl rfl rfl rfl ?_)
  refine Calls.mono (madeBad_calls hq (by omega) (by omega) hd40 (by omega) (hw.xQ)) ?_
  rintro _ w ⟨rfl, hw⟩
  refine ⟨_, rfl, ?_⟩
  refine ⟨fun hn => absurd (by decide) hn, ?_⟩
  refine rs_kv 4 rfl rfl rfl rfl (S' := fun _ => True) trivial (v_assign rfl) ?_
  refine rs_done (g_le (xK (xS rfl (xS rfl (xS rfl (xS rfl (Fr.le_refl _)))))) ?_)
  refine g_seq (g_seq ?_)
  refine g_region ?_
  refine rl_v rfl rfl rfl (by exact sat_cells hw (by (repeat first | with_reducible exact xH | apply xT); first | done | fail) ⟨rfl, rfl, rfl, rfl, rfl, rfl, rfl, trivial⟩) (v_loadAgg (vs := [_, _, _, _, _, _, _]) T.agg_23_7 rfl rfl) ?_
  refine rl_k rfl (k_callf Try.func8 rfl rfl rfl rfl ?_)
  refine Calls.mono (rright_calls q (hw.xQ)) ?_
  rintro _ w ⟨rfl, hw⟩
  refine ⟨_, rfl, ?_⟩
  refine xV rfl rfl rfl (v_not rfl) ?_
  refine rl_nil (g_le (xK (xS rfl (xS rfl (Fr.le_refl _)))) ?_)
  refine g_cond rfl (fun h1 => ?_) (fun h1 => ?_)
  · try with_reducible exact ft_elim h1
    all_goals
      try replace h1 := of_decide_eq_true h1
      refine g_seq ?_
      refine g_region ?_
      refine xV rfl rfl rfl (v_move rfl) ?_
      refine xV rfl rfl rfl (v_eqlNil T.ptr_26 rfl rfl) ?_
      refine xV rfl rfl rfl (v_assign rfl) ?_
      refine rl_nil (g_le (xK (xS rfl (xS rfl (Fr.le_refl _)))) ?_)
      refine g_ret1 Try.func3 rfl rfl ?_
      exact ⟨rfl, hw.xQ⟩
  · try with_reducible exact tf_elim h1
    all_goals
      try replace h1 := of_decide_eq_false h1
      exact absurd h1 (by simp [hq])
theorem md_ptr {E : Env} {w : World} {L : List As} {m p : Nat} {s : Md} (h : Sat E w (MdAt m p s :: L)) : w.cell? ⟨m, 0, none⟩ = some (.pointer (some ⟨p, 0, none⟩)) := by
  obtain ⟨_, g, c, pa, pc, vs, _, _, _, h⟩ := md_open h
  exact sat_cell h .at0 rfl
theorem cut_new {n : Int} (h0 : 0 ≤ n) (h1 : n ≤ 30) : (⟨false, 0, 0⟩ : Pw).cut n = ⟨decide (n = 0), n, 0⟩ := by
  unfold Pw.cut; rw [if_neg (by simp)]
  rw [show min (max n 0) 1073741824 = n by omega]
theorem spend_cut {pw : Pw} (h : pw.off = false) (h1 : 0 < pw.ahead) : pw.spend.2.off = decide (pw.ahead - 1 = 0) ∧ pw.spend.2.ahead = pw.ahead - 1 := by
  unfold Pw.spend; rw [if_neg (by simp [h]), if_pos h1]; exact ⟨rfl, rfl⟩
theorem PInv.repower {q : Qt} {F0 m : Nat} {S : PS} (I : PInv q F0 m S) (pw : Pw) (h : pw.ok) (h2 : pw.plain = S.pw.plain) : PInv q F0 m { S with pw := pw } :=
  ⟨by simp only; rw [h2]; exact I.lg, h, I.room, I.past, I.ch, I.chr, I.dr⟩
theorem PInv.retk {q : Qt} {F0 m : Nat} {S : PS} (I : PInv q F0 m S) (tk : Nat) : PInv q F0 m { S with tk := tk } := ⟨I.lg, I.pw, I.room, I.past, I.ch, I.chr, I.dr⟩
theorem ord_f3_r21_P16C : orderOfB Try.f3 21 [] (.k 0 (.k 1 (.k 2 (.a 3 (.a 5 (.a 7 (.a 8 (.v 4 (.k 6 (.k 9 (.k 10 (.k 11 .done)))))))))))) = true := by kernel_rfl
set_option maxHeartbeats 4000000 in
theorem PagesCuts_good {W w : World} {q : Qt} {a1 a2 : Option Addr} {n1 c1 n2 c2 : Nat} {xs : List Int} {ns : List Nd} {n : Int} (hq : q.ok) (hd : (rdSl 8 1 (rdInt .u64)) (hpOf W) [.slice a1 n1 c1] xs) (hn : (rdSl 56 3 rdNd) (hpOf W) [.slice a2 n2 c2] ns) (hw : Sat (envOf W) w [RO (hpOf W)]) :
    Calls Try.prog 3 #[q.v, .slice a1 n1 c1, .slice a2 n2 c2, .int .i64 n] w fun v w' => v = .returned (.bool true) ∧ Sat (envOf W) w' [RO (hpOf W)] := by
  obtain ⟨_, hb1, hc1, hm1, _⟩ := rdSl_get hd
  have hd40 := rdSl_take (min n1 40) hd (Nat.min_le_left ..)
  have hu64 := u64s_rd hd40
  have hl40 : (xs.take (min n1 40)).length ≤ 40 := by rw [List.length_take]; omega
  obtain ⟨rfl, hb2, hc2, hm2, gn⟩ := rdSl_get hn
  refine calls_of_g (n := 115) Try.func3 rfl rfl rfl ?_
  change G _ _ _ _ _ [(0, _), (1, _), (2, _), (3, _)] _
  refine g_seq ?_
  refine g_region ?_
  refine rl_k rfl (k_box hw rfl rfl rfl (fun bk0_0 w hw => ?_))
  refine xV rfl rfl rfl (v_assign rfl) ?_
  refine rl_nil (g_le (xK (xK (Fr.le_refl _))) ?_)
  refine g_seq ?_
  refine g_drawR ord_f3_r1_P16C (by kernel_rfl) T.mixed hw (fun w hw => ?_)
  refine rs_a 1 rfl rfl rfl rfl (v_move rfl) ?_
  refine rs_v 0 rfl rfl rfl rfl (OpV.mono (v_loadAgg (vs := [_, _, _, _, _, _, _]) T.agg_23_7 rfl rfl) (fun w hw => by exact sat_cells hw (by (repeat first | with_reducible exact xH | apply xT); first | done | fail) ⟨rfl, rfl, rfl, rfl, rfl, rfl, rfl, trivial⟩)) (by exact hw) ?_
  refine rs_k 2 rfl rfl (k_callf Try.func7 rfl rfl rfl rfl ?_)
  refine Calls.mono (cut16_calls (by omega) hc1 (hw.xQ)) ?_
  rintro _ w ⟨rfl, hw⟩
  refine ⟨_, rfl, ?_⟩
  refine ⟨fun _ => (by exact hw), ?_⟩
  refine rs_k 3 rfl rfl (k_callf Try.func6 rfl rfl rfl rfl ?_)
  refine Calls.mono (made_calls hq (by omega) (by omega) hd40 (by omega) (hw.xQ)) ?_
  rintro _ w ⟨pp, rfl, hw⟩
  refine ⟨_, rfl, ?_⟩
  refine ⟨fun hn => absurd (by decide) hn, ?_⟩
  refine rs_kv 4 rfl rfl rfl rfl (S' := fun _ => True) trivial (v_assign rfl) ?_
  refine rs_done (g_le (xK (xS rfl (xS rfl (xS rfl (xS rfl (Fr.le_refl _)))))) ?_)
  refine g_seq (g_seq ?_)
  refine g_region ?_
  refine rl_v rfl rfl rfl (by exact sat_cells hw (by (repeat first | with_reducible exact xH | apply xT); first | done | fail) ⟨rfl, rfl, rfl, rfl, rfl, rfl, rfl, trivial⟩) (v_loadAgg (vs := [_, _, _, _, _, _, _]) T.agg_23_7 rfl rfl) ?_
  refine rl_k rfl (k_callf Try.func8 rfl rfl rfl rfl ?_)
  refine Calls.mono (rright_calls q (hw.xQ)) ?_
  rintro _ w ⟨rfl, hw⟩
  refine ⟨_, rfl, ?_⟩
  refine xV rfl rfl rfl (v_not rfl) ?_
  refine rl_nil (g_le (xK (xS rfl (xS rfl (Fr.le_refl _)))) ?_)
  refine g_cond rfl (fun h1 => ?_) (fun h1 => ?_)
  · try with_reducible exact ft_elim h1
    all_goals
      try replace h1 := of_decide_eq_true h1
      exact absurd hq (by simpa using h1)
  · try with_reducible exact tf_elim h1
    all_goals
      try replace h1 := of_decide_eq_false h1
      refine g_skip (g_seq (g_seq ?_))
      refine g_region ?_
      refine xV rfl rfl rfl (v_move rfl) ?_
      refine xV rfl rfl rfl (v_eqlNil T.ptr_26 rfl rfl) ?_
      refine rl_nil (g_le (xK (xS rfl (Fr.le_refl _))) ?_)
      refine g_cond rfl (fun h2 => ?_) (fun h2 => ?_)
      · try with_reducible exact ft_elim h2
        all_goals
          try replace h2 := of_decide_eq_true h2
          simp at h2
      · try with_reducible exact tf_elim h2
        all_goals
          try replace h2 := of_decide_eq_false h2
          refine g_skip (g_seq (g_seq ?_))
          refine g_cutc2 (σ := Int) (fun C x => (3, .int .i64 x) :: C) [(1, _), (2, _), (4, _), (8, _), (9, _)] (by repeat (first | exact Fr.le_nil _ | refine Fr.le_cons rfl ?_)) (fun z w => 0 ≤ z ∧ z ≤ 30 ∧ Sat (envOf W) w (PgA pp q (newS q (12 : Int).toNat (xs.take (min n1 40))) (hpOf W) :: QtAt bk0_0 q :: RO (hpOf W) :: [])) ?_ ?_
          · skip
            rintro n w ⟨hn0, hn1, hw⟩
            all_goals
              refine g_seq ?_
              have I0 : PInv q 11 0 (newS q (12 : Int).toNat (xs.take (min n1 40))) := new_PInv hq (n := 12) (by omega) (by omega) hu64
              obtain ⟨S0, hS0⟩ : ∃ S0, S0 = newS q (12 : Int).toNat (xs.take (min n1 40)) := ⟨_, rfl⟩
              have hp0 : S0.pw = ⟨false, 0, 0⟩ := by rw [hS0]; rfl
              have ht0 : S0.tk = 0 := by rw [hS0]; rfl
              have hl0 : S0.list = xs.take (min n1 40) := by rw [hS0]; rfl
              rw [← hS0] at I0 hw
              obtain ⟨a, hels, hw⟩ := pg_open hw
              refine g_region ?_
              refine xV rfl rfl rfl (v_move rfl) ?_
              refine xV rfl rfl rfl (v_nilCheck rfl) ?_
              refine xV rfl rfl rfl (v_fieldAddr0 T.fld_35_0_0 rfl) ?_
              refine rl_v rfl rfl rfl (by exact sat_cell hw (by (repeat first | with_reducible exact xH | apply xT); first | done | fail) rfl) (v_load T.scal_31 rfl) ?_
              refine xV rfl rfl rfl (v_nilCheck rfl) ?_
              refine xV rfl rfl rfl (v_fieldAddr0 T.fld_39_0_0 rfl) ?_
              refine rl_v rfl rfl rfl (by exact sat_cell hw (by (repeat first | with_reducible exact xH | apply xT); first | done | fail) rfl) (v_load T.scal_36 rfl) ?_
              refine xV rfl rfl rfl (v_nilCheck rfl) ?_
              refine xV rfl rfl rfl (v_fieldAddr0 T.fld_44_0_0 rfl) ?_
              have hmp := md_ptr (hw.xP (A := MdAt a.m a.p S0.md))
              refine rl_v rfl rfl rfl (by assumption) (v_load T.scal_40 rfl) ?_
              refine xV rfl rfl rfl (v_move rfl) ?_
              refine rl_k rfl (k_callf Try.func9 rfl rfl rfl rfl ?_)
              refine Calls.mono (cut_calls a.p _ n (hw.xP (A := PwAt a.p S0.pw))) ?_
              rw [show S0.pw.cut n = ⟨decide (n = 0), n, 0⟩ by rw [hp0]; exact cut_new hn0 hn1]
              rintro _ w ⟨rfl, hw⟩
              refine ⟨_, rfl, ?_⟩
              refine rl_nil (g_le (xS rfl (xS rfl (xS rfl (xS rfl (xS rfl (xS rfl (xS rfl (xS rfl (xS rfl (xS rfl (xS rfl (xS rfl (Fr.le_refl _))))))))))))) ?_)
              refine g_seq ?_
              have I1 := I0.repower ⟨decide (n = 0), n, 0⟩ (by rw [← cut_new hn0 hn1]; exact Pw.ok_cut Pw.ok_new n) (by rw [hp0]; rfl)
              have hw := pg_close (S := { S0 with pw := ⟨decide (n = 0), n, 0⟩ }) (q := q) (pp := pp) (L := QtAt bk0_0 q :: RO (hpOf W) :: []) a hels (by dsimp only; exact hw.xQ)
              clear hels
              refine g_region ?_
              refine xV rfl rfl rfl (v_assign rfl) ?_
              refine xV rfl rfl rfl (v_assign rfl) ?_
              refine rl_nil (g_le (xK (xK (Fr.le_refl _))) ?_)
              refine g_seq (g_seq ?_)
              refine g_region ?_
              refine xV rfl rfl rfl (v_move rfl) ?_
              refine xV rfl rfl rfl (v_lenSlice T.sl_25_48_3 rfl) ?_
              refine xV rfl rfl rfl (v_move rfl) ?_
              refine rl_nil (g_le (xK (xK (xK (Fr.le_refl _)))) ?_)
              refine g_block ?_
              refine g_loopC (σ := Nat × Nat × Nat × PS × Hp) (fun C x => (47, .int .i64 (x.1 : Nat)) :: (10, .int .i64 (x.2.1 : Nat)) :: (11, .int .i64 (x.2.2.1 : Nat)) :: C) [(1, _), (3, _), (4, _), (8, _), (9, _), (45, _), (46, _)] (by repeat (first | exact Fr.le_nil _ | refine Fr.le_cons rfl ?_)) (fun z w => z.1 ≤ ns.length ∧ z.1 ≤ 20 ∧ z.2.2.1 ≤ z.1 ∧ z.2.1 = min z.2.2.1 n.toNat ∧ PInv q 11 z.2.1 z.2.2.2.1 ∧ z.2.2.2.1.tk = z.2.2.1 ∧ z.2.2.2.1.list = xs.take (min n1 40) ∧ z.2.2.2.1.pw.off = decide (n = z.2.1) ∧ z.2.2.2.1.pw.ahead = n - z.2.1 ∧ (hpOf W).le z.2.2.2.2 ∧ Sat (envOf W) w (PgA pp q z.2.2.2.1 z.2.2.2.2 :: QtAt bk0_0 q :: RO z.2.2.2.2 :: [])) (fun z => ns.length - z.1) ?_ (0, 0, 0, _, hpOf W) (by repeat (first | exact Fr.le_nil _ | refine Fr.le_cons rfl ?_)) ⟨by simp, by simp, by simp, by simp, I1, ht0, hl0, by simp, by simp, Hp.le_refl _, hw⟩
              rintro ⟨i, dn, tr, S, g⟩ w ⟨hi1, hi2, htr, hdn, I, htk, hls, hoff, hah, hg, hw⟩ ih
              dsimp only at hi1 hi2 htr hdn I htk hls hoff hah hg hw ih ⊢
              refine g_seq ?_
              refine g_region ?_
              refine xV rfl rfl rfl (v_lss rfl rfl) ?_
              refine rl_nil (g_le (xK (Fr.le_refl _)) ?_)
              refine g_seq ?_
              refine g_cond rfl (fun h4 => ?_) (fun h4 => ?_)
              · try with_reducible exact ft_elim h4
                all_goals
                  try replace h4 := of_decide_eq_true h4
                  refine g_skip (g_seq (g_block (g_seq ?_)))
                  have hz := hw
                  clear hw
                  obtain ⟨_, _, _, _, gn'⟩ := rdSl_get (mono_sl mono_Nd hg hn)
                  obtain ⟨b4, o1, x, ecs, rfl, hx, hat1, hl1, hrd⟩ := gn' (i : Nat) (by omega) (by omega)
                  rw [Int.toNat_natCast] at hx hat1
                  obtain ⟨ea, en, ec, ka, kn, kc, rfl, hnd⟩ := nd_told hrd
                  have hw := hz
                  clear hz
                  refine g_region ?_
                  refine xV rfl rfl rfl (v_move rfl) ?_
                  refine xV rfl rfl rfl (v_indexAddr T.sl_25_48_3 rfl rfl (by omega) (by omega)) ?_
                  refine rl_v rfl rfl rfl (by exact ro_ats hw (by (repeat first | with_reducible exact xH | apply xT); first | done | fail) (by assumption)) (v_loadAgg (vs := [_, _, _]) T.agg_48_3 rfl rfl) ?_
                  refine rl_k rfl (k_alloc hw T.zero_48 rfl rfl (fun bk12_3 w hw => ?_))
                  refine xV rfl rfl rfl (v_assign rfl) ?_
                  refine rl_k rfl (k_storeWhole hw T.agg_48_3 rfl rfl (by simp [Value.oneCell']) rfl (by (repeat first | with_reducible exact xH | apply xT); first | done | fail) rfl (fun w hw => ?_))
                  refine rl_nil (g_le (xK (xK (xK (xK (xK (Fr.le_refl _)))))) ?_)
                  refine g_seq (g_seq ?_)
                  refine g_region ?_
                  refine xV rfl rfl rfl (v_move rfl) ?_
                  refine xV rfl rfl rfl (v_geq rfl rfl) ?_
                  refine rl_nil (g_le (xK (xK (Fr.le_refl _))) ?_)
                  refine g_cond rfl (fun h5 => ?_) (fun h5 => ?_)
                  · try with_reducible exact ft_elim h5
                    all_goals
                      try replace h5 := of_decide_eq_true h5
                      refine g_exit rfl (g_seq ?_)
                      obtain ⟨a3, hels3, hw⟩ := pg_open (hw.xP (A := PgA pp q S g))
                      refine g_region ?_
                      refine xV rfl rfl rfl (v_move rfl) ?_
                      refine xV rfl rfl rfl (v_nilCheck rfl) ?_
                      refine xV rfl rfl rfl (v_fieldAddr0 T.fld_35_0_0 rfl) ?_
                      refine rl_v rfl rfl rfl (by exact sat_cell hw (by (repeat first | with_reducible exact xH | apply xT); first | done | fail) rfl) (v_load T.scal_31 rfl) ?_
                      refine xV rfl rfl rfl (v_nilCheck rfl) ?_
                      refine xV rfl rfl rfl (v_fieldAddr0 T.fld_39_0_0 rfl) ?_
                      refine rl_v rfl rfl rfl (by exact sat_cell hw (by (repeat first | with_reducible exact xH | apply xT); first | done | fail) rfl) (v_load T.scal_36 rfl) ?_
                      refine rl_k rfl (k_callf Try.func13 rfl rfl rfl rfl ?_)
                      refine Calls.mono (mcount_calls a3.m a3.p S.md (hw.xP)) ?_
                      rw [I.past]
                      rintro _ w ⟨rfl, hw⟩
                      refine ⟨_, rfl, ?_⟩
                      refine xV rfl rfl rfl (v_move rfl) ?_
                      refine xV rfl rfl rfl (v_eqlT rfl rfl (by omega)) ?_
                      refine xV rfl rfl rfl (v_move rfl) ?_
                      refine rl_split (s := 106) rfl (fun g26_10 => ?_) (fun g26_10 => ?_)
                      · try with_reducible exact ft_elim g26_10
                        all_goals
                          try replace g26_10 := of_decide_eq_true g26_10
                          refine rl_vg (met_on rfl rfl rfl rfl) rfl rfl (S := fun _ => True) trivial (v_move rfl) ?_
                          refine rl_vg (met_on rfl rfl rfl rfl) rfl rfl (S := fun _ => True) trivial (v_nilCheck rfl) ?_
                          refine rl_vg (met_on rfl rfl rfl rfl) rfl rfl (S := fun _ => True) trivial (v_fieldAddr0 T.fld_35_2_2 rfl) ?_
                          refine rl_vg (met_on rfl rfl rfl rfl) rfl rfl (by exact sat_cell hw (by (repeat first | with_reducible exact xH | apply xT); first | done | fail) rfl) (v_load T.scal_33 rfl) ?_
                          refine rl_kg (met_on rfl rfl rfl rfl) (k_callf Try.func14 rfl rfl rfl rfl ?_)
                          refine Calls.mono (taken_calls a3.d a3.dv (S.tk : Nat) (hw.xP)) ?_
                          rw [htk]
                          rintro _ w ⟨rfl, hw⟩
                          refine ⟨_, rfl, ?_⟩
                          refine rl_vg (met_on rfl rfl rfl rfl) rfl rfl (S := fun _ => True) trivial (v_move rfl) ?_
                          refine rl_vg (met_on rfl rfl rfl rfl) rfl rfl (S := fun _ => True) trivial (v_eqlT rfl rfl (by omega)) ?_
                          refine xV rfl rfl rfl (v_pick_true rfl rfl) ?_
                          refine xV rfl rfl rfl (v_assign rfl) ?_
                          refine rl_nil (g_le (xK (xS rfl (xS rfl (xS rfl (xS rfl (xS rfl (xS rfl (xS rfl (xS rfl (xS rfl (xS rfl (xS rfl (xS rfl (xS rfl (xS rfl (xS rfl (xS rfl (xS rfl (xS rfl (xS rfl (xS rfl (Fr.le_refl _)))))))))))))))))))))) ?_)
                          refine g_ret1 Try.func3 rfl rfl ?_
                          refine ⟨?_, (hw.xQ : Sat (envOf W) w [RO g]).shrink hg⟩
                          first | rfl | simp
                      · try with_reducible exact tf_elim g26_10
                        all_goals
                          try replace g26_10 := of_decide_eq_false g26_10
                          refine rl_off (met_off rfl rfl rfl rfl rfl) rfl rfl ?_
                          refine rl_off (met_off rfl rfl rfl rfl rfl) rfl rfl ?_
                          refine rl_off (met_off rfl rfl rfl rfl rfl) rfl rfl ?_
                          refine rl_off (met_off rfl rfl rfl rfl rfl) rfl rfl ?_
                          refine rl_off (met_off rfl rfl rfl rfl rfl) rfl rfl ?_
                          refine rl_off (met_off rfl rfl rfl rfl rfl) rfl rfl ?_
                          refine rl_off (met_off rfl rfl rfl rfl rfl) rfl rfl ?_
                          first | (refine xV rfl rfl rfl (v_pick_true rfl rfl) ?_) | (refine xV rfl rfl rfl (v_pick_false rfl rfl) ?_) | (refine xV rfl rfl rfl (v_pick rfl rfl rfl) ?_)
                          refine xV rfl rfl rfl (v_assign rfl) ?_
                          refine rl_nil (g_le (xK (xS rfl (xS rfl (xS rfl (xS rfl (xS rfl (xS rfl (xS rfl (xS rfl (xS rfl (xS rfl (xS rfl (xS rfl (xS rfl (xS rfl (xS rfl (xS rfl (xS rfl (xS rfl (xS rfl (xS rfl (Fr.le_refl _)))))))))))))))))))))) ?_)
                          refine g_ret1 Try.func3 rfl rfl ?_
                          refine ⟨?_, (hw.xQ : Sat (envOf W) w [RO g]).shrink hg⟩
                          first | rfl | simp
                  · try with_reducible exact tf_elim h5
                    all_goals
                      try replace h5 := of_decide_eq_false h5
                      refine g_skip (g_seq ?_)
                      refine g_region ?_
                      refine xV rfl rfl rfl (v_move rfl) ?_
                      refine rl_v rfl rfl rfl (by exact sat_cells hw (by (repeat first | with_reducible exact xH | apply xT); first | done | fail) ⟨rfl, rfl, rfl, trivial⟩) (v_loadAgg (vs := [_, _, _]) T.agg_48_3 rfl rfl) ?_
                      refine rl_k rfl (k_callf Try.func10 rfl rfl rfl rfl ?_)
                      refine Calls.mono (pwrite_calls (q := q) (I.ok (by omega) (by omega)) hnd (hw.xQ)) ?_
                      generalize hwr : S.wr q x = r9
                      obtain ⟨rr, ee, S2⟩ := r9
                      dsimp only
                      rintro _ w ⟨g2, hg2, rfl, hw⟩
                      refine ⟨_, rfl, ?_⟩
                      refine xV rfl rfl rfl (v_move rfl) ?_
                      refine xV rfl rfl rfl (v_extract rfl rfl) ?_
                      refine xV rfl rfl rfl (v_extract rfl rfl) ?_
                      refine rl_k rfl (k_alloc hw T.zero_51 rfl rfl (fun bk14_6 w hw => ?_))
                      refine rl_k rfl (k_storeWhole hw T.agg_51_4 rfl rfl (by simp [Value.oneCell']) rfl (by (repeat first | with_reducible exact xH | apply xT); first | done | fail) rfl (fun w hw => ?_))
                      refine xV rfl rfl rfl (v_assign rfl) ?_
                      refine rl_nil (g_le (xK (xK (xK (xK (xK (xK (xK (xK (Fr.le_refl _))))))))) ?_)
                      refine g_seq (g_seq ?_)
                      refine g_region ?_
                      refine rl_v rfl rfl rfl (by exact sat_cells hw (by (repeat first | with_reducible exact xH | apply xT); first | done | fail) ⟨rfl, rfl, rfl, rfl, rfl, rfl, rfl, trivial⟩) (v_loadAgg (vs := [_, _, _, _, _, _, _]) T.agg_23_7 rfl rfl) ?_
                      refine rl_v rfl rfl rfl (by exact sat_cells hw (by (repeat first | with_reducible exact xH | apply xT); first | done | fail) ⟨rfl, rfl, rfl, trivial⟩) (v_loadAgg (vs := [_, _, _]) T.agg_48_3 rfl rfl) ?_
                      refine rl_k rfl (k_callf Try.func11 rfl rfl rfl rfl ?_)
                      refine Calls.mono (rrightN_calls q (mono_Nd hg2 hnd) (hw.xQ)) ?_
                      rintro _ w ⟨rfl, hw⟩
                      refine ⟨_, rfl, ?_⟩
                      refine xV rfl rfl rfl (v_neq rfl rfl) ?_
                      refine rl_nil (g_le (xK (xK (xK (xK (Fr.le_refl _))))) ?_)
                      refine g_cond rfl (fun h6 => ?_) (fun h6 => ?_)
                      · try with_reducible exact ft_elim h6
                        all_goals
                          try replace h6 := of_decide_eq_true h6
                          have e9 : S.wr q x = (rf0, rightN q x, S) := by unfold PS.wr; rw [if_pos h6]
                          rw [e9] at hwr
                          simp only [Prod.mk.injEq] at hwr
                          obtain ⟨rfl, rfl, rfl⟩ := hwr
                          refine g_seq (g_seq ?_)
                          refine g_region ?_
                          refine xV rfl rfl rfl (v_move rfl) ?_
                          refine rl_v rfl rfl rfl (by exact sat_cells hw (by (repeat first | with_reducible exact xH | apply xT); first | done | fail) ⟨rfl, rfl, rfl, rfl, rfl, rfl, rfl, trivial⟩) (v_loadAgg (vs := [_, _, _, _, _, _, _]) T.agg_23_7 rfl rfl) ?_
                          refine rl_v rfl rfl rfl (by exact sat_cells hw (by (repeat first | with_reducible exact xH | apply xT); first | done | fail) ⟨rfl, rfl, rfl, trivial⟩) (v_loadAgg (vs := [_, _, _]) T.agg_48_3 rfl rfl) ?_
                          refine rl_k rfl (k_callf Try.func11 rfl rfl rfl rfl ?_)
                          refine Calls.mono (rrightN_calls q (mono_Nd hg2 hnd) (hw.xQ)) ?_
                          rintro _ w ⟨rfl, hw⟩
                          refine ⟨_, rfl, ?_⟩
                          refine xV rfl rfl rfl (v_neqF rfl rfl (by omega)) ?_
                          refine rl_nil (g_le (xK (xK (xK (xK (xK (Fr.le_refl _)))))) ?_)
                          refine g_cond rfl (fun h7 => ?_) (fun h7 => ?_)
                          · try with_reducible exact ft_elim h7
                            all_goals
                              try replace h7 := of_decide_eq_true h7
                              refine g_seq ?_
                              refine g_region ?_
                              refine xV rfl rfl rfl (v_assign rfl) ?_
                              refine rl_nil (g_le (xK (Fr.le_refl _)) ?_)
                              refine g_ret1 Try.func3 rfl rfl ?_
                              exact ⟨rfl, hw.xQ⟩
                          · try with_reducible exact tf_elim h7
                            all_goals
                              try replace h7 := of_decide_eq_false h7
                              refine g_skip (g_exit rfl ?_)
                              refine g_region ?_
                              refine xV rfl rfl rfl (v_add rfl rfl (by omega)) ?_
                              refine xV rfl rfl rfl (v_move rfl) ?_
                              refine rl_nil (g_le (xK (xK (Fr.le_refl _))) ?_)
                              exact g_le (by repeat (first | exact Fr.le_nil _ | refine Fr.le_cons rfl ?_)) (ih (i + 1, dn, tr, S, g2) w ⟨by simp only; omega, by simp only; omega, by simp only; omega, hdn, I, htk, hls, hoff, hah, hg.trans hg2, hw.xQ⟩ (by simp only; omega))
                      · try with_reducible exact tf_elim h6
                        all_goals
                          try replace h6 := of_decide_eq_false h6
                          have hst := wr_step hq I (n := x) (by omega) (keys_rd hnd) (by omega) (by omega)
                          refine g_skip (g_seq ?_)
                          refine g_region ?_
                          refine xV rfl rfl rfl (v_move rfl) ?_
                          refine xV rfl rfl rfl (v_add rfl rfl (by omega)) ?_
                          refine xV rfl rfl rfl (v_assign rfl) ?_
                          refine rl_nil (g_le (xK (xK (xK (Fr.le_refl _)))) ?_)
                          refine g_seq ?_
                          refine g_region ?_
                          refine xV rfl rfl rfl (v_move rfl) ?_
                          refine xV rfl rfl rfl (v_move rfl) ?_
                          refine xV rfl rfl rfl (v_leq rfl rfl) ?_
                          refine rl_nil (g_le (xK (xK (xK (Fr.le_refl _)))) ?_)
                          refine g_cond rfl (fun h8 => ?_) (fun h8 => ?_)
                          · try with_reducible exact ft_elim h8
                            all_goals
                              try replace h8 := of_decide_eq_true h8
                              obtain ⟨r', S', e, I', k1, k2, k3, k4, k5⟩ := hst.2 (by rw [hoff]; exact decide_eq_false (by omega))
                              rw [e] at hwr
                              simp only [Prod.mk.injEq] at hwr
                              obtain ⟨rfl, rfl, rfl⟩ := hwr
                              rw [hls, htk] at k4
                              have hsp := spend_cut (pw := S.pw) (by rw [hoff]; exact decide_eq_false (by omega)) (by omega)
                              refine g_seq ?_
                              refine g_region ?_
                              refine xV rfl rfl rfl (v_move rfl) ?_
                              refine xV rfl rfl rfl (v_add rfl rfl (by omega)) ?_
                              refine xV rfl rfl rfl (v_assign rfl) ?_
                              refine rl_nil (g_le (xK (xK (xK (Fr.le_refl _)))) ?_)
                              refine g_seq ?_
                              refine g_drawR ord_f3_r21_P16C (by kernel_rfl) T.mixed hw (fun w hw => ?_)
                              refine rs_kv 0 rfl rfl rfl rfl (S' := fun _ => True) trivial (v_move rfl) ?_
                              refine rs_kv 1 rfl rfl rfl rfl (S' := fun _ => True) trivial (v_neqF rfl rfl (by omega)) ?_
                              refine rs_kv 2 rfl rfl rfl rfl (S' := fun _ => True) trivial (v_move rfl) ?_
                              refine rs_split (s := 78) rfl (fun g21_2 => ?_) (fun g21_2 => ?_)
                              · try with_reducible exact ft_elim g21_2
                                all_goals
                                  try replace g21_2 := of_decide_eq_true g21_2
                                  refine rs_aoff 3 rfl (met_off rfl rfl rfl rfl rfl) rfl rfl ?_
                                  refine rs_aoff 5 rfl (met_off rfl rfl rfl rfl rfl) rfl rfl ?_
                                  refine rs_aoff 7 rfl (met_off rfl rfl rfl rfl rfl) rfl rfl ?_
                                  refine rs_aoff 8 rfl (met_off rfl rfl rfl rfl rfl) rfl rfl ?_
                                  refine rs_voff 4 rfl (met_off rfl rfl rfl rfl rfl) rfl rfl (by first | exact hw | exact Sat.sub hw (by (repeat (first | with_reducible exact Sub.refl _ | exact Sub.nil _ | (apply Sub.cons; focus ((repeat (first | with_reducible exact Pick.here _ | apply Pick.there)); (first | done | fail))) | with_reducible apply Sub.drop)); first | done | fail)) ?_
                                  refine rs_koff 6 rfl (met_off rfl rfl rfl rfl rfl) rfl rfl ?_
                                  refine rs_koff 9 rfl (met_off rfl rfl rfl rfl rfl) rfl rfl ?_
                                  refine rs_koff 10 rfl (met_off rfl rfl rfl rfl rfl) rfl rfl ?_
                                  first | (refine rs_kv 11 rfl rfl rfl rfl (S' := fun _ => True) trivial (v_pick_true rfl rfl) ?_) | (refine rs_kv 11 rfl rfl rfl rfl (S' := fun _ => True) trivial (v_pick_false rfl rfl) ?_) | (refine rs_kv 11 rfl rfl rfl rfl (S' := fun _ => True) trivial (v_pick rfl rfl rfl) ?_)
                                  refine rs_done (g_le (xK (xK (xK (xK (xK (xK (xK (xK (xK (xK (xK (xK (xK (Fr.le_refl _)))))))))))))) ?_)
                                  refine g_cond_true rfl ?_
                                  refine g_seq ?_
                                  refine g_region ?_
                                  refine xV rfl rfl rfl (v_assign rfl) ?_
                                  refine rl_nil (g_le (xK (Fr.le_refl _)) ?_)
                                  refine g_ret1 Try.func3 rfl rfl ?_
                                  exact ⟨rfl, hw.xQ⟩
                              · try with_reducible exact tf_elim g21_2
                                all_goals
                                  try replace g21_2 := of_decide_eq_false g21_2
                                  refine rs_ag 3 rfl (met_on rfl rfl rfl rfl) rfl rfl (v_fieldAddr0 T.fld_51_0_0 rfl) ?_
                                  refine rs_ag 5 rfl (met_on rfl rfl rfl rfl) rfl rfl (v_move rfl) ?_
                                  refine rs_ag 7 rfl (met_on rfl rfl rfl rfl) rfl rfl (v_move rfl) ?_
                                  refine rs_ag 8 rfl (met_on rfl rfl rfl rfl) rfl rfl (v_sub rfl rfl (by omega)) ?_
                                  refine rs_vg 4 rfl (met_on rfl rfl rfl rfl) rfl rfl (OpV.mono (v_load T.scal_49 rfl) (fun w hw => by exact sat_cell hw (by (repeat first | with_reducible exact xH | apply xT); first | done | fail) rfl)) (by exact hw) ?_
                                  refine rs_kg 6 rfl (met_on rfl rfl rfl rfl) (k_callf Try.func7 rfl rfl rfl rfl ?_)
                                  refine Calls.mono (cut16_calls (by omega) hc1 (hw.xQ)) ?_
                                  rintro _ w ⟨rfl, hw⟩
                                  refine ⟨_, rfl, ?_⟩
                                  refine ⟨fun _ => (by exact hw), ?_⟩
                                  rw [show ((tr : Nat) : Int) + 1 - 1 = ((tr : Nat) : Int) by omega]
                                  refine rs_kg 9 rfl (met_on rfl rfl rfl rfl) (k_callf Try.func12 rfl rfl rfl rfl ?_)
                                  refine Calls.mono (rdraw_calls tr (by omega) (rdSl_take (min n1 40) (mono_sl (fun _ _ _ h => h) (hg.trans hg2) hd) (Nat.min_le_left ..)) (hw.xQ)) ?_
                                  rintro _ w ⟨rfl, hw⟩
                                  refine ⟨_, rfl, ?_⟩
                                  refine ⟨fun _ => (by exact hw), ?_⟩
                                  refine rs_kvg 10 rfl (met_on rfl rfl rfl rfl) rfl rfl (S' := fun _ => True) trivial (v_neqF rfl rfl (by omega)) ?_
                                  refine rs_kv 11 rfl rfl rfl rfl (S' := fun _ => True) trivial (v_pick_false rfl rfl) ?_
                                  refine rs_done (g_le (xK (xK (xK (xK (xK (xK (xK (xK (xK (xK (xK (xK (xK (Fr.le_refl _)))))))))))))) ?_)
                                  refine g_cond rfl (fun h9 => ?_) (fun h9 => ?_)
                                  · try with_reducible exact ft_elim h9
                                    all_goals
                                      try replace h9 := of_decide_eq_true h9
                                      refine g_seq ?_
                                      refine g_region ?_
                                      refine xV rfl rfl rfl (v_assign rfl) ?_
                                      refine rl_nil (g_le (xK (Fr.le_refl _)) ?_)
                                      refine g_ret1 Try.func3 rfl rfl ?_
                                      exact ⟨rfl, hw.xQ⟩
                                  · try with_reducible exact tf_elim h9
                                    all_goals
                                      try replace h9 := of_decide_eq_false h9
                                      refine g_skip (g_inBlock ?_)
                                      refine g_region ?_
                                      refine xV rfl rfl rfl (v_add rfl rfl (by omega)) ?_
                                      refine xV rfl rfl rfl (v_move rfl) ?_
                                      refine rl_nil (g_le (xK (xK (Fr.le_refl _))) ?_)
                                      exact g_le (by repeat (first | exact Fr.le_nil _ | refine Fr.le_cons rfl ?_)) (ih (i + 1, dn + 1, tr + 1, S', g2) w ⟨by simp only; omega, by simp only; omega, by simp only; omega, by simp only; omega, I', by simp only; omega, by simp only; rw [k2, hls], by simp only; rw [k3, hsp.1, decide_eq_decide]; omega, by simp only; rw [k3, hsp.2]; omega, hg.trans hg2, hw.xQ⟩ (by simp only; omega))
                          · try with_reducible exact tf_elim h8
                            all_goals
                              try replace h8 := of_decide_eq_false h8
                              have e := hst.1 (by rw [hoff]; exact decide_eq_true (by omega))
                              rw [e] at hwr
                              simp only [Prod.mk.injEq] at hwr
                              obtain ⟨rfl, rfl, rfl⟩ := hwr
                              refine g_seq ?_
                              refine g_region ?_
                              refine xV rfl rfl rfl (v_move rfl) ?_
                              refine xV rfl rfl rfl (v_neqF rfl rfl (by omega)) ?_
                              refine xV rfl rfl rfl (v_move rfl) ?_
                              refine rl_split (s := 90) rfl (fun g23_2 => ?_) (fun g23_2 => ?_)
                              · try with_reducible exact ft_elim g23_2
                                all_goals
                                  try replace g23_2 := of_decide_eq_true g23_2
                                  refine rl_off (met_off rfl rfl rfl rfl rfl) rfl rfl ?_
                                  refine rl_off (met_off rfl rfl rfl rfl rfl) rfl rfl ?_
                                  refine rl_off (met_off rfl rfl rfl rfl rfl) rfl rfl ?_
                                  first | (refine xV rfl rfl rfl (v_pick_true rfl rfl) ?_) | (refine xV rfl rfl rfl (v_pick_false rfl rfl) ?_) | (refine xV rfl rfl rfl (v_pick rfl rfl rfl) ?_)
                                  refine rl_nil (g_le (xK (xK (xK (xK (xK (xK (xK (xK (Fr.le_refl _))))))))) ?_)
                                  refine g_cond_true rfl ?_
                                  refine g_seq ?_
                                  refine g_region ?_
                                  refine xV rfl rfl rfl (v_assign rfl) ?_
                                  refine rl_nil (g_le (xK (Fr.le_refl _)) ?_)
                                  refine g_ret1 Try.func3 rfl rfl ?_
                                  exact ⟨rfl, hw.xQ⟩
                              · try with_reducible exact tf_elim g23_2
                                all_goals
                                  try replace g23_2 := of_decide_eq_false g23_2
                                  refine rl_vg (met_on rfl rfl rfl rfl) rfl rfl (by exact sat_cells hw (by (repeat first | with_reducible exact xH | apply xT); first | done | fail) ⟨rfl, rfl, rfl, rfl, trivial⟩) (v_loadAgg (vs := [_, _, _, _]) T.agg_51_4 rfl rfl) ?_
                                  refine rl_vg (met_on rfl rfl rfl rfl) rfl rfl (S := fun _ => True) trivial (v_build rfl (T.build_51 ..)) ?_
                                  refine rl_vg (met_on rfl rfl rfl rfl) rfl rfl (S := fun _ => True) trivial (v_neqAgg T.cmp_51_iiii rfl rfl rfl rfl (by rfl)) ?_
                                  refine xV rfl rfl rfl (v_pick_false rfl rfl) ?_
                                  refine rl_nil (g_le (xK (xK (xK (xK (xK (xK (xK (xK (Fr.le_refl _))))))))) ?_)
                                  refine g_cond rfl (fun h10 => ?_) (fun h10 => ?_)
                                  · try with_reducible exact ft_elim h10
                                    all_goals
                                      try replace h10 := of_decide_eq_true h10
                                      exact absurd h10 (by simp [rf0])
                                  · try with_reducible exact tf_elim h10
                                    all_goals
                                      try replace h10 := of_decide_eq_false h10
                                      refine g_skip (g_inBlock ?_)
                                      refine g_region ?_
                                      refine xV rfl rfl rfl (v_add rfl rfl (by omega)) ?_
                                      refine xV rfl rfl rfl (v_move rfl) ?_
                                      refine rl_nil (g_le (xK (xK (Fr.le_refl _))) ?_)
                                      exact g_le (by repeat (first | exact Fr.le_nil _ | refine Fr.le_cons rfl ?_)) (ih (i + 1, dn, tr + 1, { S with tk := S.tk + 1 }, g2) w ⟨by simp only; omega, by simp only; omega, by simp only; omega, by simp only; omega, I.retk _, by simp only; omega, hls, hoff, hah, hg.trans hg2, hw.xQ⟩ (by simp only; omega))
              · try with_reducible exact tf_elim h4
                all_goals
                  try replace h4 := of_decide_eq_false h4
                  refine g_exit rfl (g_seq ?_)
                  obtain ⟨a3, hels3, hw⟩ := pg_open (hw.xP (A := PgA pp q S g))
                  refine g_region ?_
                  refine xV rfl rfl rfl (v_move rfl) ?_
                  refine xV rfl rfl rfl (v_nilCheck rfl) ?_
                  refine xV rfl rfl rfl (v_fieldAddr0 T.fld_35_0_0 rfl) ?_
                  refine rl_v rfl rfl rfl (by exact sat_cell hw (by (repeat first | with_reducible exact xH | apply xT); first | done | fail) rfl) (v_load T.scal_31 rfl) ?_
                  refine xV rfl rfl rfl (v_nilCheck rfl) ?_
                  refine xV rfl rfl rfl (v_fieldAddr0 T.fld_39_0_0 rfl) ?_
                  refine rl_v rfl rfl rfl (by exact sat_cell hw (by (repeat first | with_reducible exact xH | apply xT); first | done | fail) rfl) (v_load T.scal_36 rfl) ?_
                  refine rl_k rfl (k_callf Try.func13 rfl rfl rfl rfl ?_)
                  refine Calls.mono (mcount_calls a3.m a3.p S.md (hw.xP)) ?_
                  rw [I.past]
                  rintro _ w ⟨rfl, hw⟩
                  refine ⟨_, rfl, ?_⟩
                  refine xV rfl rfl rfl (v_move rfl) ?_
                  refine xV rfl rfl rfl (v_eqlT rfl rfl (by omega)) ?_
                  refine xV rfl rfl rfl (v_move rfl) ?_
                  refine rl_split (s := 106) rfl (fun g26_10 => ?_) (fun g26_10 => ?_)
                  · try with_reducible exact ft_elim g26_10
                    all_goals
                      try replace g26_10 := of_decide_eq_true g26_10
                      refine rl_vg (met_on rfl rfl rfl rfl) rfl rfl (S := fun _ => True) trivial (v_move rfl) ?_
                      refine rl_vg (met_on rfl rfl rfl rfl) rfl rfl (S := fun _ => True) trivial (v_nilCheck rfl) ?_
                      refine rl_vg (met_on rfl rfl rfl rfl) rfl rfl (S := fun _ => True) trivial (v_fieldAddr0 T.fld_35_2_2 rfl) ?_
                      refine rl_vg (met_on rfl rfl rfl rfl) rfl rfl (by exact sat_cell hw (by (repeat first | with_reducible exact xH | apply xT); first | done | fail) rfl) (v_load T.scal_33 rfl) ?_
                      refine rl_kg (met_on rfl rfl rfl rfl) (k_callf Try.func14 rfl rfl rfl rfl ?_)
                      refine Calls.mono (taken_calls a3.d a3.dv (S.tk : Nat) (hw.xP)) ?_
                      rw [htk]
                      rintro _ w ⟨rfl, hw⟩
                      refine ⟨_, rfl, ?_⟩
                      refine rl_vg (met_on rfl rfl rfl rfl) rfl rfl (S := fun _ => True) trivial (v_move rfl) ?_
                      refine rl_vg (met_on rfl rfl rfl rfl) rfl rfl (S := fun _ => True) trivial (v_eqlT rfl rfl (by omega)) ?_
                      refine xV rfl rfl rfl (v_pick_true rfl rfl) ?_
                      refine xV rfl rfl rfl (v_assign rfl) ?_
                      refine rl_nil (g_le (xK (xS rfl (xS rfl (xS rfl (xS rfl (xS rfl (xS rfl (xS rfl (xS rfl (xS rfl (xS rfl (xS rfl (xS rfl (xS rfl (xS rfl (xS rfl (xS rfl (xS rfl (xS rfl (xS rfl (xS rfl (Fr.le_refl _)))))))))))))))))))))) ?_)
                      refine g_ret1 Try.func3 rfl rfl ?_
                      refine ⟨?_, (hw.xQ : Sat (envOf W) w [RO g]).shrink hg⟩
                      first | rfl | simp
                  · try with_reducible exact tf_elim g26_10
                    all_goals
                      try replace g26_10 := of_decide_eq_false g26_10
                      refine rl_off (met_off rfl rfl rfl rfl rfl) rfl rfl ?_
                      refine rl_off (met_off rfl rfl rfl rfl rfl) rfl rfl ?_
                      refine rl_off (met_off rfl rfl rfl rfl rfl) rfl rfl ?_
                      refine rl_off (met_off rfl rfl rfl rfl rfl) rfl rfl ?_
                      refine rl_off (met_off rfl rfl rfl rfl rfl) rfl rfl ?_
                      refine rl_off (met_off rfl rfl rfl rfl rfl) rfl rfl ?_
                      refine rl_off (met_off rfl rfl rfl rfl rfl) rfl rfl ?_
                      first | (refine xV rfl rfl rfl (v_pick_true rfl rfl) ?_) | (refine xV rfl rfl rfl (v_pick_false rfl rfl) ?_) | (refine xV rfl rfl rfl (v_pick rfl rfl rfl) ?_)
                      refine xV rfl rfl rfl (v_assign rfl) ?_
                      refine rl_nil (g_le (xK (xS rfl (xS rfl (xS rfl (xS rfl (xS rfl (xS rfl (xS rfl (xS rfl (xS rfl (xS rfl (xS rfl (xS rfl (xS rfl (xS rfl (xS rfl (xS rfl (xS rfl (xS rfl (xS rfl (xS rfl (Fr.le_refl _)))))))))))))))))))))) ?_)
                      refine g_ret1 Try.func3 rfl rfl ?_
                      refine ⟨?_, (hw.xQ : Sat (envOf W) w [RO g]).shrink hg⟩
                      first | rfl | simp
          · intro joinr6
            refine g_region ?_
            refine xV rfl rfl rfl (v_move rfl) ?_
            refine xV rfl rfl rfl (v_lss rfl rfl) ?_
            refine xV rfl rfl rfl (v_move rfl) ?_
            refine rl_split (s := 29) rfl (fun g6_2 => ?_) (fun g6_2 => ?_)
            · try with_reducible exact ft_elim g6_2
              all_goals
                try replace g6_2 := of_decide_eq_true g6_2
                refine rl_off (met_off rfl rfl rfl rfl rfl) rfl rfl ?_
                refine rl_off (met_off rfl rfl rfl rfl rfl) rfl rfl ?_
                refine xV rfl rfl rfl (v_pick_true rfl rfl) ?_
                refine rl_nil (g_le (xK (xS rfl (xS rfl (xS rfl (xS rfl (xS rfl (xS rfl (Fr.le_refl _)))))))) ?_)
                refine g_cond_true rfl ?_
                refine g_region ?_
                refine xV rfl rfl rfl (v_assign rfl) ?_
                refine rl_nil (g_le (xK (Fr.le_refl _)) ?_)
                exact joinr6 3 w _ (by repeat (first | exact Fr.le_nil _ | refine Fr.le_cons rfl ?_)) ⟨by omega, by omega, hw.xQ⟩
            · try with_reducible exact tf_elim g6_2
              all_goals
                try replace g6_2 := of_decide_eq_false g6_2
                refine rl_vg (met_on rfl rfl rfl rfl) rfl rfl (S := fun _ => True) trivial (v_move rfl) ?_
                refine rl_vg (met_on rfl rfl rfl rfl) rfl rfl (S := fun _ => True) trivial (v_gtr rfl rfl) ?_
                refine xV rfl rfl rfl (v_pick_false rfl rfl) ?_
                refine rl_nil (g_le (xK (xS rfl (xS rfl (xS rfl (xS rfl (xS rfl (xS rfl (Fr.le_refl _)))))))) ?_)
                refine g_cond rfl (fun h3 => ?_) (fun h3 => ?_)
                · try with_reducible exact ft_elim h3
                  all_goals
                    try replace h3 := of_decide_eq_true h3
                    refine g_region ?_
                    refine xV rfl rfl rfl (v_assign rfl) ?_
                    refine rl_nil (g_le (xK (Fr.le_refl _)) ?_)
                    exact joinr6 3 w _ (by repeat (first | exact Fr.le_nil _ | refine Fr.le_cons rfl ?_)) ⟨by omega, by omega, hw.xQ⟩
                · try with_reducible exact tf_elim h3
                  all_goals
                    try replace h3 := of_decide_eq_false h3
                    refine g_skip ?_
                    exact joinr6 n w _ (by repeat (first | exact Fr.le_nil _ | refine Fr.le_cons rfl ?_)) ⟨by omega, by omega, hw.xQ⟩
theorem PagesCuts_law {w : World} {qcs : Array Value} {xq : Quota} {a1 a2 : Option Addr} {n1 c1 n2 c2 : Nat} {xs : List Int} {ns : List Nd} {n : Int} (hq : rdArg rdQuota w (.agg qcs) xq) (hd : rdArg (rdSl 8 1 (rdInt .u64)) w (.slice a1 n1 c1) xs) (hn : rdArg (rdSl 56 3 rdNd) w (.slice a2 n2 c2) ns) (hi : (Lit.int .i64 n).wf = true) :
    Law Try.prog 3 [.agg qcs, .slice a1 n1 c1, .slice a2 n2 c2, .int .i64 n] w := by
  unfold Law
  have hw := Sat.old w
  obtain ⟨q, rfl⟩ := qt_of hq
  clear hq hi
  generalize w = W at hw hd hn ⊢
  have hd : (rdSl 8 1 (rdInt .u64)) (hpOf W) [.slice a1 n1 c1] xs := hd
  have hn : (rdSl 56 3 rdNd) (hpOf W) [.slice a2 n2 c2] ns := hn
  by_cases hq : q.ok
  · exact PagesCuts_good hq hd hn hw
  · exact PagesCuts_bad hq hd hw

set_option maxRecDepth 100000 in
theorem PagesCuts_lifted (os : Os) (started : os.Started) (H : Type) (enc : TypeId × Value → H) :
    ReturnsInHanded {} Try.checked os 3 .any (Rows.pagesCutsSpec.pre6 enc Try.prog Try.f3 Rows.pagesCutsRow.domain false) (Rows.pagesCutsSpec.post enc Try.prog Try.f3 false true false false) := by
  refine returnsInHanded_of_change_sized (C := Try.checked) T.own started (by kernel_rfl) Try.func3
    (ChangeSpec.witness6 (enc := enc) (C := Try.checked) false ⟨#[], #[(.agg #[(.int .i64 0), (.int .i64 0), (.int .i64 0), (.int .i64 0), (.int .i64 0), (.int .i64 0), (.int .i64 0)]), (.slice none 0 0), (.slice none 0 0), (.int .i64 0)], []⟩ 8 (by kernel_rfl) (by kernel_rfl) (by kernel_rfl) (by kernel_rfl)) ?_
  intro W base args ds gs before hval0 hW hcnd hsz0 _
  have hval : ∀ (j : Nat) t v, Try.f3.params[j]? = some t → args[j]? = some v → Value.okWide Try.prog W .any base t v := hval0
  have hW' := hW
  obtain ⟨p, q, hA0, hV, rfl, hfz, hnd⟩ := hW
  have hA : DataW.TrodAll enc Try.prog W 0 (fun _ => true) true Try.f3.params.toList args.toList ds p := hA0
  obtain ⟨rfl, rfl⟩ := trodVars_none hV
  have hsz : (DataW.weightsEach Try.prog (Try.f3.params.toList ++ []) (ds ++ [])).all (· ≤ reachBytes) = true := hsz0
  rw [List.append_nil, List.append_nil] at hsz
  rw [Try.params3] at hA hval hsz
  obtain ⟨v0, vs0, d0, ds0, p0, q0, hargs, rfl, rfl, h0, r0⟩ := trodAll_cons hA
  obtain ⟨v1, vs1, d1, ds1, p1, q1, rfl, rfl, rfl, h1, r1⟩ := trodAll_cons r0
  obtain ⟨v2, vs2, d2, ds2, p2, q2, rfl, rfl, rfl, h2, r2⟩ := trodAll_cons r1
  obtain ⟨v3, vs3, d3, ds3, p3, q3, rfl, rfl, rfl, h3, r3⟩ := trodAll_cons r2
  obtain ⟨rfl, rfl, rfl⟩ := trodAll_nil r3
  obtain rfl : args = #[v0, v1, v2, v3] := by cases args; simp_all
  have lt0 : ∀ x ∈ p0, x.block < W.heap.size := by obtain ⟨m, hm⟩ := h0; exact DataW.trod_lt m _ _ _ hm
  obtain ⟨x0, w0⟩ := arg_of (j := 0) reads_Quota h0 hsz rfl rfl
  have lt1 : ∀ x ∈ p1, x.block < W.heap.size := by obtain ⟨m, hm⟩ := h1; exact DataW.trod_lt m _ _ _ hm
  obtain ⟨x1, w1⟩ := arg_of (j := 1) (reads_sl T.sl_24_49_1 T.bytes_49_8 (by decide) (reads_int T.int_49_u64)) h1 hsz rfl rfl
  have lt2 : ∀ x ∈ p2, x.block < W.heap.size := by obtain ⟨m, hm⟩ := h2; exact DataW.trod_lt m _ _ _ hm
  obtain ⟨x2, w2⟩ := arg_of (j := 2) (reads_sl T.sl_25_48_3 T.bytes_48_56 (by decide) reads_Nd) h2 hsz rfl rfl
  have lt3 : ∀ x ∈ p3, x.block < W.heap.size := by obtain ⟨m, hm⟩ := h3; exact DataW.trod_lt m _ _ _ hm
  obtain ⟨x3, w3⟩ := arg_of (j := 3) (reads_int T.int_3_i64) h3 hsz rfl rfl
  obtain ⟨cs0, rfl⟩ := okWide_agg T.agg_23_7 (hval 0 23 v0 rfl rfl)
  obtain ⟨a1, l1, c1, rfl⟩ := okWide_slice Try.underlying24 (hval 1 24 v1 rfl rfl)
  obtain ⟨a2, l2, c2, rfl⟩ := okWide_slice Try.underlying25 (hval 2 25 v2 rfl rfl)
  obtain ⟨n3, rfl⟩ := okWide_int Try.underlying3 (hval 3 3 v3 rfl rfl)
  obtain ⟨hc3, hr3⟩ := w3
  cases hc3
  refine (PagesCuts_law w0 w1 w2 hr3).mono fun e W' ⟨he, hb⟩ => ?_
  have bel := hb.below
  subst he
  exact ⟨_, rfl, _, _, _, [], _, [], hW', trodAll_mk1 (shut_bool Try.underlying4 _), (trodAll_cons_mk (Below.trod T.laidOut (by kernel_rfl) (of_decide_eq_true (by kernel_rfl)) h0 bel lt0) (trodAll_cons_mk (Below.trod T.laidOut (by kernel_rfl) (of_decide_eq_true (by kernel_rfl)) h1 bel lt1) (trodAll_cons_mk (Below.trod T.laidOut (by kernel_rfl) (of_decide_eq_true (by kernel_rfl)) h2 bel lt2) (trodAll_cons_mk (Below.trod T.laidOut (by kernel_rfl) (of_decide_eq_true (by kernel_rfl)) h3 bel lt3) trodAll_mk0)))), rfl, bel.frame _, fun h => by cases h⟩
theorem PagesCuts_holds : Rows.PagesCutsSaid :=
  OpenClaim.holds_of_wide 3 Try.f3 rfl rfl rfl rfl rfl rfl rfl ⟨rfl, rfl, rfl, rfl, rfl⟩ rfl rfl rfl rfl rfl (by kernel_rfl) Try.func3 (by kernel_rfl)
    (of_decide_eq_true (by kernel_rfl)) (by unfold Func.isWrapper; rw [if_neg (of_decide_eq_false (by kernel_rfl))]; exact ⟨rfl, rfl⟩)
    (fun os started H enc _ => PagesCuts_lifted os started H enc)
#print axioms PagesCuts_holds
end Go.Proofs.Ytlgpdglnfjndhaa
