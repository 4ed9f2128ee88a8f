/-
  ListLost: at a root that is no page every call answers ErrPage.
-/
import Derived.Test.YtdiocmjhencbpaaL14
import Derived.Test.YtdiocmjhencbpaaT07L
import Derived.Test.YtdiocmjhencbpaaRows
namespace Go.Proofs.Ytdiocmjhencbpaa
set_option maxRecDepth 8000
set_option linter.unusedSimpArgs false
set_option linter.unusedVariables false
open Go Xe Go.Lib Go.RowKit Go.ChangeShapes Go.WideShapes Go.ChangeAt
structure Quota where
  secrets : Int
  name : Int
  value : Int
  note : Int
  versions : Int
  batch : Int
  cache : Int
instance : DecidableEq Quota := fun a b => decidable_of_iff (a.secrets = b.secrets ∧ a.name = b.name ∧ a.value = b.value ∧ a.note = b.note ∧ a.versions = b.versions ∧ a.batch = b.batch ∧ a.cache = b.cache) (by cases a; cases b; simp)
@[reducible] def Quota.cells (x : Quota) : List Value := [.int .i64 x.secrets, .int .i64 x.name, .int .i64 x.value, .int .i64 x.note, .int .i64 x.versions, .int .i64 x.batch, .int .i64 x.cache]
def Quota.ok (x : Quota) : Prop := (Lit.int .i64 x.secrets).wf = true ∧ (Lit.int .i64 x.name).wf = true ∧ (Lit.int .i64 x.value).wf = true ∧ (Lit.int .i64 x.note).wf = true ∧ (Lit.int .i64 x.versions).wf = true ∧ (Lit.int .i64 x.batch).wf = true ∧ (Lit.int .i64 x.cache).wf = true
def rdQuota : Rd Quota := fun _ cs x => cs = x.cells ∧ x.ok
theorem mono_Quota : Rd.Mono rdQuota := fun _ _ _ h => h
theorem one_Quota : Rd.One rdQuota := fun h => by rw [h.1]; simp [Value.oneCell']
theorem eq_Quota (x y : Quota) : cellsEq x.cells y.cells = some (decide (x = y)) := by
  simp only [cellsEq, cellEq, if_true, Bool.and_true, Option.some.injEq]
  by_cases h : x = y
  · subst h; simp
  · rw [decide_eq_false h]
    refine Bool.eq_false_iff.2 fun h2 => h ?_
    simp only [Bool.and_eq_true, decide_eq_true_eq, beq_iff_eq] at h2
    obtain ⟨_, _, _, _, _, _, _⟩ := x
    obtain ⟨_, _, _, _, _, _, _⟩ := y
    simp_all
theorem reads_Quota {H : Type} {enc : TypeId × Value → H} : Reads enc Try.prog 23 rdQuota := fun w fuel cs d ps h hz => by
  have hl := reads_length T.agg_23_7 (by kernel_rfl) h hz
  obtain ⟨c0, c1, c2, c3, c4, c5, c6, rfl⟩ : ∃ c0 c1 c2 c3 c4 c5 c6, cs = [c0, c1, c2, c3, c4, c5, c6] := by
    match cs, hl with
    | [c0, c1, c2, c3, c4, c5, c6], _ => exact ⟨_, _, _, _, _, _, _, rfl⟩
  obtain ⟨x0, h0⟩ := reads_field (i := 0) (off := 0) (k := 1) (ft := 3) (by kernel_rfl) h hz (reads_int T.int_3_i64)
  obtain ⟨x1, h1⟩ := reads_field (i := 1) (off := 1) (k := 1) (ft := 3) (by kernel_rfl) h hz (reads_int T.int_3_i64)
  obtain ⟨x2, h2⟩ := reads_field (i := 2) (off := 2) (k := 1) (ft := 3) (by kernel_rfl) h hz (reads_int T.int_3_i64)
  obtain ⟨x3, h3⟩ := reads_field (i := 3) (off := 3) (k := 1) (ft := 3) (by kernel_rfl) h hz (reads_int T.int_3_i64)
  obtain ⟨x4, h4⟩ := reads_field (i := 4) (off := 4) (k := 1) (ft := 3) (by kernel_rfl) h hz (reads_int T.int_3_i64)
  obtain ⟨x5, h5⟩ := reads_field (i := 5) (off := 5) (k := 1) (ft := 3) (by kernel_rfl) h hz (reads_int T.int_3_i64)
  obtain ⟨x6, h6⟩ := reads_field (i := 6) (off := 6) (k := 1) (ft := 3) (by kernel_rfl) h hz (reads_int T.int_3_i64)
  obtain ⟨e0, k0⟩ := h0
  obtain ⟨e1, k1⟩ := h1
  obtain ⟨e2, k2⟩ := h2
  obtain ⟨e3, k3⟩ := h3
  obtain ⟨e4, k4⟩ := h4
  obtain ⟨e5, k5⟩ := h5
  obtain ⟨e6, k6⟩ := h6
  simp only [List.drop_zero, List.drop_succ_cons, List.take_succ_cons, List.take_zero, List.cons.injEq, and_true] at e0 e1 e2 e3 e4 e5 e6
  obtain rfl := e0
  obtain rfl := e1
  obtain rfl := e2
  obtain rfl := e3
  obtain rfl := e4
  obtain rfl := e5
  obtain rfl := e6
  exact ⟨⟨x0, x1, x2, x3, x4, x5, x6⟩, rfl, k0, k1, k2, k3, k4, k5, k6⟩
structure Shp where
  levels : Int
  pages : Int
  secrets : Int
  bytes : Int
instance : DecidableEq Shp := fun a b => decidable_of_iff (a.levels = b.levels ∧ a.pages = b.pages ∧ a.secrets = b.secrets ∧ a.bytes = b.bytes) (by cases a; cases b; simp)
@[reducible] def Shp.cells (x : Shp) : List Value := [.int .i64 x.levels, .int .i64 x.pages, .int .i64 x.secrets, .int .i64 x.bytes]
def Shp.ok (x : Shp) : Prop := (Lit.int .i64 x.levels).wf = true ∧ (Lit.int .i64 x.pages).wf = true ∧ (Lit.int .i64 x.secrets).wf = true ∧ (Lit.int .i64 x.bytes).wf = true
def rdShp : Rd Shp := fun _ cs x => cs = x.cells ∧ x.ok
theorem mono_Shp : Rd.Mono rdShp := fun _ _ _ h => h
theorem one_Shp : Rd.One rdShp := fun h => by rw [h.1]; simp [Value.oneCell']
theorem eq_Shp (x y : Shp) : cellsEq x.cells y.cells = some (decide (x = y)) := by
  simp only [cellsEq, cellEq, if_true, Bool.and_true, Option.some.injEq]
  by_cases h : x = y
  · subst h; simp
  · rw [decide_eq_false h]
    refine Bool.eq_false_iff.2 fun h2 => h ?_
    simp only [Bool.and_eq_true, decide_eq_true_eq, beq_iff_eq] at h2
    obtain ⟨_, _, _, _⟩ := x
    obtain ⟨_, _, _, _⟩ := y
    simp_all
theorem reads_Shp {H : Type} {enc : TypeId × Value → H} : Reads enc Try.prog 45 rdShp := fun w fuel cs d ps h hz => by
  have hl := reads_length T.agg_45_4 (by kernel_rfl) h hz
  obtain ⟨c0, c1, c2, c3, rfl⟩ : ∃ c0 c1 c2 c3, cs = [c0, c1, c2, c3] := by
    match cs, hl with
    | [c0, c1, c2, c3], _ => exact ⟨_, _, _, _, rfl⟩
  obtain ⟨x0, h0⟩ := reads_field (i := 0) (off := 0) (k := 1) (ft := 3) (by kernel_rfl) h hz (reads_int T.int_3_i64)
  obtain ⟨x1, h1⟩ := reads_field (i := 1) (off := 1) (k := 1) (ft := 3) (by kernel_rfl) h hz (reads_int T.int_3_i64)
  obtain ⟨x2, h2⟩ := reads_field (i := 2) (off := 2) (k := 1) (ft := 3) (by kernel_rfl) h hz (reads_int T.int_3_i64)
  obtain ⟨x3, h3⟩ := reads_field (i := 3) (off := 3) (k := 1) (ft := 3) (by kernel_rfl) h hz (reads_int T.int_3_i64)
  obtain ⟨e0, k0⟩ := h0
  obtain ⟨e1, k1⟩ := h1
  obtain ⟨e2, k2⟩ := h2
  obtain ⟨e3, k3⟩ := h3
  simp only [List.drop_zero, List.drop_succ_cons, List.take_succ_cons, List.take_zero, List.cons.injEq, and_true] at e0 e1 e2 e3
  obtain rfl := e0
  obtain rfl := e1
  obtain rfl := e2
  obtain rfl := e3
  exact ⟨⟨x0, x1, x2, x3⟩, rfl, k0, k1, k2, k3⟩
theorem qt_of {w : World} {cs : Array Value} {x : Quota} (hr : rdArg rdQuota w (.agg cs) x) : ∃ q : Qt, cs = q.cells.toArray :=
  ⟨⟨x.secrets, x.name, x.value, x.note, x.versions, x.batch, x.cache⟩, by apply Array.ext'; exact hr.1⟩
theorem lost_all {r : Rf} : allO heapO 8 1 [] r = ([], 71, []) := by
  have h : rdH [] r = (nd0, 71, []) := if_neg (by rintro ⟨h1, h2, _⟩; simp at h2; omega)
  have ha : atO heapO 8 [] r = (nd0, 71, []) := by
    simp only [atO, at1, h]; exact if_pos (by simp)
  exact allO_bad heapO ha (by simp)
theorem lost_secs {r : Rf} (p : En → Bool) : secsO heapO [] r p = ([], 71, []) := by
  unfold secsO; rw [lost_all]; rfl
set_option maxHeartbeats 4000000 in
theorem ListLost_law {w : World} {qcs rcs : Array Value} {xq : Quota} {r : Rf} {s : ByteArray} {n : Int} (hq : rdArg rdQuota w (.agg qcs) xq) (hr : rdArg rdRf w (.agg rcs) r) (hs1 : s.size ≤ reachBytes) (hn1 : (Lit.int .i64 n).wf = true) :
    Law Try.prog 3 [.agg qcs, .agg rcs, .string s, .int .i64 n] w := by
  unfold Law
  have hw := Sat.old w
  obtain ⟨q, rfl⟩ := qt_of hq
  clear hq
  generalize w = W at hr hw ⊢
  obtain ⟨hrc, hrk⟩ := hr
  obtain rfl : rcs = r.cells.toArray := by apply Array.ext'; exact hrc
  clear hrc
  have hrq : (q.right ≠ 0) ↔ ¬ q.ok := by unfold Qt.right; split <;> simp_all
  refine calls_of_g (n := 129) Try.func3 rfl rfl rfl ?_
  change G _ _ _ _ _ [(0, _), (1, _), (2, _), (3, _)] _
  refine g_seq ?_
  refine g_region ?_
  refine rl_k rfl (k_box hw rfl rfl rfl (fun bk0_0 w hw => ?_))
  refine rl_k rfl (k_box hw rfl rfl rfl (fun bk0_1 w hw => ?_))
  refine xV rfl rfl rfl (v_assign rfl) ?_
  refine rl_nil (g_le (xK (xK (xK (Fr.le_refl _)))) ?_)
  refine g_seq ?_
  refine g_region ?_
  refine rl_k rfl (k_callf Try.func9 rfl rfl rfl rfl ?_)
  refine Calls.mono (tnew_calls (g := hpOf W) (hw.xQ)) ?_
  rintro _ w ⟨h, A, rfl, hI, hw⟩
  refine ⟨_, rfl, ?_⟩
  refine xV rfl rfl rfl (v_assign rfl) ?_
  refine rl_nil (g_le (xK (xS rfl (Fr.le_refl _))) ?_)
  refine g_seq (g_seq ?_)
  refine g_region ?_
  refine xV rfl rfl rfl (v_move rfl) ?_
  refine xV rfl rfl rfl (v_eqlNil T.ptr_27 rfl rfl) ?_
  refine rl_nil (g_le (xK (xS rfl (Fr.le_refl _))) ?_)
  refine g_cond_false rfl ?_
  refine g_skip (g_seq ?_)
  refine g_region ?_
  refine xV rfl rfl rfl (v_move rfl) ?_
  refine xV rfl rfl rfl (v_mkIface T.ptr_27 rfl) ?_
  refine rl_v rfl rfl rfl (by exact sat_cells hw (by (repeat first | with_reducible exact xH | apply xT); first | done | fail) ⟨rfl, rfl, rfl, rfl, trivial⟩) (v_loadAgg (vs := [_, _, _, _]) T.agg_26_4 rfl rfl) ?_
  refine xV rfl rfl rfl (v_move rfl) ?_
  refine rl_k rfl (k_buildSlice (cells := [_]) hw T.sl_29_9_1 T.zero_9 rfl rfl rfl rfl rfl rfl (fun bk4_4 w hw => ?_))
  refine rl_k rfl (k_callf Try.func10 rfl rfl rfl rfl ?_)
  obtain ⟨g2, hg2, hl2, hw⟩ := ((hw.xP (A := pt bk4_4 (.cells [Value.string s].toArray 9 (0, 0)))).xP (A := RO (hpOf W))).freeze_lit (R := rdStr) (sz := 1) (bytes := 16) mono_str (xs := [s]) (Els.one (cs := [Value.string s]) rfl ⟨rfl, hs1⟩) rfl (by simp [maxLen]) (by simp [reachBytes])
  refine Calls.mono (Names_calls (heapPg h) (s := []) r hrk (HeapI.mono hg2 hI) hl2 (hw.xQ)) ?_
  rw [show (heapPg h).ops = heapO from rfl, lost_secs]
  dsimp only
  rintro _ w ⟨g3, A3, xa, xn, xc, hg3, hI3, rfl, hx3, _, hw⟩
  obtain ⟨rfl, _⟩ := rdSl_get hx3
  refine ⟨_, rfl, ?_⟩
  refine xV rfl rfl rfl (v_move rfl) ?_
  refine xV rfl rfl rfl (v_extract rfl rfl) ?_
  refine xV rfl rfl rfl (v_extract rfl rfl) ?_
  refine xV rfl rfl rfl (v_assign rfl) ?_
  refine xV rfl rfl rfl (v_assign rfl) ?_
  refine rl_nil (g_le (xK (xK (xS rfl (xS rfl (xS rfl (xS rfl (xS rfl (xS rfl (xS rfl (xS rfl (xS rfl (Fr.le_refl _)))))))))))) ?_)
  refine g_seq ?_
  refine g_region ?_
  refine xV rfl rfl rfl (v_move rfl) ?_
  refine xV rfl rfl rfl (v_mkIface T.ptr_27 rfl) ?_
  refine rl_v rfl rfl rfl (by exact sat_cells hw (by (repeat first | with_reducible exact xH | apply xT); first | done | fail) ⟨rfl, rfl, rfl, rfl, trivial⟩) (v_loadAgg (vs := [_, _, _, _]) T.agg_26_4 rfl rfl) ?_
  refine xV rfl rfl rfl (v_move rfl) ?_
  refine rl_k rfl (k_callf Try.func11 rfl rfl rfl rfl ?_)
  refine Calls.mono (Range_calls (heapPg h) (s := []) r hrk hI3 ⟨#[]⟩ s (hw.xQ)) ?_
  rw [show (heapPg h).ops = heapO from rfl, lost_secs]
  dsimp only
  rintro _ w ⟨g4, A4, ya, yn, yc, hg4, hI4, rfl, hy4, _, hw⟩
  obtain ⟨rfl, _⟩ := rdSl_get hy4
  refine ⟨_, rfl, ?_⟩
  refine xV rfl rfl rfl (v_move rfl) ?_
  refine xV rfl rfl rfl (v_extract rfl rfl) ?_
  refine xV rfl rfl rfl (v_extract rfl rfl) ?_
  refine xV rfl rfl rfl (v_assign rfl) ?_
  refine xV rfl rfl rfl (v_assign rfl) ?_
  refine rl_nil (g_le (xK (xK (xS rfl (xS rfl (xS rfl (xS rfl (xS rfl (xS rfl (xS rfl (xS rfl (Fr.le_refl _))))))))))) ?_)
  refine g_seq ?_
  refine g_region ?_
  refine xV rfl rfl rfl (v_move rfl) ?_
  refine xV rfl rfl rfl (v_mkIface T.ptr_27 rfl) ?_
  refine rl_v rfl rfl rfl (by exact sat_cells hw (by (repeat first | with_reducible exact xH | apply xT); first | done | fail) ⟨rfl, rfl, rfl, rfl, trivial⟩) (v_loadAgg (vs := [_, _, _, _]) T.agg_26_4 rfl rfl) ?_
  refine rl_k rfl (k_callf Try.func12 rfl rfl rfl rfl ?_)
  refine Calls.mono (Count_calls (heapPg h) (s := []) r hrk hI4 (hw.xQ)) ?_
  rw [show (heapPg h).ops = heapO from rfl, lost_secs]
  dsimp only
  rintro _ w ⟨g5, A5, hg5, hI5, rfl, hw⟩
  refine ⟨_, rfl, ?_⟩
  refine xV rfl rfl rfl (v_move rfl) ?_
  refine xV rfl rfl rfl (v_extract rfl rfl) ?_
  refine xV rfl rfl rfl (v_extract rfl rfl) ?_
  refine xV rfl rfl rfl (v_assign rfl) ?_
  refine xV rfl rfl rfl (v_assign rfl) ?_
  refine rl_nil (g_le (xK (xK (xS rfl (xS rfl (xS rfl (xS rfl (xS rfl (xS rfl (xS rfl (Fr.le_refl _)))))))))) ?_)
  refine g_seq ?_
  refine g_region ?_
  refine xV rfl rfl rfl (v_move rfl) ?_
  refine xV rfl rfl rfl (v_mkIface T.ptr_27 rfl) ?_
  refine rl_v rfl rfl rfl (by exact sat_cells hw (by (repeat first | with_reducible exact xH | apply xT); first | done | fail) ⟨rfl, rfl, rfl, rfl, trivial⟩) (v_loadAgg (vs := [_, _, _, _]) T.agg_26_4 rfl rfl) ?_
  refine xV rfl rfl rfl (v_move rfl) ?_
  refine rl_k rfl (k_callf Try.func13 rfl rfl rfl rfl ?_)
  refine Calls.mono (Nth_calls (heapPg h) (s := []) r hrk hI5 n (hw.xQ)) ?_
  rw [show (heapPg h).ops = heapO from rfl, lost_secs]
  rintro _ w ⟨g6, A6, ncs, q6, rfl, hg6, hI6, rfl, hn6, hw⟩
  rw [show atO8 [] n 71 = (en0, false, 71) from if_pos (by simp)] at *
  dsimp only at hn6 ⊢
  obtain ⟨nva, nvn, nvc, rfl, hn6⟩ := en_told hn6
  refine ⟨_, rfl, ?_⟩
  refine xV rfl rfl rfl (v_move rfl) ?_
  refine xV rfl rfl rfl (v_extract rfl rfl) ?_
  refine xV rfl rfl rfl (v_extract rfl rfl) ?_
  refine xV rfl rfl rfl (v_extract rfl rfl) ?_
  refine rl_k rfl (k_alloc hw T.zero_40 rfl rfl (fun bk7_9 w hw => ?_))
  refine rl_k rfl (k_storeWhole hw T.agg_40_2 rfl rfl (by simp [Value.oneCell']) rfl (by (repeat first | with_reducible exact xH | apply xT); first | done | fail) rfl (fun w hw => ?_))
  refine xV rfl rfl rfl (v_assign rfl) ?_
  refine xV rfl rfl rfl (v_assign rfl) ?_
  refine rl_nil (g_le (xK (xK (xS rfl (xS rfl (xS rfl (xS rfl (xS rfl (xS rfl (xS rfl (xS rfl (xS rfl (xS rfl (Fr.le_refl _))))))))))))) ?_)
  refine g_seq ?_
  refine g_region ?_
  refine xV rfl rfl rfl (v_move rfl) ?_
  refine xV rfl rfl rfl (v_mkIface T.ptr_27 rfl) ?_
  refine rl_v rfl rfl rfl (by exact sat_cells hw (by (repeat first | with_reducible exact xH | apply xT); first | done | fail) ⟨rfl, rfl, rfl, rfl, trivial⟩) (v_loadAgg (vs := [_, _, _, _]) T.agg_26_4 rfl rfl) ?_
  refine xV rfl rfl rfl (v_move rfl) ?_
  refine rl_k rfl (k_callf Try.func14 rfl rfl rfl rfl ?_)
  refine Calls.mono (Floor_calls (heapPg h) (s := []) r hrk hI6 s (hw.xQ)) ?_
  rw [show (heapPg h).ops = heapO from rfl, lost_secs]
  rintro _ w ⟨g7, A7, fcs, q7, rfl, hg7, hI7, rfl, hf7, hw⟩
  dsimp only at hf7 ⊢
  rw [show ∀ k, atO8 [] k 71 = (en0, false, 71) from fun k => if_pos (by simp)] at *
  dsimp only at hf7 ⊢
  obtain ⟨fva, fvn, fvc, rfl, hf7⟩ := en_told hf7
  refine ⟨_, rfl, ?_⟩
  refine xV rfl rfl rfl (v_move rfl) ?_
  refine xV rfl rfl rfl (v_extract rfl rfl) ?_
  refine xV rfl rfl rfl (v_extract rfl rfl) ?_
  refine xV rfl rfl rfl (v_extract rfl rfl) ?_
  refine rl_k rfl (k_alloc hw T.zero_40 rfl rfl (fun bk8_9 w hw => ?_))
  refine rl_k rfl (k_storeWhole hw T.agg_40_2 rfl rfl (by simp [Value.oneCell']) rfl (by (repeat first | with_reducible exact xH | apply xT); first | done | fail) rfl (fun w hw => ?_))
  refine xV rfl rfl rfl (v_assign rfl) ?_
  refine xV rfl rfl rfl (v_assign rfl) ?_
  refine rl_nil (g_le (xK (xK (xS rfl (xS rfl (xS rfl (xS rfl (xS rfl (xS rfl (xS rfl (xS rfl (xS rfl (xS rfl (Fr.le_refl _))))))))))))) ?_)
  refine g_seq ?_
  refine g_region ?_
  refine rl_v rfl rfl rfl (by exact sat_cells hw (by (repeat first | with_reducible exact xH | apply xT); first | done | fail) ⟨rfl, rfl, rfl, rfl, rfl, rfl, rfl, trivial⟩) (v_loadAgg (vs := [_, _, _, _, _, _, _]) T.agg_23_7 rfl rfl) ?_
  refine xV rfl rfl rfl (v_move rfl) ?_
  refine xV rfl rfl rfl (v_mkIface T.ptr_27 rfl) ?_
  refine rl_v rfl rfl rfl (by exact sat_cells hw (by (repeat first | with_reducible exact xH | apply xT); first | done | fail) ⟨rfl, rfl, rfl, rfl, trivial⟩) (v_loadAgg (vs := [_, _, _, _]) T.agg_26_4 rfl rfl) ?_
  refine rl_k rfl (k_callf Try.func15 rfl rfl rfl rfl ?_)
  refine Calls.mono (shapeBad_calls (heapPg h) (s := []) q r hrk hI7 (fun _ => by rw [show (heapPg h).ops = heapO from rfl, lost_all]; simp) (hw.xQ)) ?_
  rw [show (heapPg h).ops = heapO from rfl, lost_all]
  dsimp only
  rintro _ w ⟨g8, A8, s8, hg8, hI8, _, _, rfl, hw⟩
  refine ⟨_, rfl, ?_⟩
  refine xV rfl rfl rfl (v_move rfl) ?_
  refine xV rfl rfl rfl (v_extract rfl rfl) ?_
  refine xV rfl rfl rfl (v_extract rfl rfl) ?_
  refine rl_k rfl (k_alloc hw T.zero_45 rfl rfl (fun bk9_8 w hw => ?_))
  refine rl_k rfl (k_storeWhole hw T.agg_45_4 rfl rfl (by simp [Value.oneCell']) rfl (by (repeat first | with_reducible exact xH | apply xT); first | done | fail) rfl (fun w hw => ?_))
  refine xV rfl rfl rfl (v_assign rfl) ?_
  refine rl_nil (g_le (xK (xK (xS rfl (xS rfl (xS rfl (xS rfl (xS rfl (xS rfl (xS rfl (xS rfl (Fr.le_refl _))))))))))) ?_)
  refine g_seq ?_
  refine g_region ?_
  refine xV rfl rfl rfl (v_assign rfl) ?_
  refine rl_nil (g_le (xK (Fr.le_refl _)) ?_)
  refine g_seq (g_seq ?_)
  refine g_region ?_
  refine rl_v rfl rfl rfl (by exact sat_cells hw (by (repeat first | with_reducible exact xH | apply xT); first | done | fail) ⟨rfl, rfl, rfl, rfl, rfl, rfl, rfl, trivial⟩) (v_loadAgg (vs := [_, _, _, _, _, _, _]) T.agg_23_7 rfl rfl) ?_
  refine rl_k rfl (k_callf Try.func16 rfl rfl rfl rfl ?_)
  refine Calls.mono (right_calls q hw) ?_
  rintro _ w ⟨rfl, hw⟩
  refine ⟨_, rfl, ?_⟩
  refine xV rfl rfl rfl (v_neq rfl rfl) ?_
  refine rl_nil (g_le (xK (xS rfl (xS rfl (Fr.le_refl _)))) ?_)
  refine g_cutc (σ := Unit) (fun C x => (24, .int .i64 (if q.ok then 71 else 40)) :: C) [(8, _), (10, _), (11, _), (12, _), (13, _), (14, _), (15, _), (17, _), (18, _), (20, _), (21, _), (22, _), (23, _)] (by repeat (first | exact Fr.le_nil _ | refine Fr.le_cons rfl ?_)) (fun z w => Sat (envOf W) w (RO g8 :: pt bk9_8 (.cells [Value.int .i64 0, .int .i64 0, .int .i64 0, .int .i64 0].toArray 45 (0, 0)) :: [])) ?_ ?_
  · skip
    rintro ⟨⟩ w hw
    all_goals
      refine g_seq (g_seq ?_)
      refine g_region ?_
      refine xV rfl rfl rfl (v_move rfl) ?_
      refine xV rfl rfl rfl (v_neqF rfl rfl (by omega)) ?_
      refine xV rfl rfl rfl (v_move rfl) ?_
      refine rl_split (s := 83) rfl (fun g13_2 => ?_) (fun g13_2 => ?_)
      · try with_reducible exact ft_elim g13_2
        all_goals
          try replace g13_2 := of_decide_eq_true g13_2
          refine rl_off (met_off rfl rfl rfl rfl rfl) rfl rfl ?_
          refine rl_off (met_off rfl rfl rfl rfl rfl) rfl rfl ?_
          first | (refine xV rfl rfl rfl (v_pick_true rfl rfl) ?_) | (refine xV rfl rfl rfl (v_pick_false rfl rfl) ?_) | (refine xV rfl rfl rfl (v_pick rfl rfl rfl) ?_)
          refine xV rfl rfl rfl (v_move rfl) ?_
          refine rl_off (met_off rfl rfl rfl rfl rfl) rfl rfl ?_
          refine rl_off (met_off rfl rfl rfl rfl rfl) rfl rfl ?_
          first | (refine xV rfl rfl rfl (v_pick_true rfl rfl) ?_) | (refine xV rfl rfl rfl (v_pick_false rfl rfl) ?_) | (refine xV rfl rfl rfl (v_pick rfl rfl rfl) ?_)
          refine xV rfl rfl rfl (v_move rfl) ?_
          refine rl_off (met_off rfl rfl rfl rfl rfl) rfl rfl ?_
          refine rl_off (met_off rfl rfl rfl rfl rfl) rfl rfl ?_
          first | (refine xV rfl rfl rfl (v_pick_true rfl rfl) ?_) | (refine xV rfl rfl rfl (v_pick_false rfl rfl) ?_) | (refine xV rfl rfl rfl (v_pick rfl rfl rfl) ?_)
          refine xV rfl rfl rfl (v_move rfl) ?_
          refine rl_off (met_off rfl rfl rfl rfl rfl) rfl rfl ?_
          refine rl_off (met_off rfl rfl rfl rfl rfl) rfl rfl ?_
          first | (refine xV rfl rfl rfl (v_pick_true rfl rfl) ?_) | (refine xV rfl rfl rfl (v_pick_false rfl rfl) ?_) | (refine xV rfl rfl rfl (v_pick rfl rfl rfl) ?_)
          refine xV rfl rfl rfl (v_move rfl) ?_
          refine rl_off (met_off rfl rfl rfl rfl rfl) rfl rfl ?_
          refine rl_off (met_off rfl rfl rfl rfl rfl) rfl rfl ?_
          refine rl_off (met_off rfl rfl rfl rfl rfl) rfl rfl ?_
          first | (refine xV rfl rfl rfl (v_pick_true rfl rfl) ?_) | (refine xV rfl rfl rfl (v_pick_false rfl rfl) ?_) | (refine xV rfl rfl rfl (v_pick rfl rfl rfl) ?_)
          refine rl_nil (g_le (xK (xS rfl (xS rfl (xS rfl (xS rfl (xS rfl (xS rfl (xS rfl (xS rfl (xS rfl (xS rfl (xS rfl (xS rfl (xS rfl (xS rfl (xS rfl (xS rfl (xS rfl (xS rfl (xS rfl (xS rfl (xS rfl (xS rfl (xS rfl (Fr.le_refl _))))))))))))))))))))))))) ?_)
          refine g_cond_false rfl ?_
          refine g_skip (g_seq ?_)
          refine g_region ?_
          refine xV rfl rfl rfl (v_move rfl) ?_
          refine xV rfl rfl rfl (v_lenSlice T.sl_29_9_1 rfl) ?_
          first | (refine xV rfl rfl rfl (v_eqlT rfl rfl (by first | omega | rfl)) ?_) | (refine xV rfl rfl rfl (v_eqlF rfl rfl (by omega)) ?_) | (refine xV rfl rfl rfl (v_eql rfl rfl) ?_)
          refine xV rfl rfl rfl (v_move rfl) ?_
          refine rl_split (s := 107) rfl (fun g15_3 => ?_) (fun g15_3 => ?_)
          · try with_reducible exact ft_elim g15_3
            all_goals
              try replace g15_3 := of_decide_eq_true g15_3
              refine rl_vg (met_on rfl rfl rfl rfl) rfl rfl (S := fun _ => True) trivial (v_move rfl) ?_
              refine rl_vg (met_on rfl rfl rfl rfl) rfl rfl (S := fun _ => True) trivial (v_lenSlice T.sl_33_40_2 rfl) ?_
              first | (refine rl_vg (met_on rfl rfl rfl rfl) rfl rfl (S := fun _ => True) trivial (v_eqlT rfl rfl (by first | omega | rfl)) ?_) | (refine rl_vg (met_on rfl rfl rfl rfl) rfl rfl (S := fun _ => True) trivial (v_eqlF rfl rfl (by omega)) ?_) | (refine rl_vg (met_on rfl rfl rfl rfl) rfl rfl (S := fun _ => True) trivial (v_eql rfl rfl) ?_)
              first | (refine xV rfl rfl rfl (v_pick_true rfl rfl) ?_) | (refine xV rfl rfl rfl (v_pick_false rfl rfl) ?_) | (refine xV rfl rfl rfl (v_pick rfl rfl rfl) ?_)
              refine xV rfl rfl rfl (v_move rfl) ?_
              refine rl_split (s := 112) rfl (fun g15_8 => ?_) (fun g15_8 => ?_)
              · try with_reducible exact ft_elim g15_8
                all_goals
                  try replace g15_8 := of_decide_eq_true g15_8
                  refine rl_vg (met_on rfl rfl rfl rfl) rfl rfl (S := fun _ => True) trivial (v_move rfl) ?_
                  first | (refine rl_vg (met_on rfl rfl rfl rfl) rfl rfl (S := fun _ => True) trivial (v_eqlT rfl rfl (by first | omega | rfl)) ?_) | (refine rl_vg (met_on rfl rfl rfl rfl) rfl rfl (S := fun _ => True) trivial (v_eqlF rfl rfl (by omega)) ?_) | (refine rl_vg (met_on rfl rfl rfl rfl) rfl rfl (S := fun _ => True) trivial (v_eql rfl rfl) ?_)
                  first | (refine xV rfl rfl rfl (v_pick_true rfl rfl) ?_) | (refine xV rfl rfl rfl (v_pick_false rfl rfl) ?_) | (refine xV rfl rfl rfl (v_pick rfl rfl rfl) ?_)
                  refine xV rfl rfl rfl (v_move rfl) ?_
                  refine rl_split (s := 116) rfl (fun g15_12 => ?_) (fun g15_12 => ?_)
                  · try with_reducible exact ft_elim g15_12
                    all_goals
                      try replace g15_12 := of_decide_eq_true g15_12
                      refine rl_vg (met_on rfl rfl rfl rfl) rfl rfl (S := fun _ => True) trivial (v_move rfl) ?_
                      refine rl_vg (met_on rfl rfl rfl rfl) rfl rfl (S := fun _ => True) trivial (v_not rfl) ?_
                      first | (refine xV rfl rfl rfl (v_pick_true rfl rfl) ?_) | (refine xV rfl rfl rfl (v_pick_false rfl rfl) ?_) | (refine xV rfl rfl rfl (v_pick rfl rfl rfl) ?_)
                      refine xV rfl rfl rfl (v_move rfl) ?_
                      refine rl_split (s := 120) rfl (fun g15_16 => ?_) (fun g15_16 => ?_)
                      · try with_reducible exact ft_elim g15_16
                        all_goals
                          try replace g15_16 := of_decide_eq_true g15_16
                          refine rl_vg (met_on rfl rfl rfl rfl) rfl rfl (S := fun _ => True) trivial (v_move rfl) ?_
                          refine rl_vg (met_on rfl rfl rfl rfl) rfl rfl (S := fun _ => True) trivial (v_not rfl) ?_
                          first | (refine xV rfl rfl rfl (v_pick_true rfl rfl) ?_) | (refine xV rfl rfl rfl (v_pick_false rfl rfl) ?_) | (refine xV rfl rfl rfl (v_pick rfl rfl rfl) ?_)
                          refine xV rfl rfl rfl (v_move rfl) ?_
                          refine rl_split (s := 124) rfl (fun g15_20 => ?_) (fun g15_20 => ?_)
                          · try with_reducible exact ft_elim g15_20
                            all_goals
                              try replace g15_20 := of_decide_eq_true g15_20
                              refine rl_vg (met_on rfl rfl rfl rfl) rfl rfl (by first | exact sat_cells hw (by (repeat first | with_reducible exact xH | apply xT); first | done | fail) ⟨rfl, rfl, rfl, rfl, trivial⟩ | exact ro_ats hw (by (repeat first | with_reducible exact xH | apply xT); first | done | fail) (by assumption) | exact own_cells hw (by (repeat first | with_reducible exact xH | apply xT); first | done | fail) (by assumption) | exact old_cells hw (by (repeat first | with_reducible exact xH | apply xT); first | done | fail) (by assumption)) (v_loadAgg (vs := [_, _, _, _]) T.agg_45_4 rfl rfl) ?_
                              refine rl_vg (met_on rfl rfl rfl rfl) rfl rfl (S := fun _ => True) trivial (v_build rfl (T.build_45 ..)) ?_
                              refine rl_vg (met_on rfl rfl rfl rfl) rfl rfl (S := fun _ => True) trivial (v_eqlAgg T.cmp_45_iiii rfl rfl rfl rfl (by first | exact eq_Shp _ _ | rfl)) ?_
                              first | (refine xV rfl rfl rfl (v_pick_true rfl rfl) ?_) | (refine xV rfl rfl rfl (v_pick_false rfl rfl) ?_) | (refine xV rfl rfl rfl (v_pick rfl rfl rfl) ?_)
                              refine xV rfl rfl rfl (v_assign rfl) ?_
                              refine rl_nil (g_le (xK (xS rfl (xS rfl (xS rfl (xS rfl (xS rfl (xS rfl (xS rfl (xS rfl (xS rfl (xS rfl (xS rfl (xS rfl (xS rfl (xS rfl (xS rfl (xS rfl (xS rfl (xS rfl (xS rfl (xS rfl (xS rfl (xS rfl (xS rfl (xS rfl (xS rfl (xS rfl (xS rfl (xS rfl (xS rfl (xS rfl (Fr.le_refl _)))))))))))))))))))))))))))))))) ?_)
                              refine g_ret1 Try.func3 rfl rfl ?_
                              exact ⟨rfl, (hw.xQ : Sat (envOf W) w [RO g8]).shrink (hg2.trans (hg3.trans (hg4.trans (hg5.trans (hg6.trans (hg7.trans hg8))))))⟩
                          · try with_reducible exact tf_elim g15_20
                            all_goals
                              try replace g15_20 := of_decide_eq_false g15_20
                              simp at g15_20
                      · try with_reducible exact tf_elim g15_16
                        all_goals
                          try replace g15_16 := of_decide_eq_false g15_16
                          simp at g15_16
                  · try with_reducible exact tf_elim g15_12
                    all_goals
                      try replace g15_12 := of_decide_eq_false g15_12
                      refine rl_off (met_off rfl rfl rfl rfl rfl) rfl rfl ?_
                      refine rl_off (met_off rfl rfl rfl rfl rfl) rfl rfl ?_
                      first | (refine xV rfl rfl rfl (v_pick_true rfl rfl) ?_) | (refine xV rfl rfl rfl (v_pick_false rfl rfl) ?_) | (refine xV rfl rfl rfl (v_pick rfl rfl rfl) ?_)
                      refine xV rfl rfl rfl (v_move rfl) ?_
                      refine rl_off (met_off rfl rfl rfl rfl rfl) rfl rfl ?_
                      refine rl_off (met_off rfl rfl rfl rfl rfl) rfl rfl ?_
                      first | (refine xV rfl rfl rfl (v_pick_true rfl rfl) ?_) | (refine xV rfl rfl rfl (v_pick_false rfl rfl) ?_) | (refine xV rfl rfl rfl (v_pick rfl rfl rfl) ?_)
                      refine xV rfl rfl rfl (v_move rfl) ?_
                      refine rl_off (met_off rfl rfl rfl rfl rfl) rfl rfl ?_
                      refine rl_off (met_off rfl rfl rfl rfl rfl) rfl rfl ?_
                      refine rl_off (met_off rfl rfl rfl rfl rfl) rfl rfl ?_
                      first | (refine xV rfl rfl rfl (v_pick_true rfl rfl) ?_) | (refine xV rfl rfl rfl (v_pick_false rfl rfl) ?_) | (refine xV rfl rfl rfl (v_pick rfl rfl rfl) ?_)
                      refine xV rfl rfl rfl (v_assign rfl) ?_
                      refine rl_nil (g_le (xK (xS rfl (xS rfl (xS rfl (xS rfl (xS rfl (xS rfl (xS rfl (xS rfl (xS rfl (xS rfl (xS rfl (xS rfl (xS rfl (xS rfl (xS rfl (xS rfl (xS rfl (xS rfl (xS rfl (xS rfl (xS rfl (xS rfl (xS rfl (xS rfl (xS rfl (xS rfl (xS rfl (xS rfl (Fr.le_refl _)))))))))))))))))))))))))))))) ?_)
                      refine g_ret1 Try.func3 rfl rfl ?_
                      exact ⟨rfl, (hw.xQ : Sat (envOf W) w [RO g8]).shrink (hg2.trans (hg3.trans (hg4.trans (hg5.trans (hg6.trans (hg7.trans hg8))))))⟩
              · try with_reducible exact tf_elim g15_8
                all_goals
                  try replace g15_8 := of_decide_eq_false g15_8
                  refine rl_off (met_off rfl rfl rfl rfl rfl) rfl rfl ?_
                  refine rl_off (met_off rfl rfl rfl rfl rfl) rfl rfl ?_
                  first | (refine xV rfl rfl rfl (v_pick_true rfl rfl) ?_) | (refine xV rfl rfl rfl (v_pick_false rfl rfl) ?_) | (refine xV rfl rfl rfl (v_pick rfl rfl rfl) ?_)
                  refine xV rfl rfl rfl (v_move rfl) ?_
                  refine rl_off (met_off rfl rfl rfl rfl rfl) rfl rfl ?_
                  refine rl_off (met_off rfl rfl rfl rfl rfl) rfl rfl ?_
                  first | (refine xV rfl rfl rfl (v_pick_true rfl rfl) ?_) | (refine xV rfl rfl rfl (v_pick_false rfl rfl) ?_) | (refine xV rfl rfl rfl (v_pick rfl rfl rfl) ?_)
                  refine xV rfl rfl rfl (v_move rfl) ?_
                  refine rl_off (met_off rfl rfl rfl rfl rfl) rfl rfl ?_
                  refine rl_off (met_off rfl rfl rfl rfl rfl) rfl rfl ?_
                  first | (refine xV rfl rfl rfl (v_pick_true rfl rfl) ?_) | (refine xV rfl rfl rfl (v_pick_false rfl rfl) ?_) | (refine xV rfl rfl rfl (v_pick rfl rfl rfl) ?_)
                  refine xV rfl rfl rfl (v_move rfl) ?_
                  refine rl_off (met_off rfl rfl rfl rfl rfl) rfl rfl ?_
                  refine rl_off (met_off rfl rfl rfl rfl rfl) rfl rfl ?_
                  refine rl_off (met_off rfl rfl rfl rfl rfl) rfl rfl ?_
                  first | (refine xV rfl rfl rfl (v_pick_true rfl rfl) ?_) | (refine xV rfl rfl rfl (v_pick_false rfl rfl) ?_) | (refine xV rfl rfl rfl (v_pick rfl rfl rfl) ?_)
                  refine xV rfl rfl rfl (v_assign rfl) ?_
                  refine rl_nil (g_le (xK (xS rfl (xS rfl (xS rfl (xS rfl (xS rfl (xS rfl (xS rfl (xS rfl (xS rfl (xS rfl (xS rfl (xS rfl (xS rfl (xS rfl (xS rfl (xS rfl (xS rfl (xS rfl (xS rfl (xS rfl (xS rfl (xS rfl (xS rfl (xS rfl (xS rfl (xS rfl (xS rfl (Fr.le_refl _))))))))))))))))))))))))))))) ?_)
                  refine g_ret1 Try.func3 rfl rfl ?_
                  exact ⟨rfl, (hw.xQ : Sat (envOf W) w [RO g8]).shrink (hg2.trans (hg3.trans (hg4.trans (hg5.trans (hg6.trans (hg7.trans hg8))))))⟩
          · try with_reducible exact tf_elim g15_3
            all_goals
              try replace g15_3 := of_decide_eq_false g15_3
              refine rl_off (met_off rfl rfl rfl rfl rfl) rfl rfl ?_
              refine rl_off (met_off rfl rfl rfl rfl rfl) rfl rfl ?_
              refine rl_off (met_off rfl rfl rfl rfl rfl) rfl rfl ?_
              first | (refine xV rfl rfl rfl (v_pick_true rfl rfl) ?_) | (refine xV rfl rfl rfl (v_pick_false rfl rfl) ?_) | (refine xV rfl rfl rfl (v_pick rfl rfl rfl) ?_)
              refine xV rfl rfl rfl (v_move rfl) ?_
              refine rl_off (met_off rfl rfl rfl rfl rfl) rfl rfl ?_
              refine rl_off (met_off rfl rfl rfl rfl rfl) rfl rfl ?_
              first | (refine xV rfl rfl rfl (v_pick_true rfl rfl) ?_) | (refine xV rfl rfl rfl (v_pick_false rfl rfl) ?_) | (refine xV rfl rfl rfl (v_pick rfl rfl rfl) ?_)
              refine xV rfl rfl rfl (v_move rfl) ?_
              refine rl_off (met_off rfl rfl rfl rfl rfl) rfl rfl ?_
              refine rl_off (met_off rfl rfl rfl rfl rfl) rfl rfl ?_
              first | (refine xV rfl rfl rfl (v_pick_true rfl rfl) ?_) | (refine xV rfl rfl rfl (v_pick_false rfl rfl) ?_) | (refine xV rfl rfl rfl (v_pick rfl rfl rfl) ?_)
              refine xV rfl rfl rfl (v_move rfl) ?_
              refine rl_off (met_off rfl rfl rfl rfl rfl) rfl rfl ?_
              refine rl_off (met_off rfl rfl rfl rfl rfl) rfl rfl ?_
              first | (refine xV rfl rfl rfl (v_pick_true rfl rfl) ?_) | (refine xV rfl rfl rfl (v_pick_false rfl rfl) ?_) | (refine xV rfl rfl rfl (v_pick rfl rfl rfl) ?_)
              refine xV rfl rfl rfl (v_move rfl) ?_
              refine rl_off (met_off rfl rfl rfl rfl rfl) rfl rfl ?_
              refine rl_off (met_off rfl rfl rfl rfl rfl) rfl rfl ?_
              refine rl_off (met_off rfl rfl rfl rfl rfl) rfl rfl ?_
              first | (refine xV rfl rfl rfl (v_pick_true rfl rfl) ?_) | (refine xV rfl rfl rfl (v_pick_false rfl rfl) ?_) | (refine xV rfl rfl rfl (v_pick rfl rfl rfl) ?_)
              refine xV rfl rfl rfl (v_assign rfl) ?_
              refine rl_nil (g_le (xK (xS rfl (xS rfl (xS rfl (xS rfl (xS rfl (xS rfl (xS rfl (xS rfl (xS rfl (xS rfl (xS rfl (xS rfl (xS rfl (xS rfl (xS rfl (xS rfl (xS rfl (xS rfl (xS rfl (xS rfl (xS rfl (xS rfl (xS rfl (xS rfl (xS rfl (xS rfl (Fr.le_refl _)))))))))))))))))))))))))))) ?_)
              refine g_ret1 Try.func3 rfl rfl ?_
              exact ⟨rfl, (hw.xQ : Sat (envOf W) w [RO g8]).shrink (hg2.trans (hg3.trans (hg4.trans (hg5.trans (hg6.trans (hg7.trans hg8))))))⟩
      · try with_reducible exact tf_elim g13_2
        all_goals
          try replace g13_2 := of_decide_eq_false g13_2
          refine rl_vg (met_on rfl rfl rfl rfl) rfl rfl (S := fun _ => True) trivial (v_move rfl) ?_
          refine rl_vg (met_on rfl rfl rfl rfl) rfl rfl (S := fun _ => True) trivial (v_neqF rfl rfl (by omega)) ?_
          refine xV rfl rfl rfl (v_pick_false rfl rfl) ?_
          refine xV rfl rfl rfl (v_move rfl) ?_
          refine rl_split (s := 87) rfl (fun g13_6 => ?_) (fun g13_6 => ?_)
          · try with_reducible exact ft_elim g13_6
            all_goals
              try replace g13_6 := of_decide_eq_true g13_6
              refine rl_off (met_off rfl rfl rfl rfl rfl) rfl rfl ?_
              refine rl_off (met_off rfl rfl rfl rfl rfl) rfl rfl ?_
              first | (refine xV rfl rfl rfl (v_pick_true rfl rfl) ?_) | (refine xV rfl rfl rfl (v_pick_false rfl rfl) ?_) | (refine xV rfl rfl rfl (v_pick rfl rfl rfl) ?_)
              refine xV rfl rfl rfl (v_move rfl) ?_
              refine rl_off (met_off rfl rfl rfl rfl rfl) rfl rfl ?_
              refine rl_off (met_off rfl rfl rfl rfl rfl) rfl rfl ?_
              first | (refine xV rfl rfl rfl (v_pick_true rfl rfl) ?_) | (refine xV rfl rfl rfl (v_pick_false rfl rfl) ?_) | (refine xV rfl rfl rfl (v_pick rfl rfl rfl) ?_)
              refine xV rfl rfl rfl (v_move rfl) ?_
              refine rl_off (met_off rfl rfl rfl rfl rfl) rfl rfl ?_
              refine rl_off (met_off rfl rfl rfl rfl rfl) rfl rfl ?_
              first | (refine xV rfl rfl rfl (v_pick_true rfl rfl) ?_) | (refine xV rfl rfl rfl (v_pick_false rfl rfl) ?_) | (refine xV rfl rfl rfl (v_pick rfl rfl rfl) ?_)
              refine xV rfl rfl rfl (v_move rfl) ?_
              refine rl_off (met_off rfl rfl rfl rfl rfl) rfl rfl ?_
              refine rl_off (met_off rfl rfl rfl rfl rfl) rfl rfl ?_
              refine rl_off (met_off rfl rfl rfl rfl rfl) rfl rfl ?_
              first | (refine xV rfl rfl rfl (v_pick_true rfl rfl) ?_) | (refine xV rfl rfl rfl (v_pick_false rfl rfl) ?_) | (refine xV rfl rfl rfl (v_pick rfl rfl rfl) ?_)
              refine rl_nil (g_le (xK (xS rfl (xS rfl (xS rfl (xS rfl (xS rfl (xS rfl (xS rfl (xS rfl (xS rfl (xS rfl (xS rfl (xS rfl (xS rfl (xS rfl (xS rfl (xS rfl (xS rfl (xS rfl (xS rfl (xS rfl (xS rfl (xS rfl (xS rfl (xS rfl (Fr.le_refl _)))))))))))))))))))))))))) ?_)
              refine g_cond_false rfl ?_
              refine g_skip (g_seq ?_)
              refine g_region ?_
              refine xV rfl rfl rfl (v_move rfl) ?_
              refine xV rfl rfl rfl (v_lenSlice T.sl_29_9_1 rfl) ?_
              first | (refine xV rfl rfl rfl (v_eqlT rfl rfl (by first | omega | rfl)) ?_) | (refine xV rfl rfl rfl (v_eqlF rfl rfl (by omega)) ?_) | (refine xV rfl rfl rfl (v_eql rfl rfl) ?_)
              refine xV rfl rfl rfl (v_move rfl) ?_
              refine rl_split (s := 107) rfl (fun g15_3 => ?_) (fun g15_3 => ?_)
              · try with_reducible exact ft_elim g15_3
                all_goals
                  try replace g15_3 := of_decide_eq_true g15_3
                  refine rl_vg (met_on rfl rfl rfl rfl) rfl rfl (S := fun _ => True) trivial (v_move rfl) ?_
                  refine rl_vg (met_on rfl rfl rfl rfl) rfl rfl (S := fun _ => True) trivial (v_lenSlice T.sl_33_40_2 rfl) ?_
                  first | (refine rl_vg (met_on rfl rfl rfl rfl) rfl rfl (S := fun _ => True) trivial (v_eqlT rfl rfl (by first | omega | rfl)) ?_) | (refine rl_vg (met_on rfl rfl rfl rfl) rfl rfl (S := fun _ => True) trivial (v_eqlF rfl rfl (by omega)) ?_) | (refine rl_vg (met_on rfl rfl rfl rfl) rfl rfl (S := fun _ => True) trivial (v_eql rfl rfl) ?_)
                  first | (refine xV rfl rfl rfl (v_pick_true rfl rfl) ?_) | (refine xV rfl rfl rfl (v_pick_false rfl rfl) ?_) | (refine xV rfl rfl rfl (v_pick rfl rfl rfl) ?_)
                  refine xV rfl rfl rfl (v_move rfl) ?_
                  refine rl_split (s := 112) rfl (fun g15_8 => ?_) (fun g15_8 => ?_)
                  · try with_reducible exact ft_elim g15_8
                    all_goals
                      try replace g15_8 := of_decide_eq_true g15_8
                      refine rl_vg (met_on rfl rfl rfl rfl) rfl rfl (S := fun _ => True) trivial (v_move rfl) ?_
                      first | (refine rl_vg (met_on rfl rfl rfl rfl) rfl rfl (S := fun _ => True) trivial (v_eqlT rfl rfl (by first | omega | rfl)) ?_) | (refine rl_vg (met_on rfl rfl rfl rfl) rfl rfl (S := fun _ => True) trivial (v_eqlF rfl rfl (by omega)) ?_) | (refine rl_vg (met_on rfl rfl rfl rfl) rfl rfl (S := fun _ => True) trivial (v_eql rfl rfl) ?_)
                      first | (refine xV rfl rfl rfl (v_pick_true rfl rfl) ?_) | (refine xV rfl rfl rfl (v_pick_false rfl rfl) ?_) | (refine xV rfl rfl rfl (v_pick rfl rfl rfl) ?_)
                      refine xV rfl rfl rfl (v_move rfl) ?_
                      refine rl_split (s := 116) rfl (fun g15_12 => ?_) (fun g15_12 => ?_)
                      · try with_reducible exact ft_elim g15_12
                        all_goals
                          try replace g15_12 := of_decide_eq_true g15_12
                          refine rl_vg (met_on rfl rfl rfl rfl) rfl rfl (S := fun _ => True) trivial (v_move rfl) ?_
                          refine rl_vg (met_on rfl rfl rfl rfl) rfl rfl (S := fun _ => True) trivial (v_not rfl) ?_
                          first | (refine xV rfl rfl rfl (v_pick_true rfl rfl) ?_) | (refine xV rfl rfl rfl (v_pick_false rfl rfl) ?_) | (refine xV rfl rfl rfl (v_pick rfl rfl rfl) ?_)
                          refine xV rfl rfl rfl (v_move rfl) ?_
                          refine rl_split (s := 120) rfl (fun g15_16 => ?_) (fun g15_16 => ?_)
                          · try with_reducible exact ft_elim g15_16
                            all_goals
                              try replace g15_16 := of_decide_eq_true g15_16
                              refine rl_vg (met_on rfl rfl rfl rfl) rfl rfl (S := fun _ => True) trivial (v_move rfl) ?_
                              refine rl_vg (met_on rfl rfl rfl rfl) rfl rfl (S := fun _ => True) trivial (v_not rfl) ?_
                              first | (refine xV rfl rfl rfl (v_pick_true rfl rfl) ?_) | (refine xV rfl rfl rfl (v_pick_false rfl rfl) ?_) | (refine xV rfl rfl rfl (v_pick rfl rfl rfl) ?_)
                              refine xV rfl rfl rfl (v_move rfl) ?_
                              refine rl_split (s := 124) rfl (fun g15_20 => ?_) (fun g15_20 => ?_)
                              · try with_reducible exact ft_elim g15_20
                                all_goals
                                  try replace g15_20 := of_decide_eq_true g15_20
                                  refine rl_vg (met_on rfl rfl rfl rfl) rfl rfl (by first | exact sat_cells hw (by (repeat first | with_reducible exact xH | apply xT); first | done | fail) ⟨rfl, rfl, rfl, rfl, trivial⟩ | exact ro_ats hw (by (repeat first | with_reducible exact xH | apply xT); first | done | fail) (by assumption) | exact own_cells hw (by (repeat first | with_reducible exact xH | apply xT); first | done | fail) (by assumption) | exact old_cells hw (by (repeat first | with_reducible exact xH | apply xT); first | done | fail) (by assumption)) (v_loadAgg (vs := [_, _, _, _]) T.agg_45_4 rfl rfl) ?_
                                  refine rl_vg (met_on rfl rfl rfl rfl) rfl rfl (S := fun _ => True) trivial (v_build rfl (T.build_45 ..)) ?_
                                  refine rl_vg (met_on rfl rfl rfl rfl) rfl rfl (S := fun _ => True) trivial (v_eqlAgg T.cmp_45_iiii rfl rfl rfl rfl (by first | exact eq_Shp _ _ | rfl)) ?_
                                  first | (refine xV rfl rfl rfl (v_pick_true rfl rfl) ?_) | (refine xV rfl rfl rfl (v_pick_false rfl rfl) ?_) | (refine xV rfl rfl rfl (v_pick rfl rfl rfl) ?_)
                                  refine xV rfl rfl rfl (v_assign rfl) ?_
                                  refine rl_nil (g_le (xK (xS rfl (xS rfl (xS rfl (xS rfl (xS rfl (xS rfl (xS rfl (xS rfl (xS rfl (xS rfl (xS rfl (xS rfl (xS rfl (xS rfl (xS rfl (xS rfl (xS rfl (xS rfl (xS rfl (xS rfl (xS rfl (xS rfl (xS rfl (xS rfl (xS rfl (xS rfl (xS rfl (xS rfl (xS rfl (xS rfl (Fr.le_refl _)))))))))))))))))))))))))))))))) ?_)
                                  refine g_ret1 Try.func3 rfl rfl ?_
                                  exact ⟨rfl, (hw.xQ : Sat (envOf W) w [RO g8]).shrink (hg2.trans (hg3.trans (hg4.trans (hg5.trans (hg6.trans (hg7.trans hg8))))))⟩
                              · try with_reducible exact tf_elim g15_20
                                all_goals
                                  try replace g15_20 := of_decide_eq_false g15_20
                                  simp at g15_20
                          · try with_reducible exact tf_elim g15_16
                            all_goals
                              try replace g15_16 := of_decide_eq_false g15_16
                              simp at g15_16
                      · try with_reducible exact tf_elim g15_12
                        all_goals
                          try replace g15_12 := of_decide_eq_false g15_12
                          refine rl_off (met_off rfl rfl rfl rfl rfl) rfl rfl ?_
                          refine rl_off (met_off rfl rfl rfl rfl rfl) rfl rfl ?_
                          first | (refine xV rfl rfl rfl (v_pick_true rfl rfl) ?_) | (refine xV rfl rfl rfl (v_pick_false rfl rfl) ?_) | (refine xV rfl rfl rfl (v_pick rfl rfl rfl) ?_)
                          refine xV rfl rfl rfl (v_move rfl) ?_
                          refine rl_off (met_off rfl rfl rfl rfl rfl) rfl rfl ?_
                          refine rl_off (met_off rfl rfl rfl rfl rfl) rfl rfl ?_
                          first | (refine xV rfl rfl rfl (v_pick_true rfl rfl) ?_) | (refine xV rfl rfl rfl (v_pick_false rfl rfl) ?_) | (refine xV rfl rfl rfl (v_pick rfl rfl rfl) ?_)
                          refine xV rfl rfl rfl (v_move rfl) ?_
                          refine rl_off (met_off rfl rfl rfl rfl rfl) rfl rfl ?_
                          refine rl_off (met_off rfl rfl rfl rfl rfl) rfl rfl ?_
                          refine rl_off (met_off rfl rfl rfl rfl rfl) rfl rfl ?_
                          first | (refine xV rfl rfl rfl (v_pick_true rfl rfl) ?_) | (refine xV rfl rfl rfl (v_pick_false rfl rfl) ?_) | (refine xV rfl rfl rfl (v_pick rfl rfl rfl) ?_)
                          refine xV rfl rfl rfl (v_assign rfl) ?_
                          refine rl_nil (g_le (xK (xS rfl (xS rfl (xS rfl (xS rfl (xS rfl (xS rfl (xS rfl (xS rfl (xS rfl (xS rfl (xS rfl (xS rfl (xS rfl (xS rfl (xS rfl (xS rfl (xS rfl (xS rfl (xS rfl (xS rfl (xS rfl (xS rfl (xS rfl (xS rfl (xS rfl (xS rfl (xS rfl (xS rfl (Fr.le_refl _)))))))))))))))))))))))))))))) ?_)
                          refine g_ret1 Try.func3 rfl rfl ?_
                          exact ⟨rfl, (hw.xQ : Sat (envOf W) w [RO g8]).shrink (hg2.trans (hg3.trans (hg4.trans (hg5.trans (hg6.trans (hg7.trans hg8))))))⟩
                  · try with_reducible exact tf_elim g15_8
                    all_goals
                      try replace g15_8 := of_decide_eq_false g15_8
                      refine rl_off (met_off rfl rfl rfl rfl rfl) rfl rfl ?_
                      refine rl_off (met_off rfl rfl rfl rfl rfl) rfl rfl ?_
                      first | (refine xV rfl rfl rfl (v_pick_true rfl rfl) ?_) | (refine xV rfl rfl rfl (v_pick_false rfl rfl) ?_) | (refine xV rfl rfl rfl (v_pick rfl rfl rfl) ?_)
                      refine xV rfl rfl rfl (v_move rfl) ?_
                      refine rl_off (met_off rfl rfl rfl rfl rfl) rfl rfl ?_
                      refine rl_off (met_off rfl rfl rfl rfl rfl) rfl rfl ?_
                      first | (refine xV rfl rfl rfl (v_pick_true rfl rfl) ?_) | (refine xV rfl rfl rfl (v_pick_false rfl rfl) ?_) | (refine xV rfl rfl rfl (v_pick rfl rfl rfl) ?_)
                      refine xV rfl rfl rfl (v_move rfl) ?_
                      refine rl_off (met_off rfl rfl rfl rfl rfl) rfl rfl ?_
                      refine rl_off (met_off rfl rfl rfl rfl rfl) rfl rfl ?_
                      first | (refine xV rfl rfl rfl (v_pick_true rfl rfl) ?_) | (refine xV rfl rfl rfl (v_pick_false rfl rfl) ?_) | (refine xV rfl rfl rfl (v_pick rfl rfl rfl) ?_)
                      refine xV rfl rfl rfl (v_move rfl) ?_
                      refine rl_off (met_off rfl rfl rfl rfl rfl) rfl rfl ?_
                      refine rl_off (met_off rfl rfl rfl rfl rfl) rfl rfl ?_
                      refine rl_off (met_off rfl rfl rfl rfl rfl) rfl rfl ?_
                      first | (refine xV rfl rfl rfl (v_pick_true rfl rfl) ?_) | (refine xV rfl rfl rfl (v_pick_false rfl rfl) ?_) | (refine xV rfl rfl rfl (v_pick rfl rfl rfl) ?_)
                      refine xV rfl rfl rfl (v_assign rfl) ?_
                      refine rl_nil (g_le (xK (xS rfl (xS rfl (xS rfl (xS rfl (xS rfl (xS rfl (xS rfl (xS rfl (xS rfl (xS rfl (xS rfl (xS rfl (xS rfl (xS rfl (xS rfl (xS rfl (xS rfl (xS rfl (xS rfl (xS rfl (xS rfl (xS rfl (xS rfl (xS rfl (xS rfl (xS rfl (xS rfl (Fr.le_refl _))))))))))))))))))))))))))))) ?_)
                      refine g_ret1 Try.func3 rfl rfl ?_
                      exact ⟨rfl, (hw.xQ : Sat (envOf W) w [RO g8]).shrink (hg2.trans (hg3.trans (hg4.trans (hg5.trans (hg6.trans (hg7.trans hg8))))))⟩
              · try with_reducible exact tf_elim g15_3
                all_goals
                  try replace g15_3 := of_decide_eq_false g15_3
                  refine rl_off (met_off rfl rfl rfl rfl rfl) rfl rfl ?_
                  refine rl_off (met_off rfl rfl rfl rfl rfl) rfl rfl ?_
                  refine rl_off (met_off rfl rfl rfl rfl rfl) rfl rfl ?_
                  first | (refine xV rfl rfl rfl (v_pick_true rfl rfl) ?_) | (refine xV rfl rfl rfl (v_pick_false rfl rfl) ?_) | (refine xV rfl rfl rfl (v_pick rfl rfl rfl) ?_)
                  refine xV rfl rfl rfl (v_move rfl) ?_
                  refine rl_off (met_off rfl rfl rfl rfl rfl) rfl rfl ?_
                  refine rl_off (met_off rfl rfl rfl rfl rfl) rfl rfl ?_
                  first | (refine xV rfl rfl rfl (v_pick_true rfl rfl) ?_) | (refine xV rfl rfl rfl (v_pick_false rfl rfl) ?_) | (refine xV rfl rfl rfl (v_pick rfl rfl rfl) ?_)
                  refine xV rfl rfl rfl (v_move rfl) ?_
                  refine rl_off (met_off rfl rfl rfl rfl rfl) rfl rfl ?_
                  refine rl_off (met_off rfl rfl rfl rfl rfl) rfl rfl ?_
                  first | (refine xV rfl rfl rfl (v_pick_true rfl rfl) ?_) | (refine xV rfl rfl rfl (v_pick_false rfl rfl) ?_) | (refine xV rfl rfl rfl (v_pick rfl rfl rfl) ?_)
                  refine xV rfl rfl rfl (v_move rfl) ?_
                  refine rl_off (met_off rfl rfl rfl rfl rfl) rfl rfl ?_
                  refine rl_off (met_off rfl rfl rfl rfl rfl) rfl rfl ?_
                  first | (refine xV rfl rfl rfl (v_pick_true rfl rfl) ?_) | (refine xV rfl rfl rfl (v_pick_false rfl rfl) ?_) | (refine xV rfl rfl rfl (v_pick rfl rfl rfl) ?_)
                  refine xV rfl rfl rfl (v_move rfl) ?_
                  refine rl_off (met_off rfl rfl rfl rfl rfl) rfl rfl ?_
                  refine rl_off (met_off rfl rfl rfl rfl rfl) rfl rfl ?_
                  refine rl_off (met_off rfl rfl rfl rfl rfl) rfl rfl ?_
                  first | (refine xV rfl rfl rfl (v_pick_true rfl rfl) ?_) | (refine xV rfl rfl rfl (v_pick_false rfl rfl) ?_) | (refine xV rfl rfl rfl (v_pick rfl rfl rfl) ?_)
                  refine xV rfl rfl rfl (v_assign rfl) ?_
                  refine rl_nil (g_le (xK (xS rfl (xS rfl (xS rfl (xS rfl (xS rfl (xS rfl (xS rfl (xS rfl (xS rfl (xS rfl (xS rfl (xS rfl (xS rfl (xS rfl (xS rfl (xS rfl (xS rfl (xS rfl (xS rfl (xS rfl (xS rfl (xS rfl (xS rfl (xS rfl (xS rfl (xS rfl (Fr.le_refl _)))))))))))))))))))))))))))) ?_)
                  refine g_ret1 Try.func3 rfl rfl ?_
                  exact ⟨rfl, (hw.xQ : Sat (envOf W) w [RO g8]).shrink (hg2.trans (hg3.trans (hg4.trans (hg5.trans (hg6.trans (hg7.trans hg8))))))⟩
          · try with_reducible exact tf_elim g13_6
            all_goals
              try replace g13_6 := of_decide_eq_false g13_6
              refine rl_vg (met_on rfl rfl rfl rfl) rfl rfl (S := fun _ => True) trivial (v_move rfl) ?_
              refine rl_vg (met_on rfl rfl rfl rfl) rfl rfl (S := fun _ => True) trivial (v_neqF rfl rfl (by omega)) ?_
              refine xV rfl rfl rfl (v_pick_false rfl rfl) ?_
              refine xV rfl rfl rfl (v_move rfl) ?_
              refine rl_split (s := 91) rfl (fun g13_10 => ?_) (fun g13_10 => ?_)
              · try with_reducible exact ft_elim g13_10
                all_goals
                  try replace g13_10 := of_decide_eq_true g13_10
                  refine rl_off (met_off rfl rfl rfl rfl rfl) rfl rfl ?_
                  refine rl_off (met_off rfl rfl rfl rfl rfl) rfl rfl ?_
                  first | (refine xV rfl rfl rfl (v_pick_true rfl rfl) ?_) | (refine xV rfl rfl rfl (v_pick_false rfl rfl) ?_) | (refine xV rfl rfl rfl (v_pick rfl rfl rfl) ?_)
                  refine xV rfl rfl rfl (v_move rfl) ?_
                  refine rl_off (met_off rfl rfl rfl rfl rfl) rfl rfl ?_
                  refine rl_off (met_off rfl rfl rfl rfl rfl) rfl rfl ?_
                  first | (refine xV rfl rfl rfl (v_pick_true rfl rfl) ?_) | (refine xV rfl rfl rfl (v_pick_false rfl rfl) ?_) | (refine xV rfl rfl rfl (v_pick rfl rfl rfl) ?_)
                  refine xV rfl rfl rfl (v_move rfl) ?_
                  refine rl_off (met_off rfl rfl rfl rfl rfl) rfl rfl ?_
                  refine rl_off (met_off rfl rfl rfl rfl rfl) rfl rfl ?_
                  refine rl_off (met_off rfl rfl rfl rfl rfl) rfl rfl ?_
                  first | (refine xV rfl rfl rfl (v_pick_true rfl rfl) ?_) | (refine xV rfl rfl rfl (v_pick_false rfl rfl) ?_) | (refine xV rfl rfl rfl (v_pick rfl rfl rfl) ?_)
                  refine rl_nil (g_le (xK (xS rfl (xS rfl (xS rfl (xS rfl (xS rfl (xS rfl (xS rfl (xS rfl (xS rfl (xS rfl (xS rfl (xS rfl (xS rfl (xS rfl (xS rfl (xS rfl (xS rfl (xS rfl (xS rfl (xS rfl (xS rfl (xS rfl (xS rfl (xS rfl (xS rfl (Fr.le_refl _))))))))))))))))))))))))))) ?_)
                  refine g_cond_false rfl ?_
                  refine g_skip (g_seq ?_)
                  refine g_region ?_
                  refine xV rfl rfl rfl (v_move rfl) ?_
                  refine xV rfl rfl rfl (v_lenSlice T.sl_29_9_1 rfl) ?_
                  first | (refine xV rfl rfl rfl (v_eqlT rfl rfl (by first | omega | rfl)) ?_) | (refine xV rfl rfl rfl (v_eqlF rfl rfl (by omega)) ?_) | (refine xV rfl rfl rfl (v_eql rfl rfl) ?_)
                  refine xV rfl rfl rfl (v_move rfl) ?_
                  refine rl_split (s := 107) rfl (fun g15_3 => ?_) (fun g15_3 => ?_)
                  · try with_reducible exact ft_elim g15_3
                    all_goals
                      try replace g15_3 := of_decide_eq_true g15_3
                      refine rl_vg (met_on rfl rfl rfl rfl) rfl rfl (S := fun _ => True) trivial (v_move rfl) ?_
                      refine rl_vg (met_on rfl rfl rfl rfl) rfl rfl (S := fun _ => True) trivial (v_lenSlice T.sl_33_40_2 rfl) ?_
                      first | (refine rl_vg (met_on rfl rfl rfl rfl) rfl rfl (S := fun _ => True) trivial (v_eqlT rfl rfl (by first | omega | rfl)) ?_) | (refine rl_vg (met_on rfl rfl rfl rfl) rfl rfl (S := fun _ => True) trivial (v_eqlF rfl rfl (by omega)) ?_) | (refine rl_vg (met_on rfl rfl rfl rfl) rfl rfl (S := fun _ => True) trivial (v_eql rfl rfl) ?_)
                      first | (refine xV rfl rfl rfl (v_pick_true rfl rfl) ?_) | (refine xV rfl rfl rfl (v_pick_false rfl rfl) ?_) | (refine xV rfl rfl rfl (v_pick rfl rfl rfl) ?_)
                      refine xV rfl rfl rfl (v_move rfl) ?_
                      refine rl_split (s := 112) rfl (fun g15_8 => ?_) (fun g15_8 => ?_)
                      · try with_reducible exact ft_elim g15_8
                        all_goals
                          try replace g15_8 := of_decide_eq_true g15_8
                          refine rl_vg (met_on rfl rfl rfl rfl) rfl rfl (S := fun _ => True) trivial (v_move rfl) ?_
                          first | (refine rl_vg (met_on rfl rfl rfl rfl) rfl rfl (S := fun _ => True) trivial (v_eqlT rfl rfl (by first | omega | rfl)) ?_) | (refine rl_vg (met_on rfl rfl rfl rfl) rfl rfl (S := fun _ => True) trivial (v_eqlF rfl rfl (by omega)) ?_) | (refine rl_vg (met_on rfl rfl rfl rfl) rfl rfl (S := fun _ => True) trivial (v_eql rfl rfl) ?_)
                          first | (refine xV rfl rfl rfl (v_pick_true rfl rfl) ?_) | (refine xV rfl rfl rfl (v_pick_false rfl rfl) ?_) | (refine xV rfl rfl rfl (v_pick rfl rfl rfl) ?_)
                          refine xV rfl rfl rfl (v_move rfl) ?_
                          refine rl_split (s := 116) rfl (fun g15_12 => ?_) (fun g15_12 => ?_)
                          · try with_reducible exact ft_elim g15_12
                            all_goals
                              try replace g15_12 := of_decide_eq_true g15_12
                              refine rl_vg (met_on rfl rfl rfl rfl) rfl rfl (S := fun _ => True) trivial (v_move rfl) ?_
                              refine rl_vg (met_on rfl rfl rfl rfl) rfl rfl (S := fun _ => True) trivial (v_not rfl) ?_
                              first | (refine xV rfl rfl rfl (v_pick_true rfl rfl) ?_) | (refine xV rfl rfl rfl (v_pick_false rfl rfl) ?_) | (refine xV rfl rfl rfl (v_pick rfl rfl rfl) ?_)
                              refine xV rfl rfl rfl (v_move rfl) ?_
                              refine rl_split (s := 120) rfl (fun g15_16 => ?_) (fun g15_16 => ?_)
                              · try with_reducible exact ft_elim g15_16
                                all_goals
                                  try replace g15_16 := of_decide_eq_true g15_16
                                  refine rl_vg (met_on rfl rfl rfl rfl) rfl rfl (S := fun _ => True) trivial (v_move rfl) ?_
                                  refine rl_vg (met_on rfl rfl rfl rfl) rfl rfl (S := fun _ => True) trivial (v_not rfl) ?_
                                  first | (refine xV rfl rfl rfl (v_pick_true rfl rfl) ?_) | (refine xV rfl rfl rfl (v_pick_false rfl rfl) ?_) | (refine xV rfl rfl rfl (v_pick rfl rfl rfl) ?_)
                                  refine xV rfl rfl rfl (v_move rfl) ?_
                                  refine rl_split (s := 124) rfl (fun g15_20 => ?_) (fun g15_20 => ?_)
                                  · try with_reducible exact ft_elim g15_20
                                    all_goals
                                      try replace g15_20 := of_decide_eq_true g15_20
                                      refine rl_vg (met_on rfl rfl rfl rfl) rfl rfl (by first | exact sat_cells hw (by (repeat first | with_reducible exact xH | apply xT); first | done | fail) ⟨rfl, rfl, rfl, rfl, trivial⟩ | exact ro_ats hw (by (repeat first | with_reducible exact xH | apply xT); first | done | fail) (by assumption) | exact own_cells hw (by (repeat first | with_reducible exact xH | apply xT); first | done | fail) (by assumption) | exact old_cells hw (by (repeat first | with_reducible exact xH | apply xT); first | done | fail) (by assumption)) (v_loadAgg (vs := [_, _, _, _]) T.agg_45_4 rfl rfl) ?_
                                      refine rl_vg (met_on rfl rfl rfl rfl) rfl rfl (S := fun _ => True) trivial (v_build rfl (T.build_45 ..)) ?_
                                      refine rl_vg (met_on rfl rfl rfl rfl) rfl rfl (S := fun _ => True) trivial (v_eqlAgg T.cmp_45_iiii rfl rfl rfl rfl (by first | exact eq_Shp _ _ | rfl)) ?_
                                      first | (refine xV rfl rfl rfl (v_pick_true rfl rfl) ?_) | (refine xV rfl rfl rfl (v_pick_false rfl rfl) ?_) | (refine xV rfl rfl rfl (v_pick rfl rfl rfl) ?_)
                                      refine xV rfl rfl rfl (v_assign rfl) ?_
                                      refine rl_nil (g_le (xK (xS rfl (xS rfl (xS rfl (xS rfl (xS rfl (xS rfl (xS rfl (xS rfl (xS rfl (xS rfl (xS rfl (xS rfl (xS rfl (xS rfl (xS rfl (xS rfl (xS rfl (xS rfl (xS rfl (xS rfl (xS rfl (xS rfl (xS rfl (xS rfl (xS rfl (xS rfl (xS rfl (xS rfl (xS rfl (xS rfl (Fr.le_refl _)))))))))))))))))))))))))))))))) ?_)
                                      refine g_ret1 Try.func3 rfl rfl ?_
                                      exact ⟨rfl, (hw.xQ : Sat (envOf W) w [RO g8]).shrink (hg2.trans (hg3.trans (hg4.trans (hg5.trans (hg6.trans (hg7.trans hg8))))))⟩
                                  · try with_reducible exact tf_elim g15_20
                                    all_goals
                                      try replace g15_20 := of_decide_eq_false g15_20
                                      simp at g15_20
                              · try with_reducible exact tf_elim g15_16
                                all_goals
                                  try replace g15_16 := of_decide_eq_false g15_16
                                  simp at g15_16
                          · try with_reducible exact tf_elim g15_12
                            all_goals
                              try replace g15_12 := of_decide_eq_false g15_12
                              refine rl_off (met_off rfl rfl rfl rfl rfl) rfl rfl ?_
                              refine rl_off (met_off rfl rfl rfl rfl rfl) rfl rfl ?_
                              first | (refine xV rfl rfl rfl (v_pick_true rfl rfl) ?_) | (refine xV rfl rfl rfl (v_pick_false rfl rfl) ?_) | (refine xV rfl rfl rfl (v_pick rfl rfl rfl) ?_)
                              refine xV rfl rfl rfl (v_move rfl) ?_
                              refine rl_off (met_off rfl rfl rfl rfl rfl) rfl rfl ?_
                              refine rl_off (met_off rfl rfl rfl rfl rfl) rfl rfl ?_
                              first | (refine xV rfl rfl rfl (v_pick_true rfl rfl) ?_) | (refine xV rfl rfl rfl (v_pick_false rfl rfl) ?_) | (refine xV rfl rfl rfl (v_pick rfl rfl rfl) ?_)
                              refine xV rfl rfl rfl (v_move rfl) ?_
                              refine rl_off (met_off rfl rfl rfl rfl rfl) rfl rfl ?_
                              refine rl_off (met_off rfl rfl rfl rfl rfl) rfl rfl ?_
                              refine rl_off (met_off rfl rfl rfl rfl rfl) rfl rfl ?_
                              first | (refine xV rfl rfl rfl (v_pick_true rfl rfl) ?_) | (refine xV rfl rfl rfl (v_pick_false rfl rfl) ?_) | (refine xV rfl rfl rfl (v_pick rfl rfl rfl) ?_)
                              refine xV rfl rfl rfl (v_assign rfl) ?_
                              refine rl_nil (g_le (xK (xS rfl (xS rfl (xS rfl (xS rfl (xS rfl (xS rfl (xS rfl (xS rfl (xS rfl (xS rfl (xS rfl (xS rfl (xS rfl (xS rfl (xS rfl (xS rfl (xS rfl (xS rfl (xS rfl (xS rfl (xS rfl (xS rfl (xS rfl (xS rfl (xS rfl (xS rfl (xS rfl (xS rfl (Fr.le_refl _)))))))))))))))))))))))))))))) ?_)
                              refine g_ret1 Try.func3 rfl rfl ?_
                              exact ⟨rfl, (hw.xQ : Sat (envOf W) w [RO g8]).shrink (hg2.trans (hg3.trans (hg4.trans (hg5.trans (hg6.trans (hg7.trans hg8))))))⟩
                      · try with_reducible exact tf_elim g15_8
                        all_goals
                          try replace g15_8 := of_decide_eq_false g15_8
                          refine rl_off (met_off rfl rfl rfl rfl rfl) rfl rfl ?_
                          refine rl_off (met_off rfl rfl rfl rfl rfl) rfl rfl ?_
                          first | (refine xV rfl rfl rfl (v_pick_true rfl rfl) ?_) | (refine xV rfl rfl rfl (v_pick_false rfl rfl) ?_) | (refine xV rfl rfl rfl (v_pick rfl rfl rfl) ?_)
                          refine xV rfl rfl rfl (v_move rfl) ?_
                          refine rl_off (met_off rfl rfl rfl rfl rfl) rfl rfl ?_
                          refine rl_off (met_off rfl rfl rfl rfl rfl) rfl rfl ?_
                          first | (refine xV rfl rfl rfl (v_pick_true rfl rfl) ?_) | (refine xV rfl rfl rfl (v_pick_false rfl rfl) ?_) | (refine xV rfl rfl rfl (v_pick rfl rfl rfl) ?_)
                          refine xV rfl rfl rfl (v_move rfl) ?_
                          refine rl_off (met_off rfl rfl rfl rfl rfl) rfl rfl ?_
                          refine rl_off (met_off rfl rfl rfl rfl rfl) rfl rfl ?_
                          first | (refine xV rfl rfl rfl (v_pick_true rfl rfl) ?_) | (refine xV rfl rfl rfl (v_pick_false rfl rfl) ?_) | (refine xV rfl rfl rfl (v_pick rfl rfl rfl) ?_)
                          refine xV rfl rfl rfl (v_move rfl) ?_
                          refine rl_off (met_off rfl rfl rfl rfl rfl) rfl rfl ?_
                          refine rl_off (met_off rfl rfl rfl rfl rfl) rfl rfl ?_
                          refine rl_off (met_off rfl rfl rfl rfl rfl) rfl rfl ?_
                          first | (refine xV rfl rfl rfl (v_pick_true rfl rfl) ?_) | (refine xV rfl rfl rfl (v_pick_false rfl rfl) ?_) | (refine xV rfl rfl rfl (v_pick rfl rfl rfl) ?_)
                          refine xV rfl rfl rfl (v_assign rfl) ?_
                          refine rl_nil (g_le (xK (xS rfl (xS rfl (xS rfl (xS rfl (xS rfl (xS rfl (xS rfl (xS rfl (xS rfl (xS rfl (xS rfl (xS rfl (xS rfl (xS rfl (xS rfl (xS rfl (xS rfl (xS rfl (xS rfl (xS rfl (xS rfl (xS rfl (xS rfl (xS rfl (xS rfl (xS rfl (xS rfl (Fr.le_refl _))))))))))))))))))))))))))))) ?_)
                          refine g_ret1 Try.func3 rfl rfl ?_
                          exact ⟨rfl, (hw.xQ : Sat (envOf W) w [RO g8]).shrink (hg2.trans (hg3.trans (hg4.trans (hg5.trans (hg6.trans (hg7.trans hg8))))))⟩
                  · try with_reducible exact tf_elim g15_3
                    all_goals
                      try replace g15_3 := of_decide_eq_false g15_3
                      refine rl_off (met_off rfl rfl rfl rfl rfl) rfl rfl ?_
                      refine rl_off (met_off rfl rfl rfl rfl rfl) rfl rfl ?_
                      refine rl_off (met_off rfl rfl rfl rfl rfl) rfl rfl ?_
                      first | (refine xV rfl rfl rfl (v_pick_true rfl rfl) ?_) | (refine xV rfl rfl rfl (v_pick_false rfl rfl) ?_) | (refine xV rfl rfl rfl (v_pick rfl rfl rfl) ?_)
                      refine xV rfl rfl rfl (v_move rfl) ?_
                      refine rl_off (met_off rfl rfl rfl rfl rfl) rfl rfl ?_
                      refine rl_off (met_off rfl rfl rfl rfl rfl) rfl rfl ?_
                      first | (refine xV rfl rfl rfl (v_pick_true rfl rfl) ?_) | (refine xV rfl rfl rfl (v_pick_false rfl rfl) ?_) | (refine xV rfl rfl rfl (v_pick rfl rfl rfl) ?_)
                      refine xV rfl rfl rfl (v_move rfl) ?_
                      refine rl_off (met_off rfl rfl rfl rfl rfl) rfl rfl ?_
                      refine rl_off (met_off rfl rfl rfl rfl rfl) rfl rfl ?_
                      first | (refine xV rfl rfl rfl (v_pick_true rfl rfl) ?_) | (refine xV rfl rfl rfl (v_pick_false rfl rfl) ?_) | (refine xV rfl rfl rfl (v_pick rfl rfl rfl) ?_)
                      refine xV rfl rfl rfl (v_move rfl) ?_
                      refine rl_off (met_off rfl rfl rfl rfl rfl) rfl rfl ?_
                      refine rl_off (met_off rfl rfl rfl rfl rfl) rfl rfl ?_
                      first | (refine xV rfl rfl rfl (v_pick_true rfl rfl) ?_) | (refine xV rfl rfl rfl (v_pick_false rfl rfl) ?_) | (refine xV rfl rfl rfl (v_pick rfl rfl rfl) ?_)
                      refine xV rfl rfl rfl (v_move rfl) ?_
                      refine rl_off (met_off rfl rfl rfl rfl rfl) rfl rfl ?_
                      refine rl_off (met_off rfl rfl rfl rfl rfl) rfl rfl ?_
                      refine rl_off (met_off rfl rfl rfl rfl rfl) rfl rfl ?_
                      first | (refine xV rfl rfl rfl (v_pick_true rfl rfl) ?_) | (refine xV rfl rfl rfl (v_pick_false rfl rfl) ?_) | (refine xV rfl rfl rfl (v_pick rfl rfl rfl) ?_)
                      refine xV rfl rfl rfl (v_assign rfl) ?_
                      refine rl_nil (g_le (xK (xS rfl (xS rfl (xS rfl (xS rfl (xS rfl (xS rfl (xS rfl (xS rfl (xS rfl (xS rfl (xS rfl (xS rfl (xS rfl (xS rfl (xS rfl (xS rfl (xS rfl (xS rfl (xS rfl (xS rfl (xS rfl (xS rfl (xS rfl (xS rfl (xS rfl (xS rfl (Fr.le_refl _)))))))))))))))))))))))))))) ?_)
                      refine g_ret1 Try.func3 rfl rfl ?_
                      exact ⟨rfl, (hw.xQ : Sat (envOf W) w [RO g8]).shrink (hg2.trans (hg3.trans (hg4.trans (hg5.trans (hg6.trans (hg7.trans hg8))))))⟩
              · try with_reducible exact tf_elim g13_10
                all_goals
                  try replace g13_10 := of_decide_eq_false g13_10
                  refine rl_vg (met_on rfl rfl rfl rfl) rfl rfl (S := fun _ => True) trivial (v_move rfl) ?_
                  refine rl_vg (met_on rfl rfl rfl rfl) rfl rfl (S := fun _ => True) trivial (v_neqF rfl rfl (by omega)) ?_
                  refine xV rfl rfl rfl (v_pick_false rfl rfl) ?_
                  refine xV rfl rfl rfl (v_move rfl) ?_
                  refine rl_split (s := 95) rfl (fun g13_14 => ?_) (fun g13_14 => ?_)
                  · try with_reducible exact ft_elim g13_14
                    all_goals
                      try replace g13_14 := of_decide_eq_true g13_14
                      refine rl_off (met_off rfl rfl rfl rfl rfl) rfl rfl ?_
                      refine rl_off (met_off rfl rfl rfl rfl rfl) rfl rfl ?_
                      first | (refine xV rfl rfl rfl (v_pick_true rfl rfl) ?_) | (refine xV rfl rfl rfl (v_pick_false rfl rfl) ?_) | (refine xV rfl rfl rfl (v_pick rfl rfl rfl) ?_)
                      refine xV rfl rfl rfl (v_move rfl) ?_
                      refine rl_off (met_off rfl rfl rfl rfl rfl) rfl rfl ?_
                      refine rl_off (met_off rfl rfl rfl rfl rfl) rfl rfl ?_
                      refine rl_off (met_off rfl rfl rfl rfl rfl) rfl rfl ?_
                      first | (refine xV rfl rfl rfl (v_pick_true rfl rfl) ?_) | (refine xV rfl rfl rfl (v_pick_false rfl rfl) ?_) | (refine xV rfl rfl rfl (v_pick rfl rfl rfl) ?_)
                      refine rl_nil (g_le (xK (xS rfl (xS rfl (xS rfl (xS rfl (xS rfl (xS rfl (xS rfl (xS rfl (xS rfl (xS rfl (xS rfl (xS rfl (xS rfl (xS rfl (xS rfl (xS rfl (xS rfl (xS rfl (xS rfl (xS rfl (xS rfl (xS rfl (xS rfl (xS rfl (xS rfl (xS rfl (Fr.le_refl _)))))))))))))))))))))))))))) ?_)
                      refine g_cond_false rfl ?_
                      refine g_skip (g_seq ?_)
                      refine g_region ?_
                      refine xV rfl rfl rfl (v_move rfl) ?_
                      refine xV rfl rfl rfl (v_lenSlice T.sl_29_9_1 rfl) ?_
                      first | (refine xV rfl rfl rfl (v_eqlT rfl rfl (by first | omega | rfl)) ?_) | (refine xV rfl rfl rfl (v_eqlF rfl rfl (by omega)) ?_) | (refine xV rfl rfl rfl (v_eql rfl rfl) ?_)
                      refine xV rfl rfl rfl (v_move rfl) ?_
                      refine rl_split (s := 107) rfl (fun g15_3 => ?_) (fun g15_3 => ?_)
                      · try with_reducible exact ft_elim g15_3
                        all_goals
                          try replace g15_3 := of_decide_eq_true g15_3
                          refine rl_vg (met_on rfl rfl rfl rfl) rfl rfl (S := fun _ => True) trivial (v_move rfl) ?_
                          refine rl_vg (met_on rfl rfl rfl rfl) rfl rfl (S := fun _ => True) trivial (v_lenSlice T.sl_33_40_2 rfl) ?_
                          first | (refine rl_vg (met_on rfl rfl rfl rfl) rfl rfl (S := fun _ => True) trivial (v_eqlT rfl rfl (by first | omega | rfl)) ?_) | (refine rl_vg (met_on rfl rfl rfl rfl) rfl rfl (S := fun _ => True) trivial (v_eqlF rfl rfl (by omega)) ?_) | (refine rl_vg (met_on rfl rfl rfl rfl) rfl rfl (S := fun _ => True) trivial (v_eql rfl rfl) ?_)
                          first | (refine xV rfl rfl rfl (v_pick_true rfl rfl) ?_) | (refine xV rfl rfl rfl (v_pick_false rfl rfl) ?_) | (refine xV rfl rfl rfl (v_pick rfl rfl rfl) ?_)
                          refine xV rfl rfl rfl (v_move rfl) ?_
                          refine rl_split (s := 112) rfl (fun g15_8 => ?_) (fun g15_8 => ?_)
                          · try with_reducible exact ft_elim g15_8
                            all_goals
                              try replace g15_8 := of_decide_eq_true g15_8
                              refine rl_vg (met_on rfl rfl rfl rfl) rfl rfl (S := fun _ => True) trivial (v_move rfl) ?_
                              first | (refine rl_vg (met_on rfl rfl rfl rfl) rfl rfl (S := fun _ => True) trivial (v_eqlT rfl rfl (by first | omega | rfl)) ?_) | (refine rl_vg (met_on rfl rfl rfl rfl) rfl rfl (S := fun _ => True) trivial (v_eqlF rfl rfl (by omega)) ?_) | (refine rl_vg (met_on rfl rfl rfl rfl) rfl rfl (S := fun _ => True) trivial (v_eql rfl rfl) ?_)
                              first | (refine xV rfl rfl rfl (v_pick_true rfl rfl) ?_) | (refine xV rfl rfl rfl (v_pick_false rfl rfl) ?_) | (refine xV rfl rfl rfl (v_pick rfl rfl rfl) ?_)
                              refine xV rfl rfl rfl (v_move rfl) ?_
                              refine rl_split (s := 116) rfl (fun g15_12 => ?_) (fun g15_12 => ?_)
                              · try with_reducible exact ft_elim g15_12
                                all_goals
                                  try replace g15_12 := of_decide_eq_true g15_12
                                  refine rl_vg (met_on rfl rfl rfl rfl) rfl rfl (S := fun _ => True) trivial (v_move rfl) ?_
                                  refine rl_vg (met_on rfl rfl rfl rfl) rfl rfl (S := fun _ => True) trivial (v_not rfl) ?_
                                  first | (refine xV rfl rfl rfl (v_pick_true rfl rfl) ?_) | (refine xV rfl rfl rfl (v_pick_false rfl rfl) ?_) | (refine xV rfl rfl rfl (v_pick rfl rfl rfl) ?_)
                                  refine xV rfl rfl rfl (v_move rfl) ?_
                                  refine rl_split (s := 120) rfl (fun g15_16 => ?_) (fun g15_16 => ?_)
                                  · try with_reducible exact ft_elim g15_16
                                    all_goals
                                      try replace g15_16 := of_decide_eq_true g15_16
                                      refine rl_vg (met_on rfl rfl rfl rfl) rfl rfl (S := fun _ => True) trivial (v_move rfl) ?_
                                      refine rl_vg (met_on rfl rfl rfl rfl) rfl rfl (S := fun _ => True) trivial (v_not rfl) ?_
                                      first | (refine xV rfl rfl rfl (v_pick_true rfl rfl) ?_) | (refine xV rfl rfl rfl (v_pick_false rfl rfl) ?_) | (refine xV rfl rfl rfl (v_pick rfl rfl rfl) ?_)
                                      refine xV rfl rfl rfl (v_move rfl) ?_
                                      refine rl_split (s := 124) rfl (fun g15_20 => ?_) (fun g15_20 => ?_)
                                      · try with_reducible exact ft_elim g15_20
                                        all_goals
                                          try replace g15_20 := of_decide_eq_true g15_20
                                          refine rl_vg (met_on rfl rfl rfl rfl) rfl rfl (by first | exact sat_cells hw (by (repeat first | with_reducible exact xH | apply xT); first | done | fail) ⟨rfl, rfl, rfl, rfl, trivial⟩ | exact ro_ats hw (by (repeat first | with_reducible exact xH | apply xT); first | done | fail) (by assumption) | exact own_cells hw (by (repeat first | with_reducible exact xH | apply xT); first | done | fail) (by assumption) | exact old_cells hw (by (repeat first | with_reducible exact xH | apply xT); first | done | fail) (by assumption)) (v_loadAgg (vs := [_, _, _, _]) T.agg_45_4 rfl rfl) ?_
                                          refine rl_vg (met_on rfl rfl rfl rfl) rfl rfl (S := fun _ => True) trivial (v_build rfl (T.build_45 ..)) ?_
                                          refine rl_vg (met_on rfl rfl rfl rfl) rfl rfl (S := fun _ => True) trivial (v_eqlAgg T.cmp_45_iiii rfl rfl rfl rfl (by first | exact eq_Shp _ _ | rfl)) ?_
                                          first | (refine xV rfl rfl rfl (v_pick_true rfl rfl) ?_) | (refine xV rfl rfl rfl (v_pick_false rfl rfl) ?_) | (refine xV rfl rfl rfl (v_pick rfl rfl rfl) ?_)
                                          refine xV rfl rfl rfl (v_assign rfl) ?_
                                          refine rl_nil (g_le (xK (xS rfl (xS rfl (xS rfl (xS rfl (xS rfl (xS rfl (xS rfl (xS rfl (xS rfl (xS rfl (xS rfl (xS rfl (xS rfl (xS rfl (xS rfl (xS rfl (xS rfl (xS rfl (xS rfl (xS rfl (xS rfl (xS rfl (xS rfl (xS rfl (xS rfl (xS rfl (xS rfl (xS rfl (xS rfl (xS rfl (Fr.le_refl _)))))))))))))))))))))))))))))))) ?_)
                                          refine g_ret1 Try.func3 rfl rfl ?_
                                          exact ⟨rfl, (hw.xQ : Sat (envOf W) w [RO g8]).shrink (hg2.trans (hg3.trans (hg4.trans (hg5.trans (hg6.trans (hg7.trans hg8))))))⟩
                                      · try with_reducible exact tf_elim g15_20
                                        all_goals
                                          try replace g15_20 := of_decide_eq_false g15_20
                                          simp at g15_20
                                  · try with_reducible exact tf_elim g15_16
                                    all_goals
                                      try replace g15_16 := of_decide_eq_false g15_16
                                      simp at g15_16
                              · try with_reducible exact tf_elim g15_12
                                all_goals
                                  try replace g15_12 := of_decide_eq_false g15_12
                                  refine rl_off (met_off rfl rfl rfl rfl rfl) rfl rfl ?_
                                  refine rl_off (met_off rfl rfl rfl rfl rfl) rfl rfl ?_
                                  first | (refine xV rfl rfl rfl (v_pick_true rfl rfl) ?_) | (refine xV rfl rfl rfl (v_pick_false rfl rfl) ?_) | (refine xV rfl rfl rfl (v_pick rfl rfl rfl) ?_)
                                  refine xV rfl rfl rfl (v_move rfl) ?_
                                  refine rl_off (met_off rfl rfl rfl rfl rfl) rfl rfl ?_
                                  refine rl_off (met_off rfl rfl rfl rfl rfl) rfl rfl ?_
                                  first | (refine xV rfl rfl rfl (v_pick_true rfl rfl) ?_) | (refine xV rfl rfl rfl (v_pick_false rfl rfl) ?_) | (refine xV rfl rfl rfl (v_pick rfl rfl rfl) ?_)
                                  refine xV rfl rfl rfl (v_move rfl) ?_
                                  refine rl_off (met_off rfl rfl rfl rfl rfl) rfl rfl ?_
                                  refine rl_off (met_off rfl rfl rfl rfl rfl) rfl rfl ?_
                                  refine rl_off (met_off rfl rfl rfl rfl rfl) rfl rfl ?_
                                  first | (refine xV rfl rfl rfl (v_pick_true rfl rfl) ?_) | (refine xV rfl rfl rfl (v_pick_false rfl rfl) ?_) | (refine xV rfl rfl rfl (v_pick rfl rfl rfl) ?_)
                                  refine xV rfl rfl rfl (v_assign rfl) ?_
                                  refine rl_nil (g_le (xK (xS rfl (xS rfl (xS rfl (xS rfl (xS rfl (xS rfl (xS rfl (xS rfl (xS rfl (xS rfl (xS rfl (xS rfl (xS rfl (xS rfl (xS rfl (xS rfl (xS rfl (xS rfl (xS rfl (xS rfl (xS rfl (xS rfl (xS rfl (xS rfl (xS rfl (xS rfl (xS rfl (xS rfl (Fr.le_refl _)))))))))))))))))))))))))))))) ?_)
                                  refine g_ret1 Try.func3 rfl rfl ?_
                                  exact ⟨rfl, (hw.xQ : Sat (envOf W) w [RO g8]).shrink (hg2.trans (hg3.trans (hg4.trans (hg5.trans (hg6.trans (hg7.trans hg8))))))⟩
                          · try with_reducible exact tf_elim g15_8
                            all_goals
                              try replace g15_8 := of_decide_eq_false g15_8
                              refine rl_off (met_off rfl rfl rfl rfl rfl) rfl rfl ?_
                              refine rl_off (met_off rfl rfl rfl rfl rfl) rfl rfl ?_
                              first | (refine xV rfl rfl rfl (v_pick_true rfl rfl) ?_) | (refine xV rfl rfl rfl (v_pick_false rfl rfl) ?_) | (refine xV rfl rfl rfl (v_pick rfl rfl rfl) ?_)
                              refine xV rfl rfl rfl (v_move rfl) ?_
                              refine rl_off (met_off rfl rfl rfl rfl rfl) rfl rfl ?_
                              refine rl_off (met_off rfl rfl rfl rfl rfl) rfl rfl ?_
                              first | (refine xV rfl rfl rfl (v_pick_true rfl rfl) ?_) | (refine xV rfl rfl rfl (v_pick_false rfl rfl) ?_) | (refine xV rfl rfl rfl (v_pick rfl rfl rfl) ?_)
                              refine xV rfl rfl rfl (v_move rfl) ?_
                              refine rl_off (met_off rfl rfl rfl rfl rfl) rfl rfl ?_
                              refine rl_off (met_off rfl rfl rfl rfl rfl) rfl rfl ?_
                              first | (refine xV rfl rfl rfl (v_pick_true rfl rfl) ?_) | (refine xV rfl rfl rfl (v_pick_false rfl rfl) ?_) | (refine xV rfl rfl rfl (v_pick rfl rfl rfl) ?_)
                              refine xV rfl rfl rfl (v_move rfl) ?_
                              refine rl_off (met_off rfl rfl rfl rfl rfl) rfl rfl ?_
                              refine rl_off (met_off rfl rfl rfl rfl rfl) rfl rfl ?_
                              refine rl_off (met_off rfl rfl rfl rfl rfl) rfl rfl ?_
                              first | (refine xV rfl rfl rfl (v_pick_true rfl rfl) ?_) | (refine xV rfl rfl rfl (v_pick_false rfl rfl) ?_) | (refine xV rfl rfl rfl (v_pick rfl rfl rfl) ?_)
                              refine xV rfl rfl rfl (v_assign rfl) ?_
                              refine rl_nil (g_le (xK (xS rfl (xS rfl (xS rfl (xS rfl (xS rfl (xS rfl (xS rfl (xS rfl (xS rfl (xS rfl (xS rfl (xS rfl (xS rfl (xS rfl (xS rfl (xS rfl (xS rfl (xS rfl (xS rfl (xS rfl (xS rfl (xS rfl (xS rfl (xS rfl (xS rfl (xS rfl (xS rfl (Fr.le_refl _))))))))))))))))))))))))))))) ?_)
                              refine g_ret1 Try.func3 rfl rfl ?_
                              exact ⟨rfl, (hw.xQ : Sat (envOf W) w [RO g8]).shrink (hg2.trans (hg3.trans (hg4.trans (hg5.trans (hg6.trans (hg7.trans hg8))))))⟩
                      · try with_reducible exact tf_elim g15_3
                        all_goals
                          try replace g15_3 := of_decide_eq_false g15_3
                          refine rl_off (met_off rfl rfl rfl rfl rfl) rfl rfl ?_
                          refine rl_off (met_off rfl rfl rfl rfl rfl) rfl rfl ?_
                          refine rl_off (met_off rfl rfl rfl rfl rfl) rfl rfl ?_
                          first | (refine xV rfl rfl rfl (v_pick_true rfl rfl) ?_) | (refine xV rfl rfl rfl (v_pick_false rfl rfl) ?_) | (refine xV rfl rfl rfl (v_pick rfl rfl rfl) ?_)
                          refine xV rfl rfl rfl (v_move rfl) ?_
                          refine rl_off (met_off rfl rfl rfl rfl rfl) rfl rfl ?_
                          refine rl_off (met_off rfl rfl rfl rfl rfl) rfl rfl ?_
                          first | (refine xV rfl rfl rfl (v_pick_true rfl rfl) ?_) | (refine xV rfl rfl rfl (v_pick_false rfl rfl) ?_) | (refine xV rfl rfl rfl (v_pick rfl rfl rfl) ?_)
                          refine xV rfl rfl rfl (v_move rfl) ?_
                          refine rl_off (met_off rfl rfl rfl rfl rfl) rfl rfl ?_
                          refine rl_off (met_off rfl rfl rfl rfl rfl) rfl rfl ?_
                          first | (refine xV rfl rfl rfl (v_pick_true rfl rfl) ?_) | (refine xV rfl rfl rfl (v_pick_false rfl rfl) ?_) | (refine xV rfl rfl rfl (v_pick rfl rfl rfl) ?_)
                          refine xV rfl rfl rfl (v_move rfl) ?_
                          refine rl_off (met_off rfl rfl rfl rfl rfl) rfl rfl ?_
                          refine rl_off (met_off rfl rfl rfl rfl rfl) rfl rfl ?_
                          first | (refine xV rfl rfl rfl (v_pick_true rfl rfl) ?_) | (refine xV rfl rfl rfl (v_pick_false rfl rfl) ?_) | (refine xV rfl rfl rfl (v_pick rfl rfl rfl) ?_)
                          refine xV rfl rfl rfl (v_move rfl) ?_
                          refine rl_off (met_off rfl rfl rfl rfl rfl) rfl rfl ?_
                          refine rl_off (met_off rfl rfl rfl rfl rfl) rfl rfl ?_
                          refine rl_off (met_off rfl rfl rfl rfl rfl) rfl rfl ?_
                          first | (refine xV rfl rfl rfl (v_pick_true rfl rfl) ?_) | (refine xV rfl rfl rfl (v_pick_false rfl rfl) ?_) | (refine xV rfl rfl rfl (v_pick rfl rfl rfl) ?_)
                          refine xV rfl rfl rfl (v_assign rfl) ?_
                          refine rl_nil (g_le (xK (xS rfl (xS rfl (xS rfl (xS rfl (xS rfl (xS rfl (xS rfl (xS rfl (xS rfl (xS rfl (xS rfl (xS rfl (xS rfl (xS rfl (xS rfl (xS rfl (xS rfl (xS rfl (xS rfl (xS rfl (xS rfl (xS rfl (xS rfl (xS rfl (xS rfl (xS rfl (Fr.le_refl _)))))))))))))))))))))))))))) ?_)
                          refine g_ret1 Try.func3 rfl rfl ?_
                          exact ⟨rfl, (hw.xQ : Sat (envOf W) w [RO g8]).shrink (hg2.trans (hg3.trans (hg4.trans (hg5.trans (hg6.trans (hg7.trans hg8))))))⟩
                  · try with_reducible exact tf_elim g13_14
                    all_goals
                      try replace g13_14 := of_decide_eq_false g13_14
                      refine rl_vg (met_on rfl rfl rfl rfl) rfl rfl (S := fun _ => True) trivial (v_move rfl) ?_
                      refine rl_vg (met_on rfl rfl rfl rfl) rfl rfl (S := fun _ => True) trivial (v_neqF rfl rfl (by omega)) ?_
                      refine xV rfl rfl rfl (v_pick_false rfl rfl) ?_
                      refine xV rfl rfl rfl (v_move rfl) ?_
                      refine rl_split (s := 99) rfl (fun g13_18 => ?_) (fun g13_18 => ?_)
                      · try with_reducible exact ft_elim g13_18
                        all_goals
                          try replace g13_18 := of_decide_eq_true g13_18
                          refine rl_off (met_off rfl rfl rfl rfl rfl) rfl rfl ?_
                          refine rl_off (met_off rfl rfl rfl rfl rfl) rfl rfl ?_
                          refine rl_off (met_off rfl rfl rfl rfl rfl) rfl rfl ?_
                          first | (refine xV rfl rfl rfl (v_pick_true rfl rfl) ?_) | (refine xV rfl rfl rfl (v_pick_false rfl rfl) ?_) | (refine xV rfl rfl rfl (v_pick rfl rfl rfl) ?_)
                          refine rl_nil (g_le (xK (xS rfl (xS rfl (xS rfl (xS rfl (xS rfl (xS rfl (xS rfl (xS rfl (xS rfl (xS rfl (xS rfl (xS rfl (xS rfl (xS rfl (xS rfl (xS rfl (xS rfl (xS rfl (xS rfl (xS rfl (xS rfl (xS rfl (xS rfl (xS rfl (xS rfl (xS rfl (xS rfl (Fr.le_refl _))))))))))))))))))))))))))))) ?_)
                          refine g_cond_false rfl ?_
                          refine g_skip (g_seq ?_)
                          refine g_region ?_
                          refine xV rfl rfl rfl (v_move rfl) ?_
                          refine xV rfl rfl rfl (v_lenSlice T.sl_29_9_1 rfl) ?_
                          first | (refine xV rfl rfl rfl (v_eqlT rfl rfl (by first | omega | rfl)) ?_) | (refine xV rfl rfl rfl (v_eqlF rfl rfl (by omega)) ?_) | (refine xV rfl rfl rfl (v_eql rfl rfl) ?_)
                          refine xV rfl rfl rfl (v_move rfl) ?_
                          refine rl_split (s := 107) rfl (fun g15_3 => ?_) (fun g15_3 => ?_)
                          · try with_reducible exact ft_elim g15_3
                            all_goals
                              try replace g15_3 := of_decide_eq_true g15_3
                              refine rl_vg (met_on rfl rfl rfl rfl) rfl rfl (S := fun _ => True) trivial (v_move rfl) ?_
                              refine rl_vg (met_on rfl rfl rfl rfl) rfl rfl (S := fun _ => True) trivial (v_lenSlice T.sl_33_40_2 rfl) ?_
                              first | (refine rl_vg (met_on rfl rfl rfl rfl) rfl rfl (S := fun _ => True) trivial (v_eqlT rfl rfl (by first | omega | rfl)) ?_) | (refine rl_vg (met_on rfl rfl rfl rfl) rfl rfl (S := fun _ => True) trivial (v_eqlF rfl rfl (by omega)) ?_) | (refine rl_vg (met_on rfl rfl rfl rfl) rfl rfl (S := fun _ => True) trivial (v_eql rfl rfl) ?_)
                              first | (refine xV rfl rfl rfl (v_pick_true rfl rfl) ?_) | (refine xV rfl rfl rfl (v_pick_false rfl rfl) ?_) | (refine xV rfl rfl rfl (v_pick rfl rfl rfl) ?_)
                              refine xV rfl rfl rfl (v_move rfl) ?_
                              refine rl_split (s := 112) rfl (fun g15_8 => ?_) (fun g15_8 => ?_)
                              · try with_reducible exact ft_elim g15_8
                                all_goals
                                  try replace g15_8 := of_decide_eq_true g15_8
                                  refine rl_vg (met_on rfl rfl rfl rfl) rfl rfl (S := fun _ => True) trivial (v_move rfl) ?_
                                  first | (refine rl_vg (met_on rfl rfl rfl rfl) rfl rfl (S := fun _ => True) trivial (v_eqlT rfl rfl (by first | omega | rfl)) ?_) | (refine rl_vg (met_on rfl rfl rfl rfl) rfl rfl (S := fun _ => True) trivial (v_eqlF rfl rfl (by omega)) ?_) | (refine rl_vg (met_on rfl rfl rfl rfl) rfl rfl (S := fun _ => True) trivial (v_eql rfl rfl) ?_)
                                  first | (refine xV rfl rfl rfl (v_pick_true rfl rfl) ?_) | (refine xV rfl rfl rfl (v_pick_false rfl rfl) ?_) | (refine xV rfl rfl rfl (v_pick rfl rfl rfl) ?_)
                                  refine xV rfl rfl rfl (v_move rfl) ?_
                                  refine rl_split (s := 116) rfl (fun g15_12 => ?_) (fun g15_12 => ?_)
                                  · try with_reducible exact ft_elim g15_12
                                    all_goals
                                      try replace g15_12 := of_decide_eq_true g15_12
                                      refine rl_vg (met_on rfl rfl rfl rfl) rfl rfl (S := fun _ => True) trivial (v_move rfl) ?_
                                      refine rl_vg (met_on rfl rfl rfl rfl) rfl rfl (S := fun _ => True) trivial (v_not rfl) ?_
                                      first | (refine xV rfl rfl rfl (v_pick_true rfl rfl) ?_) | (refine xV rfl rfl rfl (v_pick_false rfl rfl) ?_) | (refine xV rfl rfl rfl (v_pick rfl rfl rfl) ?_)
                                      refine xV rfl rfl rfl (v_move rfl) ?_
                                      refine rl_split (s := 120) rfl (fun g15_16 => ?_) (fun g15_16 => ?_)
                                      · try with_reducible exact ft_elim g15_16
                                        all_goals
                                          try replace g15_16 := of_decide_eq_true g15_16
                                          refine rl_vg (met_on rfl rfl rfl rfl) rfl rfl (S := fun _ => True) trivial (v_move rfl) ?_
                                          refine rl_vg (met_on rfl rfl rfl rfl) rfl rfl (S := fun _ => True) trivial (v_not rfl) ?_
                                          first | (refine xV rfl rfl rfl (v_pick_true rfl rfl) ?_) | (refine xV rfl rfl rfl (v_pick_false rfl rfl) ?_) | (refine xV rfl rfl rfl (v_pick rfl rfl rfl) ?_)
                                          refine xV rfl rfl rfl (v_move rfl) ?_
                                          refine rl_split (s := 124) rfl (fun g15_20 => ?_) (fun g15_20 => ?_)
                                          · try with_reducible exact ft_elim g15_20
                                            all_goals
                                              try replace g15_20 := of_decide_eq_true g15_20
                                              refine rl_vg (met_on rfl rfl rfl rfl) rfl rfl (by first | exact sat_cells hw (by (repeat first | with_reducible exact xH | apply xT); first | done | fail) ⟨rfl, rfl, rfl, rfl, trivial⟩ | exact ro_ats hw (by (repeat first | with_reducible exact xH | apply xT); first | done | fail) (by assumption) | exact own_cells hw (by (repeat first | with_reducible exact xH | apply xT); first | done | fail) (by assumption) | exact old_cells hw (by (repeat first | with_reducible exact xH | apply xT); first | done | fail) (by assumption)) (v_loadAgg (vs := [_, _, _, _]) T.agg_45_4 rfl rfl) ?_
                                              refine rl_vg (met_on rfl rfl rfl rfl) rfl rfl (S := fun _ => True) trivial (v_build rfl (T.build_45 ..)) ?_
                                              refine rl_vg (met_on rfl rfl rfl rfl) rfl rfl (S := fun _ => True) trivial (v_eqlAgg T.cmp_45_iiii rfl rfl rfl rfl (by first | exact eq_Shp _ _ | rfl)) ?_
                                              first | (refine xV rfl rfl rfl (v_pick_true rfl rfl) ?_) | (refine xV rfl rfl rfl (v_pick_false rfl rfl) ?_) | (refine xV rfl rfl rfl (v_pick rfl rfl rfl) ?_)
                                              refine xV rfl rfl rfl (v_assign rfl) ?_
                                              refine rl_nil (g_le (xK (xS rfl (xS rfl (xS rfl (xS rfl (xS rfl (xS rfl (xS rfl (xS rfl (xS rfl (xS rfl (xS rfl (xS rfl (xS rfl (xS rfl (xS rfl (xS rfl (xS rfl (xS rfl (xS rfl (xS rfl (xS rfl (xS rfl (xS rfl (xS rfl (xS rfl (xS rfl (xS rfl (xS rfl (xS rfl (xS rfl (Fr.le_refl _)))))))))))))))))))))))))))))))) ?_)
                                              refine g_ret1 Try.func3 rfl rfl ?_
                                              exact ⟨rfl, (hw.xQ : Sat (envOf W) w [RO g8]).shrink (hg2.trans (hg3.trans (hg4.trans (hg5.trans (hg6.trans (hg7.trans hg8))))))⟩
                                          · try with_reducible exact tf_elim g15_20
                                            all_goals
                                              try replace g15_20 := of_decide_eq_false g15_20
                                              simp at g15_20
                                      · try with_reducible exact tf_elim g15_16
                                        all_goals
                                          try replace g15_16 := of_decide_eq_false g15_16
                                          simp at g15_16
                                  · try with_reducible exact tf_elim g15_12
                                    all_goals
                                      try replace g15_12 := of_decide_eq_false g15_12
                                      refine rl_off (met_off rfl rfl rfl rfl rfl) rfl rfl ?_
                                      refine rl_off (met_off rfl rfl rfl rfl rfl) rfl rfl ?_
                                      first | (refine xV rfl rfl rfl (v_pick_true rfl rfl) ?_) | (refine xV rfl rfl rfl (v_pick_false rfl rfl) ?_) | (refine xV rfl rfl rfl (v_pick rfl rfl rfl) ?_)
                                      refine xV rfl rfl rfl (v_move rfl) ?_
                                      refine rl_off (met_off rfl rfl rfl rfl rfl) rfl rfl ?_
                                      refine rl_off (met_off rfl rfl rfl rfl rfl) rfl rfl ?_
                                      first | (refine xV rfl rfl rfl (v_pick_true rfl rfl) ?_) | (refine xV rfl rfl rfl (v_pick_false rfl rfl) ?_) | (refine xV rfl rfl rfl (v_pick rfl rfl rfl) ?_)
                                      refine xV rfl rfl rfl (v_move rfl) ?_
                                      refine rl_off (met_off rfl rfl rfl rfl rfl) rfl rfl ?_
                                      refine rl_off (met_off rfl rfl rfl rfl rfl) rfl rfl ?_
                                      refine rl_off (met_off rfl rfl rfl rfl rfl) rfl rfl ?_
                                      first | (refine xV rfl rfl rfl (v_pick_true rfl rfl) ?_) | (refine xV rfl rfl rfl (v_pick_false rfl rfl) ?_) | (refine xV rfl rfl rfl (v_pick rfl rfl rfl) ?_)
                                      refine xV rfl rfl rfl (v_assign rfl) ?_
                                      refine rl_nil (g_le (xK (xS rfl (xS rfl (xS rfl (xS rfl (xS rfl (xS rfl (xS rfl (xS rfl (xS rfl (xS rfl (xS rfl (xS rfl (xS rfl (xS rfl (xS rfl (xS rfl (xS rfl (xS rfl (xS rfl (xS rfl (xS rfl (xS rfl (xS rfl (xS rfl (xS rfl (xS rfl (xS rfl (xS rfl (Fr.le_refl _)))))))))))))))))))))))))))))) ?_)
                                      refine g_ret1 Try.func3 rfl rfl ?_
                                      exact ⟨rfl, (hw.xQ : Sat (envOf W) w [RO g8]).shrink (hg2.trans (hg3.trans (hg4.trans (hg5.trans (hg6.trans (hg7.trans hg8))))))⟩
                              · try with_reducible exact tf_elim g15_8
                                all_goals
                                  try replace g15_8 := of_decide_eq_false g15_8
                                  refine rl_off (met_off rfl rfl rfl rfl rfl) rfl rfl ?_
                                  refine rl_off (met_off rfl rfl rfl rfl rfl) rfl rfl ?_
                                  first | (refine xV rfl rfl rfl (v_pick_true rfl rfl) ?_) | (refine xV rfl rfl rfl (v_pick_false rfl rfl) ?_) | (refine xV rfl rfl rfl (v_pick rfl rfl rfl) ?_)
                                  refine xV rfl rfl rfl (v_move rfl) ?_
                                  refine rl_off (met_off rfl rfl rfl rfl rfl) rfl rfl ?_
                                  refine rl_off (met_off rfl rfl rfl rfl rfl) rfl rfl ?_
                                  first | (refine xV rfl rfl rfl (v_pick_true rfl rfl) ?_) | (refine xV rfl rfl rfl (v_pick_false rfl rfl) ?_) | (refine xV rfl rfl rfl (v_pick rfl rfl rfl) ?_)
                                  refine xV rfl rfl rfl (v_move rfl) ?_
                                  refine rl_off (met_off rfl rfl rfl rfl rfl) rfl rfl ?_
                                  refine rl_off (met_off rfl rfl rfl rfl rfl) rfl rfl ?_
                                  first | (refine xV rfl rfl rfl (v_pick_true rfl rfl) ?_) | (refine xV rfl rfl rfl (v_pick_false rfl rfl) ?_) | (refine xV rfl rfl rfl (v_pick rfl rfl rfl) ?_)
                                  refine xV rfl rfl rfl (v_move rfl) ?_
                                  refine rl_off (met_off rfl rfl rfl rfl rfl) rfl rfl ?_
                                  refine rl_off (met_off rfl rfl rfl rfl rfl) rfl rfl ?_
                                  refine rl_off (met_off rfl rfl rfl rfl rfl) rfl rfl ?_
                                  first | (refine xV rfl rfl rfl (v_pick_true rfl rfl) ?_) | (refine xV rfl rfl rfl (v_pick_false rfl rfl) ?_) | (refine xV rfl rfl rfl (v_pick rfl rfl rfl) ?_)
                                  refine xV rfl rfl rfl (v_assign rfl) ?_
                                  refine rl_nil (g_le (xK (xS rfl (xS rfl (xS rfl (xS rfl (xS rfl (xS rfl (xS rfl (xS rfl (xS rfl (xS rfl (xS rfl (xS rfl (xS rfl (xS rfl (xS rfl (xS rfl (xS rfl (xS rfl (xS rfl (xS rfl (xS rfl (xS rfl (xS rfl (xS rfl (xS rfl (xS rfl (xS rfl (Fr.le_refl _))))))))))))))))))))))))))))) ?_)
                                  refine g_ret1 Try.func3 rfl rfl ?_
                                  exact ⟨rfl, (hw.xQ : Sat (envOf W) w [RO g8]).shrink (hg2.trans (hg3.trans (hg4.trans (hg5.trans (hg6.trans (hg7.trans hg8))))))⟩
                          · try with_reducible exact tf_elim g15_3
                            all_goals
                              try replace g15_3 := of_decide_eq_false g15_3
                              refine rl_off (met_off rfl rfl rfl rfl rfl) rfl rfl ?_
                              refine rl_off (met_off rfl rfl rfl rfl rfl) rfl rfl ?_
                              refine rl_off (met_off rfl rfl rfl rfl rfl) rfl rfl ?_
                              first | (refine xV rfl rfl rfl (v_pick_true rfl rfl) ?_) | (refine xV rfl rfl rfl (v_pick_false rfl rfl) ?_) | (refine xV rfl rfl rfl (v_pick rfl rfl rfl) ?_)
                              refine xV rfl rfl rfl (v_move rfl) ?_
                              refine rl_off (met_off rfl rfl rfl rfl rfl) rfl rfl ?_
                              refine rl_off (met_off rfl rfl rfl rfl rfl) rfl rfl ?_
                              first | (refine xV rfl rfl rfl (v_pick_true rfl rfl) ?_) | (refine xV rfl rfl rfl (v_pick_false rfl rfl) ?_) | (refine xV rfl rfl rfl (v_pick rfl rfl rfl) ?_)
                              refine xV rfl rfl rfl (v_move rfl) ?_
                              refine rl_off (met_off rfl rfl rfl rfl rfl) rfl rfl ?_
                              refine rl_off (met_off rfl rfl rfl rfl rfl) rfl rfl ?_
                              first | (refine xV rfl rfl rfl (v_pick_true rfl rfl) ?_) | (refine xV rfl rfl rfl (v_pick_false rfl rfl) ?_) | (refine xV rfl rfl rfl (v_pick rfl rfl rfl) ?_)
                              refine xV rfl rfl rfl (v_move rfl) ?_
                              refine rl_off (met_off rfl rfl rfl rfl rfl) rfl rfl ?_
                              refine rl_off (met_off rfl rfl rfl rfl rfl) rfl rfl ?_
                              first | (refine xV rfl rfl rfl (v_pick_true rfl rfl) ?_) | (refine xV rfl rfl rfl (v_pick_false rfl rfl) ?_) | (refine xV rfl rfl rfl (v_pick rfl rfl rfl) ?_)
                              refine xV rfl rfl rfl (v_move rfl) ?_
                              refine rl_off (met_off rfl rfl rfl rfl rfl) rfl rfl ?_
                              refine rl_off (met_off rfl rfl rfl rfl rfl) rfl rfl ?_
                              refine rl_off (met_off rfl rfl rfl rfl rfl) rfl rfl ?_
                              first | (refine xV rfl rfl rfl (v_pick_true rfl rfl) ?_) | (refine xV rfl rfl rfl (v_pick_false rfl rfl) ?_) | (refine xV rfl rfl rfl (v_pick rfl rfl rfl) ?_)
                              refine xV rfl rfl rfl (v_assign rfl) ?_
                              refine rl_nil (g_le (xK (xS rfl (xS rfl (xS rfl (xS rfl (xS rfl (xS rfl (xS rfl (xS rfl (xS rfl (xS rfl (xS rfl (xS rfl (xS rfl (xS rfl (xS rfl (xS rfl (xS rfl (xS rfl (xS rfl (xS rfl (xS rfl (xS rfl (xS rfl (xS rfl (xS rfl (xS rfl (Fr.le_refl _)))))))))))))))))))))))))))) ?_)
                              refine g_ret1 Try.func3 rfl rfl ?_
                              exact ⟨rfl, (hw.xQ : Sat (envOf W) w [RO g8]).shrink (hg2.trans (hg3.trans (hg4.trans (hg5.trans (hg6.trans (hg7.trans hg8))))))⟩
                      · try with_reducible exact tf_elim g13_18
                        all_goals
                          try replace g13_18 := of_decide_eq_false g13_18
                          refine rl_vg (met_on rfl rfl rfl rfl) rfl rfl (S := fun _ => True) trivial (v_move rfl) ?_
                          refine rl_vg (met_on rfl rfl rfl rfl) rfl rfl (S := fun _ => True) trivial (v_move rfl) ?_
                          refine rl_vg (met_on rfl rfl rfl rfl) rfl rfl (S := fun _ => True) trivial (v_neqF rfl rfl (by omega)) ?_
                          refine xV rfl rfl rfl (v_pick_false rfl rfl) ?_
                          refine rl_nil (g_le (xK (xS rfl (xS rfl (xS rfl (xS rfl (xS rfl (xS rfl (xS rfl (xS rfl (xS rfl (xS rfl (xS rfl (xS rfl (xS rfl (xS rfl (xS rfl (xS rfl (xS rfl (xS rfl (xS rfl (xS rfl (xS rfl (xS rfl (xS rfl (xS rfl (xS rfl (xS rfl (xS rfl (Fr.le_refl _))))))))))))))))))))))))))))) ?_)
                          refine g_cond_false rfl ?_
                          refine g_skip (g_seq ?_)
                          refine g_region ?_
                          refine xV rfl rfl rfl (v_move rfl) ?_
                          refine xV rfl rfl rfl (v_lenSlice T.sl_29_9_1 rfl) ?_
                          refine xV rfl rfl rfl (v_eqlT rfl rfl (by rfl)) ?_
                          refine xV rfl rfl rfl (v_move rfl) ?_
                          refine rl_split (s := 107) rfl (fun g15_3 => ?_) (fun g15_3 => ?_)
                          · try with_reducible exact ft_elim g15_3
                            all_goals
                              try replace g15_3 := of_decide_eq_true g15_3
                              refine rl_vg (met_on rfl rfl rfl rfl) rfl rfl (S := fun _ => True) trivial (v_move rfl) ?_
                              refine rl_vg (met_on rfl rfl rfl rfl) rfl rfl (S := fun _ => True) trivial (v_lenSlice T.sl_33_40_2 rfl) ?_
                              refine rl_vg (met_on rfl rfl rfl rfl) rfl rfl (S := fun _ => True) trivial (v_eqlT rfl rfl (by rfl)) ?_
                              refine xV rfl rfl rfl (v_pick_true rfl rfl) ?_
                              refine xV rfl rfl rfl (v_move rfl) ?_
                              refine rl_split (s := 112) rfl (fun g15_8 => ?_) (fun g15_8 => ?_)
                              · try with_reducible exact ft_elim g15_8
                                all_goals
                                  try replace g15_8 := of_decide_eq_true g15_8
                                  refine rl_vg (met_on rfl rfl rfl rfl) rfl rfl (S := fun _ => True) trivial (v_move rfl) ?_
                                  refine rl_vg (met_on rfl rfl rfl rfl) rfl rfl (S := fun _ => True) trivial (v_eqlT rfl rfl (by rfl)) ?_
                                  refine xV rfl rfl rfl (v_pick_true rfl rfl) ?_
                                  refine xV rfl rfl rfl (v_move rfl) ?_
                                  refine rl_split (s := 116) rfl (fun g15_12 => ?_) (fun g15_12 => ?_)
                                  · try with_reducible exact ft_elim g15_12
                                    all_goals
                                      try replace g15_12 := of_decide_eq_true g15_12
                                      refine rl_vg (met_on rfl rfl rfl rfl) rfl rfl (S := fun _ => True) trivial (v_move rfl) ?_
                                      refine rl_vg (met_on rfl rfl rfl rfl) rfl rfl (S := fun _ => True) trivial (v_not rfl) ?_
                                      refine xV rfl rfl rfl (v_pick_true rfl rfl) ?_
                                      refine xV rfl rfl rfl (v_move rfl) ?_
                                      refine rl_split (s := 120) rfl (fun g15_16 => ?_) (fun g15_16 => ?_)
                                      · try with_reducible exact ft_elim g15_16
                                        all_goals
                                          try replace g15_16 := of_decide_eq_true g15_16
                                          refine rl_vg (met_on rfl rfl rfl rfl) rfl rfl (S := fun _ => True) trivial (v_move rfl) ?_
                                          refine rl_vg (met_on rfl rfl rfl rfl) rfl rfl (S := fun _ => True) trivial (v_not rfl) ?_
                                          refine xV rfl rfl rfl (v_pick_true rfl rfl) ?_
                                          refine xV rfl rfl rfl (v_move rfl) ?_
                                          refine rl_split (s := 124) rfl (fun g15_20 => ?_) (fun g15_20 => ?_)
                                          · try with_reducible exact ft_elim g15_20
                                            all_goals
                                              try replace g15_20 := of_decide_eq_true g15_20
                                              refine rl_vg (met_on rfl rfl rfl rfl) rfl rfl (by exact sat_cells hw (by (repeat first | with_reducible exact xH | apply xT); first | done | fail) ⟨rfl, rfl, rfl, rfl, trivial⟩) (v_loadAgg (vs := [_, _, _, _]) T.agg_45_4 rfl rfl) ?_
                                              refine rl_vg (met_on rfl rfl rfl rfl) rfl rfl (S := fun _ => True) trivial (v_build rfl (T.build_45 ..)) ?_
                                              refine rl_vg (met_on rfl rfl rfl rfl) rfl rfl (S := fun _ => True) trivial (v_eqlAgg T.cmp_45_iiii rfl rfl rfl rfl (by rfl)) ?_
                                              refine xV rfl rfl rfl (v_pick_true rfl rfl) ?_
                                              refine xV rfl rfl rfl (v_assign rfl) ?_
                                              refine rl_nil (g_le (xK (xS rfl (xS rfl (xS rfl (xS rfl (xS rfl (xS rfl (xS rfl (xS rfl (xS rfl (xS rfl (xS rfl (xS rfl (xS rfl (xS rfl (xS rfl (xS rfl (xS rfl (xS rfl (xS rfl (xS rfl (xS rfl (xS rfl (xS rfl (xS rfl (xS rfl (xS rfl (xS rfl (xS rfl (xS rfl (xS rfl (Fr.le_refl _)))))))))))))))))))))))))))))))) ?_)
                                              refine g_ret1 Try.func3 rfl rfl ?_
                                              exact ⟨rfl, (hw.xQ : Sat (envOf W) w [RO g8]).shrink (hg2.trans (hg3.trans (hg4.trans (hg5.trans (hg6.trans (hg7.trans hg8))))))⟩
                                          · try with_reducible exact tf_elim g15_20
                                            all_goals
                                              try replace g15_20 := of_decide_eq_false g15_20
                                              simp at g15_20
                                      · try with_reducible exact tf_elim g15_16
                                        all_goals
                                          try replace g15_16 := of_decide_eq_false g15_16
                                          simp at g15_16
                                  · try with_reducible exact tf_elim g15_12
                                    all_goals
                                      try replace g15_12 := of_decide_eq_false g15_12
                                      refine rl_off (met_off rfl rfl rfl rfl rfl) rfl rfl ?_
                                      refine rl_off (met_off rfl rfl rfl rfl rfl) rfl rfl ?_
                                      first | (refine xV rfl rfl rfl (v_pick_true rfl rfl) ?_) | (refine xV rfl rfl rfl (v_pick_false rfl rfl) ?_) | (refine xV rfl rfl rfl (v_pick rfl rfl rfl) ?_)
                                      refine xV rfl rfl rfl (v_move rfl) ?_
                                      refine rl_off (met_off rfl rfl rfl rfl rfl) rfl rfl ?_
                                      refine rl_off (met_off rfl rfl rfl rfl rfl) rfl rfl ?_
                                      first | (refine xV rfl rfl rfl (v_pick_true rfl rfl) ?_) | (refine xV rfl rfl rfl (v_pick_false rfl rfl) ?_) | (refine xV rfl rfl rfl (v_pick rfl rfl rfl) ?_)
                                      refine xV rfl rfl rfl (v_move rfl) ?_
                                      refine rl_off (met_off rfl rfl rfl rfl rfl) rfl rfl ?_
                                      refine rl_off (met_off rfl rfl rfl rfl rfl) rfl rfl ?_
                                      refine rl_off (met_off rfl rfl rfl rfl rfl) rfl rfl ?_
                                      first | (refine xV rfl rfl rfl (v_pick_true rfl rfl) ?_) | (refine xV rfl rfl rfl (v_pick_false rfl rfl) ?_) | (refine xV rfl rfl rfl (v_pick rfl rfl rfl) ?_)
                                      refine xV rfl rfl rfl (v_assign rfl) ?_
                                      refine rl_nil (g_le (xK (xS rfl (xS rfl (xS rfl (xS rfl (xS rfl (xS rfl (xS rfl (xS rfl (xS rfl (xS rfl (xS rfl (xS rfl (xS rfl (xS rfl (xS rfl (xS rfl (xS rfl (xS rfl (xS rfl (xS rfl (xS rfl (xS rfl (xS rfl (xS rfl (xS rfl (xS rfl (xS rfl (xS rfl (Fr.le_refl _)))))))))))))))))))))))))))))) ?_)
                                      refine g_ret1 Try.func3 rfl rfl ?_
                                      exact ⟨rfl, (hw.xQ : Sat (envOf W) w [RO g8]).shrink (hg2.trans (hg3.trans (hg4.trans (hg5.trans (hg6.trans (hg7.trans hg8))))))⟩
                              · try with_reducible exact tf_elim g15_8
                                all_goals
                                  try replace g15_8 := of_decide_eq_false g15_8
                                  refine rl_off (met_off rfl rfl rfl rfl rfl) rfl rfl ?_
                                  refine rl_off (met_off rfl rfl rfl rfl rfl) rfl rfl ?_
                                  first | (refine xV rfl rfl rfl (v_pick_true rfl rfl) ?_) | (refine xV rfl rfl rfl (v_pick_false rfl rfl) ?_) | (refine xV rfl rfl rfl (v_pick rfl rfl rfl) ?_)
                                  refine xV rfl rfl rfl (v_move rfl) ?_
                                  refine rl_off (met_off rfl rfl rfl rfl rfl) rfl rfl ?_
                                  refine rl_off (met_off rfl rfl rfl rfl rfl) rfl rfl ?_
                                  first | (refine xV rfl rfl rfl (v_pick_true rfl rfl) ?_) | (refine xV rfl rfl rfl (v_pick_false rfl rfl) ?_) | (refine xV rfl rfl rfl (v_pick rfl rfl rfl) ?_)
                                  refine xV rfl rfl rfl (v_move rfl) ?_
                                  refine rl_off (met_off rfl rfl rfl rfl rfl) rfl rfl ?_
                                  refine rl_off (met_off rfl rfl rfl rfl rfl) rfl rfl ?_
                                  first | (refine xV rfl rfl rfl (v_pick_true rfl rfl) ?_) | (refine xV rfl rfl rfl (v_pick_false rfl rfl) ?_) | (refine xV rfl rfl rfl (v_pick rfl rfl rfl) ?_)
                                  refine xV rfl rfl rfl (v_move rfl) ?_
                                  refine rl_off (met_off rfl rfl rfl rfl rfl) rfl rfl ?_
                                  refine rl_off (met_off rfl rfl rfl rfl rfl) rfl rfl ?_
                                  refine rl_off (met_off rfl rfl rfl rfl rfl) rfl rfl ?_
                                  first | (refine xV rfl rfl rfl (v_pick_true rfl rfl) ?_) | (refine xV rfl rfl rfl (v_pick_false rfl rfl) ?_) | (refine xV rfl rfl rfl (v_pick rfl rfl rfl) ?_)
                                  refine xV rfl rfl rfl (v_assign rfl) ?_
                                  refine rl_nil (g_le (xK (xS rfl (xS rfl (xS rfl (xS rfl (xS rfl (xS rfl (xS rfl (xS rfl (xS rfl (xS rfl (xS rfl (xS rfl (xS rfl (xS rfl (xS rfl (xS rfl (xS rfl (xS rfl (xS rfl (xS rfl (xS rfl (xS rfl (xS rfl (xS rfl (xS rfl (xS rfl (xS rfl (Fr.le_refl _))))))))))))))))))))))))))))) ?_)
                                  refine g_ret1 Try.func3 rfl rfl ?_
                                  exact ⟨rfl, (hw.xQ : Sat (envOf W) w [RO g8]).shrink (hg2.trans (hg3.trans (hg4.trans (hg5.trans (hg6.trans (hg7.trans hg8))))))⟩
                          · try with_reducible exact tf_elim g15_3
                            all_goals
                              try replace g15_3 := of_decide_eq_false g15_3
                              refine rl_off (met_off rfl rfl rfl rfl rfl) rfl rfl ?_
                              refine rl_off (met_off rfl rfl rfl rfl rfl) rfl rfl ?_
                              refine rl_off (met_off rfl rfl rfl rfl rfl) rfl rfl ?_
                              first | (refine xV rfl rfl rfl (v_pick_true rfl rfl) ?_) | (refine xV rfl rfl rfl (v_pick_false rfl rfl) ?_) | (refine xV rfl rfl rfl (v_pick rfl rfl rfl) ?_)
                              refine xV rfl rfl rfl (v_move rfl) ?_
                              refine rl_off (met_off rfl rfl rfl rfl rfl) rfl rfl ?_
                              refine rl_off (met_off rfl rfl rfl rfl rfl) rfl rfl ?_
                              first | (refine xV rfl rfl rfl (v_pick_true rfl rfl) ?_) | (refine xV rfl rfl rfl (v_pick_false rfl rfl) ?_) | (refine xV rfl rfl rfl (v_pick rfl rfl rfl) ?_)
                              refine xV rfl rfl rfl (v_move rfl) ?_
                              refine rl_off (met_off rfl rfl rfl rfl rfl) rfl rfl ?_
                              refine rl_off (met_off rfl rfl rfl rfl rfl) rfl rfl ?_
                              first | (refine xV rfl rfl rfl (v_pick_true rfl rfl) ?_) | (refine xV rfl rfl rfl (v_pick_false rfl rfl) ?_) | (refine xV rfl rfl rfl (v_pick rfl rfl rfl) ?_)
                              refine xV rfl rfl rfl (v_move rfl) ?_
                              refine rl_off (met_off rfl rfl rfl rfl rfl) rfl rfl ?_
                              refine rl_off (met_off rfl rfl rfl rfl rfl) rfl rfl ?_
                              first | (refine xV rfl rfl rfl (v_pick_true rfl rfl) ?_) | (refine xV rfl rfl rfl (v_pick_false rfl rfl) ?_) | (refine xV rfl rfl rfl (v_pick rfl rfl rfl) ?_)
                              refine xV rfl rfl rfl (v_move rfl) ?_
                              refine rl_off (met_off rfl rfl rfl rfl rfl) rfl rfl ?_
                              refine rl_off (met_off rfl rfl rfl rfl rfl) rfl rfl ?_
                              refine rl_off (met_off rfl rfl rfl rfl rfl) rfl rfl ?_
                              first | (refine xV rfl rfl rfl (v_pick_true rfl rfl) ?_) | (refine xV rfl rfl rfl (v_pick_false rfl rfl) ?_) | (refine xV rfl rfl rfl (v_pick rfl rfl rfl) ?_)
                              refine xV rfl rfl rfl (v_assign rfl) ?_
                              refine rl_nil (g_le (xK (xS rfl (xS rfl (xS rfl (xS rfl (xS rfl (xS rfl (xS rfl (xS rfl (xS rfl (xS rfl (xS rfl (xS rfl (xS rfl (xS rfl (xS rfl (xS rfl (xS rfl (xS rfl (xS rfl (xS rfl (xS rfl (xS rfl (xS rfl (xS rfl (xS rfl (xS rfl (Fr.le_refl _)))))))))))))))))))))))))))) ?_)
                              refine g_ret1 Try.func3 rfl rfl ?_
                              exact ⟨rfl, (hw.xQ : Sat (envOf W) w [RO g8]).shrink (hg2.trans (hg3.trans (hg4.trans (hg5.trans (hg6.trans (hg7.trans hg8))))))⟩
  · intro joinc2
    refine g_cond rfl (fun h2 => ?_) (fun h2 => ?_)
    · try with_reducible exact ft_elim h2
      all_goals
        try replace h2 := of_decide_eq_true h2
        refine g_region ?_
        refine xV rfl rfl rfl (v_assign rfl) ?_
        refine rl_nil (g_le (xK (Fr.le_refl _)) ?_)
        refine joinc2 () w _ ?_ (hw.xQ)
        rw [if_neg (hrq.1 h2)]
        exact (by repeat (first | exact Fr.le_nil _ | refine Fr.le_cons rfl ?_))
    · try with_reducible exact tf_elim h2
      all_goals
        try replace h2 := of_decide_eq_false h2
        refine g_skip ?_
        refine joinc2 () w _ ?_ (hw.xQ)
        rw [if_pos (by rw [hrq] at h2; exact Classical.not_not.1 h2)]
        exact (by repeat (first | exact Fr.le_nil _ | refine Fr.le_cons rfl ?_))

set_option maxRecDepth 100000 in
theorem ListLost_lifted (os : Os) (started : os.Started) (H : Type) (enc : TypeId × Value → H) :
    ReturnsInHanded {} Try.checked os 3 .any (Rows.listLostSpec.pre6 enc Try.prog Try.f3 Rows.listLostRow.domain false) (Rows.listLostSpec.post enc Try.prog Try.f3 false true false false) := by
  refine returnsInHanded_of_change_sized (C := Try.checked) T.own started (by kernel_rfl) Try.func3
    (ChangeSpec.witness6 (enc := enc) (C := Try.checked) false ⟨#[], #[(.agg #[(.int .i64 0), (.int .i64 0), (.int .i64 0), (.int .i64 0), (.int .i64 0), (.int .i64 0), (.int .i64 0)]), (.agg #[(.int .u64 0), (.int .i64 0), (.int .i64 0), (.int .i64 0)]), (.string ByteArray.empty), (.int .i64 0)], []⟩ 8 (by kernel_rfl) (by kernel_rfl) (by kernel_rfl) (by kernel_rfl)) ?_
  intro W base args ds gs before hval0 hW hcnd hsz0 _
  have hval : ∀ (j : Nat) t v, Try.f3.params[j]? = some t → args[j]? = some v → Value.okWide Try.prog W .any base t v := hval0
  have hW' := hW
  obtain ⟨p, q, hA0, hV, rfl, hfz, hnd⟩ := hW
  have hA : DataW.TrodAll enc Try.prog W 0 (fun _ => true) true Try.f3.params.toList args.toList ds p := hA0
  obtain ⟨rfl, rfl⟩ := trodVars_none hV
  have hsz : (DataW.weightsEach Try.prog (Try.f3.params.toList ++ []) (ds ++ [])).all (· ≤ reachBytes) = true := hsz0
  rw [List.append_nil, List.append_nil] at hsz
  rw [Try.params3] at hA hval hsz
  obtain ⟨v0, vs0, d0, ds0, p0, q0, hargs, rfl, rfl, h0, r0⟩ := trodAll_cons hA
  obtain ⟨v1, vs1, d1, ds1, p1, q1, rfl, rfl, rfl, h1, r1⟩ := trodAll_cons r0
  obtain ⟨v2, vs2, d2, ds2, p2, q2, rfl, rfl, rfl, h2, r2⟩ := trodAll_cons r1
  obtain ⟨v3, vs3, d3, ds3, p3, q3, rfl, rfl, rfl, h3, r3⟩ := trodAll_cons r2
  obtain ⟨rfl, rfl, rfl⟩ := trodAll_nil r3
  obtain rfl : args = #[v0, v1, v2, v3] := by cases args; simp_all
  have lt0 : ∀ x ∈ p0, x.block < W.heap.size := by obtain ⟨m, hm⟩ := h0; exact DataW.trod_lt m _ _ _ hm
  obtain ⟨x0, w0⟩ := arg_of (j := 0) reads_Quota h0 hsz rfl rfl
  have lt1 : ∀ x ∈ p1, x.block < W.heap.size := by obtain ⟨m, hm⟩ := h1; exact DataW.trod_lt m _ _ _ hm
  obtain ⟨x1, w1⟩ := arg_of (j := 1) reads_Rf h1 hsz rfl rfl
  have lt2 : ∀ x ∈ p2, x.block < W.heap.size := by obtain ⟨m, hm⟩ := h2; exact DataW.trod_lt m _ _ _ hm
  obtain ⟨x2, w2⟩ := arg_of (j := 2) (reads_str T.str_9) h2 hsz rfl rfl
  have lt3 : ∀ x ∈ p3, x.block < W.heap.size := by obtain ⟨m, hm⟩ := h3; exact DataW.trod_lt m _ _ _ hm
  obtain ⟨x3, w3⟩ := arg_of (j := 3) (reads_int T.int_3_i64) h3 hsz rfl rfl
  obtain ⟨cs0, rfl⟩ := okWide_agg T.agg_23_7 (hval 0 23 v0 rfl rfl)
  obtain ⟨cs1, rfl⟩ := okWide_agg T.agg_26_4 (hval 1 26 v1 rfl rfl)
  obtain ⟨s2, rfl⟩ := okWide_string Try.underlying9 (hval 2 9 v2 rfl rfl)
  obtain ⟨n3, rfl⟩ := okWide_int Try.underlying3 (hval 3 3 v3 rfl rfl)
  obtain ⟨hc2, hr2⟩ := w2
  cases hc2
  obtain ⟨hc3, hr3⟩ := w3
  cases hc3
  refine (ListLost_law w0 w1 hr2 hr3).mono fun e W' ⟨he, hb⟩ => ?_
  have bel := hb.below
  subst he
  exact ⟨_, rfl, _, _, _, [], _, [], hW', trodAll_mk1 (shut_bool Try.underlying4 _), (trodAll_cons_mk (Below.trod T.laidOut (by kernel_rfl) (of_decide_eq_true (by kernel_rfl)) h0 bel lt0) (trodAll_cons_mk (Below.trod T.laidOut (by kernel_rfl) (of_decide_eq_true (by kernel_rfl)) h1 bel lt1) (trodAll_cons_mk (Below.trod T.laidOut (by kernel_rfl) (of_decide_eq_true (by kernel_rfl)) h2 bel lt2) (trodAll_cons_mk (Below.trod T.laidOut (by kernel_rfl) (of_decide_eq_true (by kernel_rfl)) h3 bel lt3) trodAll_mk0)))), rfl, bel.frame _, fun h => by cases h⟩
theorem ListLost_holds : Rows.ListLostSaid :=
  OpenClaim.holds_of_wide 3 Try.f3 rfl rfl rfl rfl rfl rfl rfl ⟨rfl, rfl, rfl, rfl, rfl⟩ rfl rfl rfl rfl rfl (by kernel_rfl) Try.func3 (by kernel_rfl)
    (of_decide_eq_true (by kernel_rfl)) (by unfold Func.isWrapper; rw [if_neg (of_decide_eq_false (by kernel_rfl))]; exact ⟨rfl, rfl⟩)
    (fun os started H enc _ => ListLost_lifted os started H enc)
#print axioms ListLost_holds
end Go.Proofs.Ytdiocmjhencbpaa
