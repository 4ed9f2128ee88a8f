/-
  PagesMade: pages need a quota that may be, a log, a cache and dice.
-/
import Derived.Test.YtipdklbedpkobaaM12
import Derived.Test.YtipdklbedpkobaaQ04
import Derived.Test.YtipdklbedpkobaaRows
import Derived.LaidEqlPtr
namespace Go.Proofs.Ytipdklbedpkobaa
set_option maxRecDepth 8000
set_option linter.unusedSimpArgs false
set_option linter.unusedVariables false
open Go Xe Go.Lib Go.RowKit Go.ChangeShapes Go.WideShapes Go.ChangeAt
structure Quota where
  secrets : Int
  name : Int
  value : Int
  note : Int
  versions : Int
  batch : Int
  cache : Int
instance : DecidableEq Quota := fun a b => decidable_of_iff (a.secrets = b.secrets ∧ a.name = b.name ∧ a.value = b.value ∧ a.note = b.note ∧ a.versions = b.versions ∧ a.batch = b.batch ∧ a.cache = b.cache) (by cases a; cases b; simp)
@[reducible] def Quota.cells (x : Quota) : List Value := [.int .i64 x.secrets, .int .i64 x.name, .int .i64 x.value, .int .i64 x.note, .int .i64 x.versions, .int .i64 x.batch, .int .i64 x.cache]
def Quota.ok (x : Quota) : Prop := (Lit.int .i64 x.secrets).wf = true ∧ (Lit.int .i64 x.name).wf = true ∧ (Lit.int .i64 x.value).wf = true ∧ (Lit.int .i64 x.note).wf = true ∧ (Lit.int .i64 x.versions).wf = true ∧ (Lit.int .i64 x.batch).wf = true ∧ (Lit.int .i64 x.cache).wf = true
def rdQuota : Rd Quota := fun _ cs x => cs = x.cells ∧ x.ok
theorem mono_Quota : Rd.Mono rdQuota := fun _ _ _ h => h
theorem one_Quota : Rd.One rdQuota := fun h => by rw [h.1]; simp [Value.oneCell']
theorem eq_Quota (x y : Quota) : cellsEq x.cells y.cells = some (decide (x = y)) := by
  simp only [cellsEq, cellEq, if_true, Bool.and_true, Option.some.injEq]
  by_cases h : x = y
  · subst h; simp
  · rw [decide_eq_false h]
    refine Bool.eq_false_iff.2 fun h2 => h ?_
    simp only [Bool.and_eq_true, decide_eq_true_eq, beq_iff_eq] at h2
    obtain ⟨_, _, _, _, _, _, _⟩ := x
    obtain ⟨_, _, _, _, _, _, _⟩ := y
    simp_all
theorem reads_Quota {H : Type} {enc : TypeId × Value → H} : Reads enc Try.prog 23 rdQuota := fun w fuel cs d ps h hz => by
  have hl := reads_length T.agg_23_7 (by kernel_rfl) h hz
  obtain ⟨c0, c1, c2, c3, c4, c5, c6, rfl⟩ : ∃ c0 c1 c2 c3 c4 c5 c6, cs = [c0, c1, c2, c3, c4, c5, c6] := by
    match cs, hl with
    | [c0, c1, c2, c3, c4, c5, c6], _ => exact ⟨_, _, _, _, _, _, _, rfl⟩
  obtain ⟨x0, h0⟩ := reads_field (i := 0) (off := 0) (k := 1) (ft := 3) (by kernel_rfl) h hz (reads_int T.int_3_i64)
  obtain ⟨x1, h1⟩ := reads_field (i := 1) (off := 1) (k := 1) (ft := 3) (by kernel_rfl) h hz (reads_int T.int_3_i64)
  obtain ⟨x2, h2⟩ := reads_field (i := 2) (off := 2) (k := 1) (ft := 3) (by kernel_rfl) h hz (reads_int T.int_3_i64)
  obtain ⟨x3, h3⟩ := reads_field (i := 3) (off := 3) (k := 1) (ft := 3) (by kernel_rfl) h hz (reads_int T.int_3_i64)
  obtain ⟨x4, h4⟩ := reads_field (i := 4) (off := 4) (k := 1) (ft := 3) (by kernel_rfl) h hz (reads_int T.int_3_i64)
  obtain ⟨x5, h5⟩ := reads_field (i := 5) (off := 5) (k := 1) (ft := 3) (by kernel_rfl) h hz (reads_int T.int_3_i64)
  obtain ⟨x6, h6⟩ := reads_field (i := 6) (off := 6) (k := 1) (ft := 3) (by kernel_rfl) h hz (reads_int T.int_3_i64)
  obtain ⟨e0, k0⟩ := h0
  obtain ⟨e1, k1⟩ := h1
  obtain ⟨e2, k2⟩ := h2
  obtain ⟨e3, k3⟩ := h3
  obtain ⟨e4, k4⟩ := h4
  obtain ⟨e5, k5⟩ := h5
  obtain ⟨e6, k6⟩ := h6
  simp only [List.drop_zero, List.drop_succ_cons, List.take_succ_cons, List.take_zero, List.cons.injEq, and_true] at e0 e1 e2 e3 e4 e5 e6
  obtain rfl := e0
  obtain rfl := e1
  obtain rfl := e2
  obtain rfl := e3
  obtain rfl := e4
  obtain rfl := e5
  obtain rfl := e6
  exact ⟨⟨x0, x1, x2, x3, x4, x5, x6⟩, rfl, k0, k1, k2, k3, k4, k5, k6⟩
theorem v_eqlSame {P : Program} {F : Fr} {S : World → Prop} {d : Option Nat} {t t' ty : TypeId} {x y : Operand} {pos : String} {af : Array Edge} {gd : Option (Nat × Bool)} {p : Addr} (ht : ptrB P t = true) (hi : (P.info? (P.pointee t)).isSome = true) (hx : opd F x = some (.pointer (some p))) (hy : opd F y = some (.pointer (some p))) :
    OpV P F S ⟨d, .binOp .eql t x y t', ty, pos, af, gd⟩ (.bool true) := fun ρ w hρ _ => by
  obtain ⟨j, hj⟩ := Option.isSome_iff_exists.1 hi
  simp [execOp, hρ x _ hx, hρ y _ hy, eqGuard, run_eql_ptr_same (P := P) w p (ptrB_spec ht) hj]
theorem i36 : (Try.prog.info? (Try.prog.pointee 36)).isSome = true := by rfl
theorem i30 : (Try.prog.info? (Try.prog.pointee 30)).isSome = true := by rfl
theorem i33 : (Try.prog.info? (Try.prog.pointee 33)).isSome = true := by rfl
theorem qt_of {w : World} {cs : Array Value} {x : Quota} (hr : rdArg rdQuota w (.agg cs) x) : ∃ q : Qt, cs = q.cells.toArray :=
  ⟨⟨x.secrets, x.name, x.value, x.note, x.versions, x.batch, x.cache⟩, by apply Array.ext'; exact hr.1⟩
theorem right_iff (q : Qt) : (q.right ≠ 0) ↔ ¬ q.ok := by unfold Qt.right; split <;> simp_all
theorem canew_calls {E : Env} {w : World} {L : List As} (hw : Sat E w L) :
    Calls Try.prog 11 #[.int .i64 1] w fun e w' => ∃ c, e = .returned (.tuple #[.pointer (some ⟨c, 0, none⟩), .int .i64 0]) ∧ Sat E w' L := by
  refine calls_of_g (n := 13) Try.func11 rfl rfl rfl ?_
  change G _ _ _ _ _ [(0, _)] _
  refine g_seq ?_
  refine g_region ?_
  refine xV rfl rfl rfl (v_assign rfl) ?_
  refine xV rfl rfl rfl (v_assign rfl) ?_
  refine rl_nil (g_le (xK (xK (Fr.le_refl _))) ?_)
  refine g_seq (g_seq ?_)
  refine g_region ?_
  refine xV rfl rfl rfl (v_move rfl) ?_
  refine xV rfl rfl rfl (v_lssF rfl rfl (by omega)) ?_
  refine xV rfl rfl rfl (v_move rfl) ?_
  refine rl_split (s := 6) rfl (fun g1_2 => ?_) (fun g1_2 => ?_)
  · try with_reducible exact ft_elim g1_2
    all_goals
      try replace g1_2 := of_decide_eq_true g1_2
      try (exfalso; omega)
      all_goals
        refine rl_off (met_off rfl rfl rfl rfl rfl) rfl rfl ?_
        refine rl_off (met_off rfl rfl rfl rfl rfl) rfl rfl ?_
        first | (refine xV rfl rfl rfl (v_pick_true rfl rfl) ?_) | (refine xV rfl rfl rfl (v_pick_false rfl rfl) ?_) | (refine xV rfl rfl rfl (v_pick rfl rfl rfl) ?_)
        refine rl_nil (g_le (xK (xS rfl (xS rfl (xS rfl (xS rfl (xS rfl (xS rfl (Fr.le_refl _)))))))) ?_)
        refine g_cond_true rfl ?_
        refine g_seq ?_
        refine g_region ?_
        refine xV rfl rfl rfl (v_assign rfl) ?_
        refine xV rfl rfl rfl (v_assign rfl) ?_
        refine rl_nil (g_le (xK (xK (Fr.le_refl _))) ?_)
        refine g_ret2 Try.func11 rfl rfl rfl ?_
        exact ⟨rfl, hw⟩
  · try with_reducible exact tf_elim g1_2
    all_goals
      try replace g1_2 := of_decide_eq_false g1_2
      try (exfalso; omega)
      all_goals
        refine rl_vg (met_on rfl rfl rfl rfl) rfl rfl (S := fun _ => True) trivial (v_move rfl) ?_
        refine rl_vg (met_on rfl rfl rfl rfl) rfl rfl (S := fun _ => True) trivial (v_gtrF rfl rfl (by omega)) ?_
        refine xV rfl rfl rfl (v_pick_false rfl rfl) ?_
        refine rl_nil (g_le (xK (xS rfl (xS rfl (xS rfl (xS rfl (xS rfl (xS rfl (Fr.le_refl _)))))))) ?_)
        refine g_cond rfl (fun h1 => ?_) (fun h1 => ?_)
        · try with_reducible exact ft_elim h1
          all_goals
            try replace h1 := of_decide_eq_true h1
            try (exfalso; omega)
            all_goals
              refine g_seq ?_
              refine g_region ?_
              refine xV rfl rfl rfl (v_assign rfl) ?_
              refine xV rfl rfl rfl (v_assign rfl) ?_
              refine rl_nil (g_le (xK (xK (Fr.le_refl _))) ?_)
              refine g_ret2 Try.func11 rfl rfl rfl ?_
              exact ⟨rfl, hw⟩
        · try with_reducible exact tf_elim h1
          all_goals
            try replace h1 := of_decide_eq_false h1
            try (exfalso; omega)
            all_goals
              refine g_skip (g_seq ?_)
              refine g_region ?_
              refine xV rfl rfl rfl (v_move rfl) ?_
              refine xV rfl rfl rfl (v_build rfl (T.build_97_0 ..)) ?_
              refine rl_k rfl (k_box hw rfl rfl rfl (fun bk3_2 w hw => ?_))
              refine xV rfl rfl rfl (v_assign rfl) ?_
              refine xV rfl rfl rfl (v_assign rfl) ?_
              refine rl_nil (g_le (xK (xK (xS rfl (xS rfl (xS rfl (Fr.le_refl _)))))) ?_)
              refine g_ret2 Try.func11 rfl rfl rfl ?_
              exact ⟨_, rfl, hw.xQ⟩
theorem clone64_calls {E : Env} {w : World} {L : List As} (hw : Sat E w L) :
    Calls Try.prog 38 #[.slice none 0 0] w fun e w' => e = .returned (.slice none 0 0) ∧ Sat E w' L := by
  refine calls_of_g (n := 8) Try.func38 rfl rfl rfl ?_
  change G _ _ _ _ _ [(0, _)] _
  refine g_seq ?_
  refine g_region ?_
  refine xV rfl rfl rfl (v_assign rfl) ?_
  refine rl_nil (g_le (xK (Fr.le_refl _)) ?_)
  refine g_seq (g_seq ?_)
  refine g_region ?_
  refine xV rfl rfl rfl (v_move rfl) ?_
  refine xV rfl rfl rfl (v_eqlSlNil T.sl_98_100_1 rfl rfl) ?_
  refine rl_nil (g_le (xK (xS rfl (Fr.le_refl _))) ?_)
  refine g_cond_true rfl ?_
  refine g_seq ?_
  refine g_region ?_
  refine xV rfl rfl rfl (v_assign rfl) ?_
  refine rl_nil (g_le (xK (Fr.le_refl _)) ?_)
  refine g_ret1 Try.func38 rfl rfl ?_
  exact ⟨rfl, hw.xQ⟩
theorem dnew_calls {E : Env} {w : World} {L : List As} (hw : Sat E w L) :
    Calls Try.prog 12 #[.slice none 0 0] w fun e w' => ∃ d, e = .returned (.tuple #[.pointer (some ⟨d, 0, none⟩), .int .i64 0]) ∧ Sat E w' (pt d (.cells [Value.slice none 0 0, .int .i64 0].toArray 102 (0, 0)) :: L) := by
  refine calls_of_g (n := 11) Try.func12 rfl rfl rfl ?_
  change G _ _ _ _ _ [(0, _)] _
  refine g_seq ?_
  refine g_region ?_
  refine xV rfl rfl rfl (v_assign rfl) ?_
  refine xV rfl rfl rfl (v_assign rfl) ?_
  refine rl_nil (g_le (xK (xK (Fr.le_refl _))) ?_)
  refine g_seq (g_seq ?_)
  refine g_region ?_
  refine xV rfl rfl rfl (v_move rfl) ?_
  refine xV rfl rfl rfl (v_lenSlice T.sl_98_100_1 rfl) ?_
  refine xV rfl rfl rfl (v_gtrF rfl rfl (by omega)) ?_
  refine rl_nil (g_le (xK (xS rfl (xS rfl (Fr.le_refl _)))) ?_)
  refine g_cond rfl (fun h1 => ?_) (fun h1 => ?_)
  · try with_reducible exact ft_elim h1
    all_goals
      try replace h1 := of_decide_eq_true h1
      try (exfalso; omega)
      all_goals
        refine g_seq ?_
        refine g_region ?_
        refine xV rfl rfl rfl (v_assign rfl) ?_
        refine xV rfl rfl rfl (v_assign rfl) ?_
        refine rl_nil (g_le (xK (xK (Fr.le_refl _))) ?_)
        refine g_ret2 Try.func12 rfl rfl rfl ?_
        exact ⟨rfl, hw⟩
  · try with_reducible exact tf_elim h1
    all_goals
      try replace h1 := of_decide_eq_false h1
      try (exfalso; omega)
      all_goals
        refine g_skip (g_seq ?_)
        refine g_region ?_
        refine xV rfl rfl rfl (v_move rfl) ?_
        refine rl_k rfl (k_callf Try.func38 rfl rfl rfl rfl ?_)
        refine Calls.mono (clone64_calls hw) ?_
        rintro _ w ⟨rfl, hw⟩
        refine ⟨_, rfl, ?_⟩
        refine xV rfl rfl rfl (v_build rfl (T.build_102_0 ..)) ?_
        refine rl_k rfl (k_box hw rfl rfl rfl (fun bk3_3 w hw => ?_))
        refine xV rfl rfl rfl (v_assign rfl) ?_
        refine xV rfl rfl rfl (v_assign rfl) ?_
        refine rl_nil (g_le (xK (xK (xS rfl (xS rfl (xS rfl (xS rfl (Fr.le_refl _))))))) ?_)
        refine g_ret2 Try.func12 rfl rfl rfl ?_
        exact ⟨_, rfl, hw.xQ⟩
theorem snew_calls {E : Env} {w : World} {L : List As} (m p : Nat) (s : Md) (hw : Sat E w (MdAt m p s :: L)) :
    Calls Try.prog 13 #[.pointer (some ⟨m, 0, none⟩)] w fun e w' => ∃ l v, e = .returned (.pointer (some ⟨l, 0, none⟩)) ∧ Sat E w' (pt l (.cells [Value.pointer (some ⟨m, 0, none⟩), .int .i64 0, v].toArray 47 (0, 0)) :: MdAt m p s :: L) := by
  have hok : s.ok := (md_open hw).1
  obtain ⟨hok1, hok2, _⟩ := hok
  refine calls_of_g (n := 36) Try.func13 rfl rfl rfl ?_
  change G _ _ _ _ _ [(0, _)] _
  refine g_seq ?_
  refine g_region ?_
  refine xV rfl rfl rfl (v_assign rfl) ?_
  refine rl_nil (g_le (xK (Fr.le_refl _)) ?_)
  refine g_seq (g_seq ?_)
  refine g_region ?_
  refine xV rfl rfl rfl (v_move rfl) ?_
  refine xV rfl rfl rfl (v_eqlNil T.ptr_24 rfl rfl) ?_
  refine rl_nil (g_le (xK (xS rfl (Fr.le_refl _))) ?_)
  refine g_cond_false rfl ?_
  refine g_skip (g_seq ?_)
  refine g_region ?_
  refine xV rfl rfl rfl (v_move rfl) ?_
  refine xV rfl rfl rfl (v_move rfl) ?_
  refine rl_k rfl (k_callf Try.func16 rfl rfl rfl rfl ?_)
  refine Calls.mono (msegments_calls m p s hw) ?_
  rintro _ w ⟨rfl, hw⟩
  refine ⟨_, rfl, ?_⟩
  refine rl_k rfl (k_makeSlice hw T.sl_45_104_3 T.zero_104 T.bytes_104_24 rfl rfl (by omega) (by omega) (by omega) (by omega) rfl (fun bk3_3 w hw => ?_))
  refine xV rfl rfl rfl (v_build rfl (T.build_47_0_2 ..)) ?_
  refine rl_k rfl (k_box hw rfl rfl rfl (fun bk3_5 w hw => ?_))
  refine xV rfl rfl rfl (v_assign rfl) ?_
  refine rl_nil (g_le (xK (xS rfl (xS rfl (xS rfl (xS rfl (xS rfl (xS rfl (Fr.le_refl _)))))))) ?_)
  refine g_seq (g_seq ?_)
  rw [Int.toNat_natCast] at hw
  refine g_region ?_
  refine xV rfl rfl rfl (v_move rfl) ?_
  refine xV rfl rfl rfl (v_nilCheck rfl) ?_
  refine xV rfl rfl rfl (v_fieldAddr0 T.fld_47_2_2 rfl) ?_
  refine rl_v rfl rfl rfl (by exact sat_cell hw (by (repeat first | with_reducible exact xH | apply xT); first | done | fail) rfl) (v_load T.scal_45 rfl) ?_
  refine xV rfl rfl rfl (v_lenSlice T.sl_45_104_3 rfl) ?_
  refine xV rfl rfl rfl (v_move rfl) ?_
  refine rl_nil (g_le (xK (xK (xS rfl (xS rfl (xS rfl (xS rfl (Fr.le_refl _))))))) ?_)
  refine g_block ?_
  refine g_loopC (σ := Nat × List Value) (fun C x => (18, .int .i64 (x.1 : Nat)) :: C) [(2, _), (3, _), (17, _)] (by repeat (first | exact Fr.le_nil _ | refine Fr.le_cons rfl ?_)) (fun z w => z.1 ≤ s.segs.length ∧ z.2.length = s.segs.length * 3 ∧ Sat E w (OwnSl 104 3 (.slice (some ⟨bk3_3, 0, none⟩) s.segs.length s.segs.length) s.segs.length z.2 :: pt bk3_5 (.cells [Value.pointer (some ⟨m, 0, none⟩), .int .i64 0, .slice (some ⟨bk3_3, 0, none⟩) s.segs.length s.segs.length].toArray 47 (0, 0)) :: MdAt m p s :: L)) (fun z => s.segs.length - z.1) ?_ (0, _) (by repeat (first | exact Fr.le_nil _ | refine Fr.le_cons rfl ?_)) ⟨by simp, (hw.pick .at1).own_len, hw.xQ⟩
  rintro ⟨k, cs⟩ w ⟨hk, hcl, hw⟩ ih
  dsimp only at hk hcl hw ih ⊢
  refine g_seq ?_
  refine g_region ?_
  refine xV rfl rfl rfl (v_lss rfl rfl) ?_
  refine rl_nil (g_le (xK (Fr.le_refl _)) ?_)
  refine g_seq ?_
  refine g_cond rfl (fun h2 => ?_) (fun h2 => ?_)
  · try with_reducible exact ft_elim h2
    all_goals
      try replace h2 := of_decide_eq_true h2
      try (exfalso; omega)
      all_goals
        refine g_skip (g_seq (g_block (g_seq ?_)))
        refine g_region ?_
        refine xV rfl rfl rfl (v_move rfl) ?_
        refine xV rfl rfl rfl (v_assign rfl) ?_
        refine rl_nil (g_le (xK (xK (Fr.le_refl _))) ?_)
        have hst : 0 + (k : Int).toNat * 3 + 0 < cs.length := by omega
        refine g_region ?_
        refine xV rfl rfl rfl (v_move rfl) ?_
        refine xV rfl rfl rfl (v_nilCheck rfl) ?_
        refine xV rfl rfl rfl (v_fieldAddr0 T.fld_47_2_2 rfl) ?_
        refine rl_v rfl rfl rfl (by exact sat_cell hw (by (repeat first | with_reducible exact xH | apply xT); first | done | fail) rfl) (v_load T.scal_45 rfl) ?_
        refine xV rfl rfl rfl (v_move rfl) ?_
        refine xV rfl rfl rfl (v_indexAddr T.sl_45_104_3 rfl rfl (by omega) (by omega)) ?_
        refine xV rfl rfl rfl (v_fieldAddr T.fld_104_0_0 rfl) ?_
        refine rl_k rfl (k_storeOwn hw T.scal_3 rfl rfl rfl (by (repeat first | with_reducible exact xH | apply xT); first | done | fail) (by assumption) (fun w hw => ?_))
        refine rl_nil (g_le (xK (xK (xK (xK (xK (xK (xK (Fr.le_refl _)))))))) ?_)
        refine g_inBlock ?_
        refine g_region ?_
        refine xV rfl rfl rfl (v_add rfl rfl (by omega)) ?_
        refine xV rfl rfl rfl (v_move rfl) ?_
        refine rl_nil (g_le (xK (xK (Fr.le_refl _))) ?_)
        exact g_le (by repeat (first | exact Fr.le_nil _ | refine Fr.le_cons rfl ?_)) (ih (k + 1, cs.set (0 + (k : Int).toNat * 3 + 0) (Value.int IntKind.i64 1)) w ⟨by simp only; omega, by simp only [List.length_set]; omega, hw.xQ⟩ (by simp only; omega))
  · try with_reducible exact tf_elim h2
    all_goals
      try replace h2 := of_decide_eq_false h2
      try (exfalso; omega)
      all_goals
        refine g_exit rfl (g_seq ?_)
        have hst : 0 + (0 : Int).toNat * 3 + 0 < cs.length := by have : (0 : Int).toNat = 0 := rfl; omega
        refine g_region ?_
        refine xV rfl rfl rfl (v_move rfl) ?_
        refine xV rfl rfl rfl (v_nilCheck rfl) ?_
        refine xV rfl rfl rfl (v_fieldAddr0 T.fld_47_2_2 rfl) ?_
        refine rl_v rfl rfl rfl (by exact sat_cell hw (by (repeat first | with_reducible exact xH | apply xT); first | done | fail) rfl) (v_load T.scal_45 rfl) ?_
        refine xV rfl rfl rfl (v_indexAddr T.sl_45_104_3 rfl rfl (by omega) (by omega)) ?_
        refine xV rfl rfl rfl (v_fieldAddr0 T.fld_104_0_0 rfl) ?_
        refine rl_k rfl (k_storeOwn hw T.scal_3 rfl rfl rfl (by (repeat first | with_reducible exact xH | apply xT); first | done | fail) (by assumption) (fun w hw => ?_))
        refine rl_nil (g_le (xS rfl (xS rfl (xS rfl (xS rfl (xS rfl (xS rfl (Fr.le_refl _))))))) ?_)
        refine g_seq ?_
        refine g_region ?_
        refine xV rfl rfl rfl (v_move rfl) ?_
        refine xV rfl rfl rfl (v_assign rfl) ?_
        refine rl_nil (g_le (xK (xS rfl (Fr.le_refl _))) ?_)
        refine g_ret1 Try.func13 rfl rfl ?_
        exact ⟨_, _, rfl, hw.xQ⟩
@[reducible] def PgsAt (pp l c d : Nat) (q : Qt) : As := pt pp (.cells [Value.pointer (some ⟨l, 0, none⟩), .pointer (some ⟨c, 0, none⟩), .pointer (some ⟨d, 0, none⟩), .int .i64 q.s, .int .i64 q.nm, .int .i64 q.va, .int .i64 q.no, .int .i64 q.ve, .int .i64 q.ba, .int .i64 q.ca].toArray 43 (0, 0))
theorem pnewBad_calls {E : Env} {w : World} {L : List As} (q : Qt) (hq : ¬ q.ok) (l c d : Value) (hw : Sat E w L) :
    Calls Try.prog 14 #[q.v, l, c, d] w fun e w' => e = .returned (.tuple #[.pointer none, .int .i64 40]) ∧ Sat E w' L := by
  have hrq := right_iff q
  refine calls_of_g (n := 29) Try.func14 rfl rfl rfl ?_
  change G _ _ _ _ _ [(0, _), (1, _), (2, _), (3, _)] _
  refine g_seq ?_
  refine g_region ?_
  refine rl_k rfl (k_box hw rfl rfl rfl (fun bk0_0 w hw => ?_))
  refine xV rfl rfl rfl (v_assign rfl) ?_
  refine xV rfl rfl rfl (v_assign rfl) ?_
  refine rl_nil (g_le (xK (xK (xK (Fr.le_refl _)))) ?_)
  refine g_seq (g_seq ?_)
  refine g_region ?_
  refine rl_v rfl rfl rfl (by exact sat_cells hw (by (repeat first | with_reducible exact xH | apply xT); first | done | fail) ⟨rfl, rfl, rfl, rfl, rfl, rfl, rfl, trivial⟩) (v_loadAgg (vs := [_, _, _, _, _, _, _]) T.agg_23_7 rfl rfl) ?_
  refine rl_k rfl (k_callf Try.func39 rfl rfl rfl rfl ?_)
  refine Calls.mono (right_calls q (hw.xQ)) ?_
  rintro _ w ⟨rfl, hw⟩
  refine ⟨_, rfl, ?_⟩
  refine xV rfl rfl rfl (v_neq rfl rfl) ?_
  refine rl_nil (g_le (xK (xS rfl (xS rfl (Fr.le_refl _)))) ?_)
  refine g_cond rfl (fun h1 => ?_) (fun h1 => ?_)
  · try with_reducible exact ft_elim h1
    all_goals
      try replace h1 := of_decide_eq_true h1
      try (exfalso; omega)
      all_goals
        refine g_seq ?_
        refine g_region ?_
        refine xV rfl rfl rfl (v_assign rfl) ?_
        refine xV rfl rfl rfl (v_assign rfl) ?_
        refine rl_nil (g_le (xK (xK (Fr.le_refl _))) ?_)
        refine g_ret2 Try.func14 rfl rfl rfl ?_
        exact ⟨rfl, hw.xQ⟩
  · try with_reducible exact tf_elim h1
    all_goals
      try replace h1 := of_decide_eq_false h1
      exact absurd (hrq.2 hq) h1
theorem pnewL_calls {E : Env} {w : World} {L : List As} (q : Qt) (hq : q.ok) (c d : Option Addr) (hw : Sat E w L) :
    Calls Try.prog 14 #[q.v, .pointer none, .pointer c, .pointer d] w fun e w' => e = .returned (.tuple #[.pointer none, .int .i64 1]) ∧ Sat E w' L := by
  have hrq := right_iff q
  refine calls_of_g (n := 29) Try.func14 rfl rfl rfl ?_
  change G _ _ _ _ _ [(0, _), (1, _), (2, _), (3, _)] _
  refine g_seq ?_
  refine g_region ?_
  refine rl_k rfl (k_box hw rfl rfl rfl (fun bk0_0 w hw => ?_))
  refine xV rfl rfl rfl (v_assign rfl) ?_
  refine xV rfl rfl rfl (v_assign rfl) ?_
  refine rl_nil (g_le (xK (xK (xK (Fr.le_refl _)))) ?_)
  refine g_seq (g_seq ?_)
  refine g_region ?_
  refine rl_v rfl rfl rfl (by exact sat_cells hw (by (repeat first | with_reducible exact xH | apply xT); first | done | fail) ⟨rfl, rfl, rfl, rfl, rfl, rfl, rfl, trivial⟩) (v_loadAgg (vs := [_, _, _, _, _, _, _]) T.agg_23_7 rfl rfl) ?_
  refine rl_k rfl (k_callf Try.func39 rfl rfl rfl rfl ?_)
  refine Calls.mono (right_calls q (hw.xQ)) ?_
  rintro _ w ⟨rfl, hw⟩
  refine ⟨_, rfl, ?_⟩
  refine xV rfl rfl rfl (v_neq rfl rfl) ?_
  refine rl_nil (g_le (xK (xS rfl (xS rfl (Fr.le_refl _)))) ?_)
  refine g_cond rfl (fun h1 => ?_) (fun h1 => ?_)
  · try with_reducible exact ft_elim h1
    all_goals
      try replace h1 := of_decide_eq_true h1
      exact absurd hq (hrq.1 h1)
  · try with_reducible exact tf_elim h1
    all_goals
      try replace h1 := of_decide_eq_false h1
      try (exfalso; omega)
      all_goals
        refine g_skip (g_seq (g_seq ?_))
        refine g_region ?_
        refine xV rfl rfl rfl (v_move rfl) ?_
        refine xV rfl rfl rfl (v_eqlNil T.ptr_36 rfl rfl) ?_
        refine xV rfl rfl rfl (v_move rfl) ?_
        refine rl_split (s := 15) rfl (fun g3_2 => ?_) (fun g3_2 => ?_)
        · try with_reducible exact ft_elim g3_2
          all_goals
            try replace g3_2 := of_decide_eq_true g3_2
            try (exfalso; omega)
            all_goals
              refine rl_off (met_off rfl rfl rfl rfl rfl) rfl rfl ?_
              refine rl_off (met_off rfl rfl rfl rfl rfl) rfl rfl ?_
              refine xV rfl rfl rfl (v_pick_true rfl rfl) ?_
              refine xV rfl rfl rfl (v_move rfl) ?_
              refine rl_off (met_off rfl rfl rfl rfl rfl) rfl rfl ?_
              refine rl_off (met_off rfl rfl rfl rfl rfl) rfl rfl ?_
              refine xV rfl rfl rfl (v_pick_true rfl rfl) ?_
              refine rl_nil (g_le (xK (xS rfl (xS rfl (xS rfl (xS rfl (xS rfl (xS rfl (xS rfl (xS rfl (xS rfl (xS rfl (Fr.le_refl _)))))))))))) ?_)
              refine g_cond_true rfl ?_
              refine g_seq ?_
              refine g_region ?_
              refine xV rfl rfl rfl (v_assign rfl) ?_
              refine xV rfl rfl rfl (v_assign rfl) ?_
              refine rl_nil (g_le (xK (xK (Fr.le_refl _))) ?_)
              refine g_ret2 Try.func14 rfl rfl rfl ?_
              exact ⟨rfl, hw.xQ⟩
        · try with_reducible exact tf_elim g3_2
          all_goals
            try replace g3_2 := of_decide_eq_false g3_2
            simp at g3_2
theorem pnewC_calls {E : Env} {w : World} {L : List As} (q : Qt) (hq : q.ok) (l : Nat) (d : Option Addr) (hw : Sat E w L) :
    Calls Try.prog 14 #[q.v, .pointer (some ⟨l, 0, none⟩), .pointer none, .pointer d] w fun e w' => e = .returned (.tuple #[.pointer none, .int .i64 1]) ∧ Sat E w' L := by
  have hrq := right_iff q
  refine calls_of_g (n := 29) Try.func14 rfl rfl rfl ?_
  change G _ _ _ _ _ [(0, _), (1, _), (2, _), (3, _)] _
  refine g_seq ?_
  refine g_region ?_
  refine rl_k rfl (k_box hw rfl rfl rfl (fun bk0_0 w hw => ?_))
  refine xV rfl rfl rfl (v_assign rfl) ?_
  refine xV rfl rfl rfl (v_assign rfl) ?_
  refine rl_nil (g_le (xK (xK (xK (Fr.le_refl _)))) ?_)
  refine g_seq (g_seq ?_)
  refine g_region ?_
  refine rl_v rfl rfl rfl (by exact sat_cells hw (by (repeat first | with_reducible exact xH | apply xT); first | done | fail) ⟨rfl, rfl, rfl, rfl, rfl, rfl, rfl, trivial⟩) (v_loadAgg (vs := [_, _, _, _, _, _, _]) T.agg_23_7 rfl rfl) ?_
  refine rl_k rfl (k_callf Try.func39 rfl rfl rfl rfl ?_)
  refine Calls.mono (right_calls q (hw.xQ)) ?_
  rintro _ w ⟨rfl, hw⟩
  refine ⟨_, rfl, ?_⟩
  refine xV rfl rfl rfl (v_neq rfl rfl) ?_
  refine rl_nil (g_le (xK (xS rfl (xS rfl (Fr.le_refl _)))) ?_)
  refine g_cond rfl (fun h1 => ?_) (fun h1 => ?_)
  · try with_reducible exact ft_elim h1
    all_goals
      try replace h1 := of_decide_eq_true h1
      exact absurd hq (hrq.1 h1)
  · try with_reducible exact tf_elim h1
    all_goals
      try replace h1 := of_decide_eq_false h1
      try (exfalso; omega)
      all_goals
        refine g_skip (g_seq (g_seq ?_))
        refine g_region ?_
        refine xV rfl rfl rfl (v_move rfl) ?_
        refine xV rfl rfl rfl (v_eqlNil T.ptr_36 rfl rfl) ?_
        refine xV rfl rfl rfl (v_move rfl) ?_
        refine rl_split (s := 15) rfl (fun g3_2 => ?_) (fun g3_2 => ?_)
        · try with_reducible exact ft_elim g3_2
          all_goals
            try replace g3_2 := of_decide_eq_true g3_2
            simp at g3_2
        · try with_reducible exact tf_elim g3_2
          all_goals
            try replace g3_2 := of_decide_eq_false g3_2
            try (exfalso; omega)
            all_goals
              refine rl_vg (met_on rfl rfl rfl rfl) rfl rfl (S := fun _ => True) trivial (v_move rfl) ?_
              refine rl_vg (met_on rfl rfl rfl rfl) rfl rfl (S := fun _ => True) trivial (v_eqlNil T.ptr_30 rfl rfl) ?_
              refine xV rfl rfl rfl (v_pick_false rfl rfl) ?_
              refine xV rfl rfl rfl (v_move rfl) ?_
              refine rl_split (s := 19) rfl (fun g3_6 => ?_) (fun g3_6 => ?_)
              · try with_reducible exact ft_elim g3_6
                all_goals
                  try replace g3_6 := of_decide_eq_true g3_6
                  try (exfalso; omega)
                  all_goals
                    refine rl_off (met_off rfl rfl rfl rfl rfl) rfl rfl ?_
                    refine rl_off (met_off rfl rfl rfl rfl rfl) rfl rfl ?_
                    refine xV rfl rfl rfl (v_pick_true rfl rfl) ?_
                    refine rl_nil (g_le (xK (xS rfl (xS rfl (xS rfl (xS rfl (xS rfl (xS rfl (xS rfl (xS rfl (xS rfl (xS rfl (xS rfl (Fr.le_refl _))))))))))))) ?_)
                    refine g_cond_true rfl ?_
                    refine g_seq ?_
                    refine g_region ?_
                    refine xV rfl rfl rfl (v_assign rfl) ?_
                    refine xV rfl rfl rfl (v_assign rfl) ?_
                    refine rl_nil (g_le (xK (xK (Fr.le_refl _))) ?_)
                    refine g_ret2 Try.func14 rfl rfl rfl ?_
                    exact ⟨rfl, hw.xQ⟩
              · try with_reducible exact tf_elim g3_6
                all_goals
                  try replace g3_6 := of_decide_eq_false g3_6
                  simp at g3_6
theorem pnewD_calls {E : Env} {w : World} {L : List As} (q : Qt) (hq : q.ok) (l c : Nat) (hw : Sat E w L) :
    Calls Try.prog 14 #[q.v, .pointer (some ⟨l, 0, none⟩), .pointer (some ⟨c, 0, none⟩), .pointer none] w fun e w' => e = .returned (.tuple #[.pointer none, .int .i64 1]) ∧ Sat E w' L := by
  have hrq := right_iff q
  refine calls_of_g (n := 29) Try.func14 rfl rfl rfl ?_
  change G _ _ _ _ _ [(0, _), (1, _), (2, _), (3, _)] _
  refine g_seq ?_
  refine g_region ?_
  refine rl_k rfl (k_box hw rfl rfl rfl (fun bk0_0 w hw => ?_))
  refine xV rfl rfl rfl (v_assign rfl) ?_
  refine xV rfl rfl rfl (v_assign rfl) ?_
  refine rl_nil (g_le (xK (xK (xK (Fr.le_refl _)))) ?_)
  refine g_seq (g_seq ?_)
  refine g_region ?_
  refine rl_v rfl rfl rfl (by exact sat_cells hw (by (repeat first | with_reducible exact xH | apply xT); first | done | fail) ⟨rfl, rfl, rfl, rfl, rfl, rfl, rfl, trivial⟩) (v_loadAgg (vs := [_, _, _, _, _, _, _]) T.agg_23_7 rfl rfl) ?_
  refine rl_k rfl (k_callf Try.func39 rfl rfl rfl rfl ?_)
  refine Calls.mono (right_calls q (hw.xQ)) ?_
  rintro _ w ⟨rfl, hw⟩
  refine ⟨_, rfl, ?_⟩
  refine xV rfl rfl rfl (v_neq rfl rfl) ?_
  refine rl_nil (g_le (xK (xS rfl (xS rfl (Fr.le_refl _)))) ?_)
  refine g_cond rfl (fun h1 => ?_) (fun h1 => ?_)
  · try with_reducible exact ft_elim h1
    all_goals
      try replace h1 := of_decide_eq_true h1
      exact absurd hq (hrq.1 h1)
  · try with_reducible exact tf_elim h1
    all_goals
      try replace h1 := of_decide_eq_false h1
      try (exfalso; omega)
      all_goals
        refine g_skip (g_seq (g_seq ?_))
        refine g_region ?_
        refine xV rfl rfl rfl (v_move rfl) ?_
        refine xV rfl rfl rfl (v_eqlNil T.ptr_36 rfl rfl) ?_
        refine xV rfl rfl rfl (v_move rfl) ?_
        refine rl_split (s := 15) rfl (fun g3_2 => ?_) (fun g3_2 => ?_)
        · try with_reducible exact ft_elim g3_2
          all_goals
            try replace g3_2 := of_decide_eq_true g3_2
            simp at g3_2
        · try with_reducible exact tf_elim g3_2
          all_goals
            try replace g3_2 := of_decide_eq_false g3_2
            try (exfalso; omega)
            all_goals
              refine rl_vg (met_on rfl rfl rfl rfl) rfl rfl (S := fun _ => True) trivial (v_move rfl) ?_
              refine rl_vg (met_on rfl rfl rfl rfl) rfl rfl (S := fun _ => True) trivial (v_eqlNil T.ptr_30 rfl rfl) ?_
              refine xV rfl rfl rfl (v_pick_false rfl rfl) ?_
              refine xV rfl rfl rfl (v_move rfl) ?_
              refine rl_split (s := 19) rfl (fun g3_6 => ?_) (fun g3_6 => ?_)
              · try with_reducible exact ft_elim g3_6
                all_goals
                  try replace g3_6 := of_decide_eq_true g3_6
                  simp at g3_6
              · try with_reducible exact tf_elim g3_6
                all_goals
                  try replace g3_6 := of_decide_eq_false g3_6
                  try (exfalso; omega)
                  all_goals
                    refine rl_vg (met_on rfl rfl rfl rfl) rfl rfl (S := fun _ => True) trivial (v_move rfl) ?_
                    refine rl_vg (met_on rfl rfl rfl rfl) rfl rfl (S := fun _ => True) trivial (v_eqlNil T.ptr_33 rfl rfl) ?_
                    refine xV rfl rfl rfl (v_pick_false rfl rfl) ?_
                    refine rl_nil (g_le (xK (xS rfl (xS rfl (xS rfl (xS rfl (xS rfl (xS rfl (xS rfl (xS rfl (xS rfl (xS rfl (xS rfl (Fr.le_refl _))))))))))))) ?_)
                    refine g_cond rfl (fun h2 => ?_) (fun h2 => ?_)
                    · try with_reducible exact ft_elim h2
                      all_goals
                        try replace h2 := of_decide_eq_true h2
                        try (exfalso; omega)
                        all_goals
                          refine g_seq ?_
                          refine g_region ?_
                          refine xV rfl rfl rfl (v_assign rfl) ?_
                          refine xV rfl rfl rfl (v_assign rfl) ?_
                          refine rl_nil (g_le (xK (xK (Fr.le_refl _))) ?_)
                          refine g_ret2 Try.func14 rfl rfl rfl ?_
                          exact ⟨rfl, hw.xQ⟩
                    · try with_reducible exact tf_elim h2
                      all_goals
                        try replace h2 := of_decide_eq_false h2
                        simp at h2
theorem pnew_calls {E : Env} {w : World} {L : List As} (q : Qt) (hq : q.ok) (l c d : Nat) (hw : Sat E w L) :
    Calls Try.prog 14 #[q.v, .pointer (some ⟨l, 0, none⟩), .pointer (some ⟨c, 0, none⟩), .pointer (some ⟨d, 0, none⟩)] w fun e w' => ∃ pp, e = .returned (.tuple #[.pointer (some ⟨pp, 0, none⟩), .int .i64 0]) ∧ Sat E w' (PgsAt pp l c d q :: L) := by
  have hrq := right_iff q
  refine calls_of_g (n := 29) Try.func14 rfl rfl rfl ?_
  change G _ _ _ _ _ [(0, _), (1, _), (2, _), (3, _)] _
  refine g_seq ?_
  refine g_region ?_
  refine rl_k rfl (k_box hw rfl rfl rfl (fun bk0_0 w hw => ?_))
  refine xV rfl rfl rfl (v_assign rfl) ?_
  refine xV rfl rfl rfl (v_assign rfl) ?_
  refine rl_nil (g_le (xK (xK (xK (Fr.le_refl _)))) ?_)
  refine g_seq (g_seq ?_)
  refine g_region ?_
  refine rl_v rfl rfl rfl (by exact sat_cells hw (by (repeat first | with_reducible exact xH | apply xT); first | done | fail) ⟨rfl, rfl, rfl, rfl, rfl, rfl, rfl, trivial⟩) (v_loadAgg (vs := [_, _, _, _, _, _, _]) T.agg_23_7 rfl rfl) ?_
  refine rl_k rfl (k_callf Try.func39 rfl rfl rfl rfl ?_)
  refine Calls.mono (right_calls q (hw.xQ)) ?_
  rintro _ w ⟨rfl, hw⟩
  refine ⟨_, rfl, ?_⟩
  refine xV rfl rfl rfl (v_neq rfl rfl) ?_
  refine rl_nil (g_le (xK (xS rfl (xS rfl (Fr.le_refl _)))) ?_)
  refine g_cond rfl (fun h1 => ?_) (fun h1 => ?_)
  · try with_reducible exact ft_elim h1
    all_goals
      try replace h1 := of_decide_eq_true h1
      exact absurd hq (hrq.1 h1)
  · try with_reducible exact tf_elim h1
    all_goals
      try replace h1 := of_decide_eq_false h1
      try (exfalso; omega)
      all_goals
        refine g_skip (g_seq (g_seq ?_))
        refine g_region ?_
        refine xV rfl rfl rfl (v_move rfl) ?_
        refine xV rfl rfl rfl (v_eqlNil T.ptr_36 rfl rfl) ?_
        refine xV rfl rfl rfl (v_move rfl) ?_
        refine rl_split (s := 15) rfl (fun g3_2 => ?_) (fun g3_2 => ?_)
        · try with_reducible exact ft_elim g3_2
          all_goals
            try replace g3_2 := of_decide_eq_true g3_2
            simp at g3_2
        · try with_reducible exact tf_elim g3_2
          all_goals
            try replace g3_2 := of_decide_eq_false g3_2
            try (exfalso; omega)
            all_goals
              refine rl_vg (met_on rfl rfl rfl rfl) rfl rfl (S := fun _ => True) trivial (v_move rfl) ?_
              refine rl_vg (met_on rfl rfl rfl rfl) rfl rfl (S := fun _ => True) trivial (v_eqlNil T.ptr_30 rfl rfl) ?_
              refine xV rfl rfl rfl (v_pick_false rfl rfl) ?_
              refine xV rfl rfl rfl (v_move rfl) ?_
              refine rl_split (s := 19) rfl (fun g3_6 => ?_) (fun g3_6 => ?_)
              · try with_reducible exact ft_elim g3_6
                all_goals
                  try replace g3_6 := of_decide_eq_true g3_6
                  simp at g3_6
              · try with_reducible exact tf_elim g3_6
                all_goals
                  try replace g3_6 := of_decide_eq_false g3_6
                  try (exfalso; omega)
                  all_goals
                    refine rl_vg (met_on rfl rfl rfl rfl) rfl rfl (S := fun _ => True) trivial (v_move rfl) ?_
                    refine rl_vg (met_on rfl rfl rfl rfl) rfl rfl (S := fun _ => True) trivial (v_eqlNil T.ptr_33 rfl rfl) ?_
                    refine xV rfl rfl rfl (v_pick_false rfl rfl) ?_
                    refine rl_nil (g_le (xK (xS rfl (xS rfl (xS rfl (xS rfl (xS rfl (xS rfl (xS rfl (xS rfl (xS rfl (xS rfl (xS rfl (Fr.le_refl _))))))))))))) ?_)
                    refine g_cond rfl (fun h2 => ?_) (fun h2 => ?_)
                    · try with_reducible exact ft_elim h2
                      all_goals
                        try replace h2 := of_decide_eq_true h2
                        simp at h2
                    · try with_reducible exact tf_elim h2
                      all_goals
                        try replace h2 := of_decide_eq_false h2
                        try (exfalso; omega)
                        all_goals
                          refine g_skip (g_seq ?_)
                          refine g_region ?_
                          refine xV rfl rfl rfl (v_move rfl) ?_
                          refine xV rfl rfl rfl (v_move rfl) ?_
                          refine xV rfl rfl rfl (v_move rfl) ?_
                          refine rl_v rfl rfl rfl (by exact sat_cells hw (by (repeat first | with_reducible exact xH | apply xT); first | done | fail) ⟨rfl, rfl, rfl, rfl, rfl, rfl, rfl, trivial⟩) (v_loadAgg (vs := [_, _, _, _, _, _, _]) T.agg_23_7 rfl rfl) ?_
                          refine xV rfl rfl rfl (v_build rfl (T.build_43_0_1_2_3 ..)) ?_
                          refine rl_k rfl (k_box hw rfl rfl rfl (fun bk5_5 w hw => ?_))
                          refine xV rfl rfl rfl (v_assign rfl) ?_
                          refine xV rfl rfl rfl (v_assign rfl) ?_
                          refine rl_nil (g_le (xK (xK (xS rfl (xS rfl (xS rfl (xS rfl (xS rfl (xS rfl (Fr.le_refl _))))))))) ?_)
                          refine g_ret2 Try.func14 rfl rfl rfl ?_
                          exact ⟨_, rfl, hw.xQ⟩
theorem taken_calls {E : Env} {w : World} {L : List As} (d : Nat) (v : Value) (n : Int) (hw : Sat E w (pt d (.cells [v, .int .i64 n].toArray 102 (0, 0)) :: L)) :
    Calls Try.prog 17 #[.pointer (some ⟨d, 0, none⟩)] w fun e w' => e = .returned (.int .i64 n) ∧ Sat E w' (pt d (.cells [v, .int .i64 n].toArray 102 (0, 0)) :: L) := by
  refine calls_of_g (n := 7) Try.func17 rfl rfl rfl ?_
  change G _ _ _ _ _ [(0, _)] _
  refine g_seq ?_
  refine g_region ?_
  refine xV rfl rfl rfl (v_assign rfl) ?_
  refine rl_nil (g_le (xK (Fr.le_refl _)) ?_)
  refine g_seq ?_
  refine g_region ?_
  refine xV rfl rfl rfl (v_move rfl) ?_
  refine xV rfl rfl rfl (v_nilCheck rfl) ?_
  refine xV rfl rfl rfl (v_fieldAddr0 T.fld_102_1_1 rfl) ?_
  refine rl_v rfl rfl rfl (by exact sat_cell hw (by (repeat first | with_reducible exact xH | apply xT); first | done | fail) rfl) (v_load T.scal_3 rfl) ?_
  refine xV rfl rfl rfl (v_assign rfl) ?_
  refine rl_nil (g_le (xK (xS rfl (xS rfl (xS rfl (xS rfl (Fr.le_refl _)))))) ?_)
  refine g_ret1 Try.func17 rfl rfl ?_
  exact ⟨rfl, hw⟩
set_option maxHeartbeats 2000000 in
theorem PagesMade_bad {W w : World} {q : Qt} {n : Int} (hq : ¬ q.ok) (hw : Sat (envOf W) w [Old W]) :
    Calls Try.prog 3 #[q.v, .int .i64 n] w fun v w' => v = .returned (.bool true) ∧ Sat (envOf W) w' [Old W] := by
  refine calls_of_g (n := 137) Try.func3 rfl rfl rfl ?_
  change G _ _ _ _ _ [(0, _), (1, _)] _
  refine g_seq ?_
  refine g_region ?_
  refine rl_k rfl (k_box hw rfl rfl rfl (fun bk0_0 w hw => ?_))
  refine xV rfl rfl rfl (v_assign rfl) ?_
  refine rl_nil (g_le (xK (xK (Fr.le_refl _))) ?_)
  refine g_seq ?_
  refine g_region ?_
  refine rl_k rfl (k_callf Try.func10 rfl rfl rfl rfl ?_)
  refine Calls.mono (new_calls (hw.xQ)) ?_
  rintro _ w ⟨p, rfl, hw⟩
  refine ⟨_, rfl, ?_⟩
  refine rl_k rfl (k_callf Try.func9 rfl rfl rfl rfl ?_)
  refine Calls.mono (mnew_calls p 2 100 (by omega) (by omega) (by omega) (by omega) hw) ?_
  rintro _ w ⟨m, rfl, hw⟩
  refine ⟨_, rfl, ?_⟩
  refine xV rfl rfl rfl (v_move rfl) ?_
  refine xV rfl rfl rfl (v_extract rfl rfl) ?_
  refine xV rfl rfl rfl (v_extract rfl rfl) ?_
  refine xV rfl rfl rfl (v_assign rfl) ?_
  refine xV rfl rfl rfl (v_assign rfl) ?_
  refine rl_nil (g_le (xK (xK (xS rfl (xS rfl (xS rfl (xS rfl (xS rfl (Fr.le_refl _)))))))) ?_)
  refine g_seq ?_
  refine g_region ?_
  refine rl_k rfl (k_callf Try.func11 rfl rfl rfl rfl ?_)
  refine Calls.mono (canew_calls hw) ?_
  rintro _ w ⟨c, rfl, hw⟩
  refine ⟨_, rfl, ?_⟩
  refine xV rfl rfl rfl (v_move rfl) ?_
  refine xV rfl rfl rfl (v_extract rfl rfl) ?_
  refine xV rfl rfl rfl (v_extract rfl rfl) ?_
  refine xV rfl rfl rfl (v_assign rfl) ?_
  refine xV rfl rfl rfl (v_assign rfl) ?_
  refine rl_nil (g_le (xK (xK (xS rfl (xS rfl (xS rfl (xS rfl (Fr.le_refl _))))))) ?_)
  refine g_seq ?_
  refine g_region ?_
  refine rl_k rfl (k_callf Try.func12 rfl rfl rfl rfl ?_)
  refine Calls.mono (dnew_calls hw) ?_
  rintro _ w ⟨d, rfl, hw⟩
  refine ⟨_, rfl, ?_⟩
  refine xV rfl rfl rfl (v_move rfl) ?_
  refine xV rfl rfl rfl (v_extract rfl rfl) ?_
  refine xV rfl rfl rfl (v_extract rfl rfl) ?_
  refine xV rfl rfl rfl (v_assign rfl) ?_
  refine xV rfl rfl rfl (v_assign rfl) ?_
  refine rl_nil (g_le (xK (xK (xS rfl (xS rfl (xS rfl (xS rfl (Fr.le_refl _))))))) ?_)
  refine g_seq (g_seq ?_)
  refine g_region ?_
  refine xV rfl rfl rfl (v_move rfl) ?_
  refine xV rfl rfl rfl (v_neqF rfl rfl (by omega)) ?_
  refine xV rfl rfl rfl (v_move rfl) ?_
  refine rl_split (s := 29) rfl (fun g4_2 => ?_) (fun g4_2 => ?_)
  · try with_reducible exact ft_elim g4_2
    all_goals
      try replace g4_2 := of_decide_eq_true g4_2
      refine rl_off (met_off rfl rfl rfl rfl rfl) rfl rfl ?_
      refine rl_off (met_off rfl rfl rfl rfl rfl) rfl rfl ?_
      first | (refine xV rfl rfl rfl (v_pick_true rfl rfl) ?_) | (refine xV rfl rfl rfl (v_pick_false rfl rfl) ?_) | (refine xV rfl rfl rfl (v_pick rfl rfl rfl) ?_)
      refine xV rfl rfl rfl (v_move rfl) ?_
      refine rl_off (met_off rfl rfl rfl rfl rfl) rfl rfl ?_
      refine rl_off (met_off rfl rfl rfl rfl rfl) rfl rfl ?_
      first | (refine xV rfl rfl rfl (v_pick_true rfl rfl) ?_) | (refine xV rfl rfl rfl (v_pick_false rfl rfl) ?_) | (refine xV rfl rfl rfl (v_pick rfl rfl rfl) ?_)
      refine rl_nil (g_le (xK (xS rfl (xS rfl (xS rfl (xS rfl (xS rfl (xS rfl (xS rfl (xS rfl (xS rfl (xS rfl (Fr.le_refl _)))))))))))) ?_)
      refine g_cond_false rfl ?_
      refine g_skip (g_seq ?_)
      refine g_region ?_
      refine xV rfl rfl rfl (v_move rfl) ?_
      refine rl_k rfl (k_callf Try.func13 rfl rfl rfl rfl ?_)
      refine Calls.mono (snew_calls m p _ (hw.xP (A := MdAt m p ⟨100, List.replicate (2 : Int).toNat ByteArray.empty, [], 0⟩))) ?_
      rintro _ w ⟨l, lsv, rfl, hw⟩
      refine ⟨_, rfl, ?_⟩
      refine xV rfl rfl rfl (v_assign rfl) ?_
      refine rl_nil (g_le (xK (xS rfl (xS rfl (Fr.le_refl _)))) ?_)
      refine g_seq (g_seq ?_)
      refine g_region ?_
      refine xV rfl rfl rfl (v_move rfl) ?_
      refine rl_nil (g_le (xK (Fr.le_refl _)) ?_)
      refine g_block (g_seq ?_)
      refine g_region ?_
      first | (refine xV rfl rfl rfl (v_eqlT rfl rfl (by first | omega | rfl)) ?_) | (refine xV rfl rfl rfl (v_eqlF rfl rfl (by omega)) ?_) | (refine xV rfl rfl rfl (v_eql rfl rfl) ?_)
      refine xV rfl rfl rfl (v_assign rfl) ?_
      refine rl_nil (g_le (xK (xS rfl (Fr.le_refl _))) ?_)
      refine g_cond rfl (fun h2 => ?_) (fun h2 => ?_)
      · try with_reducible exact ft_elim h2
        all_goals
          try replace h2 := of_decide_eq_true h2
          refine g_region ?_
          refine xV rfl rfl rfl (v_assign rfl) ?_
          refine rl_nil (g_le (xK (Fr.le_refl _)) ?_)
          refine g_inBlock (g_seq ?_)
          refine g_region ?_
          refine rl_v rfl rfl rfl (by first | exact sat_cells hw (by (repeat first | with_reducible exact xH | apply xT); first | done | fail) ⟨rfl, rfl, rfl, rfl, rfl, rfl, rfl, trivial⟩ | exact ro_ats hw (by (repeat first | with_reducible exact xH | apply xT); first | done | fail) (by assumption) | exact own_cells hw (by (repeat first | with_reducible exact xH | apply xT); first | done | fail) (by assumption) | exact old_cells hw (by (repeat first | with_reducible exact xH | apply xT); first | done | fail) (by assumption)) (v_loadAgg (vs := [_, _, _, _, _, _, _]) T.agg_23_7 rfl rfl) ?_
          refine xV rfl rfl rfl (v_move rfl) ?_
          refine xV rfl rfl rfl (v_move rfl) ?_
          refine xV rfl rfl rfl (v_move rfl) ?_
          refine rl_k rfl (k_callf Try.func14 rfl rfl rfl rfl ?_)
          refine Calls.mono (pnewBad_calls q hq _ _ _ hw) ?_
          rintro _ w ⟨rfl, hw⟩
          refine ⟨_, rfl, ?_⟩
          refine xV rfl rfl rfl (v_move rfl) ?_
          refine xV rfl rfl rfl (v_extract rfl rfl) ?_
          refine xV rfl rfl rfl (v_extract rfl rfl) ?_
          refine xV rfl rfl rfl (v_assign rfl) ?_
          refine xV rfl rfl rfl (v_assign rfl) ?_
          refine rl_nil (g_le (xK (xK (xS rfl (xS rfl (xS rfl (xS rfl (xS rfl (xS rfl (xS rfl (xS rfl (Fr.le_refl _))))))))))) ?_)
          refine g_seq (g_seq ?_)
          refine g_region ?_
          refine rl_v rfl rfl rfl (by first | exact sat_cells hw (by (repeat first | with_reducible exact xH | apply xT); first | done | fail) ⟨rfl, rfl, rfl, rfl, rfl, rfl, rfl, trivial⟩ | exact ro_ats hw (by (repeat first | with_reducible exact xH | apply xT); first | done | fail) (by assumption) | exact own_cells hw (by (repeat first | with_reducible exact xH | apply xT); first | done | fail) (by assumption) | exact old_cells hw (by (repeat first | with_reducible exact xH | apply xT); first | done | fail) (by assumption)) (v_loadAgg (vs := [_, _, _, _, _, _, _]) T.agg_23_7 rfl rfl) ?_
          refine rl_k rfl (k_callf Try.func15 rfl rfl rfl rfl ?_)
          refine Calls.mono (rright_calls q (hw.xQ)) ?_
          rw [decide_eq_false hq]
          rintro _ w ⟨rfl, hw⟩
          refine ⟨_, rfl, ?_⟩
          refine xV rfl rfl rfl (v_not rfl) ?_
          refine rl_nil (g_le (xK (xS rfl (xS rfl (Fr.le_refl _)))) ?_)
          refine g_cond_true rfl ?_
          refine g_seq ?_
          refine g_region ?_
          refine xV rfl rfl rfl (v_move rfl) ?_
          refine xV rfl rfl rfl (v_eqlNil T.ptr_38 rfl rfl) ?_
          refine xV rfl rfl rfl (v_move rfl) ?_
          refine rl_split (s := 59) rfl (fun g16_2 => ?_) (fun g16_2 => ?_)
          · try with_reducible exact ft_elim g16_2
            all_goals
              try replace g16_2 := of_decide_eq_true g16_2
              refine rl_vg (met_on rfl rfl rfl rfl) rfl rfl (S := fun _ => True) trivial (v_move rfl) ?_
              first | (refine rl_vg (met_on rfl rfl rfl rfl) rfl rfl (S := fun _ => True) trivial (v_eqlT rfl rfl (by first | omega | rfl)) ?_) | (refine rl_vg (met_on rfl rfl rfl rfl) rfl rfl (S := fun _ => True) trivial (v_eqlF rfl rfl (by omega)) ?_) | (refine rl_vg (met_on rfl rfl rfl rfl) rfl rfl (S := fun _ => True) trivial (v_eql rfl rfl) ?_)
              first | (refine xV rfl rfl rfl (v_pick_true rfl rfl) ?_) | (refine xV rfl rfl rfl (v_pick_false rfl rfl) ?_) | (refine xV rfl rfl rfl (v_pick rfl rfl rfl) ?_)
              refine xV rfl rfl rfl (v_assign rfl) ?_
              refine rl_nil (g_le (xK (xS rfl (xS rfl (xS rfl (xS rfl (xS rfl (xS rfl (xS rfl (Fr.le_refl _))))))))) ?_)
              refine g_ret1 Try.func3 rfl rfl ?_
              exact ⟨rfl, hw.xQ⟩
          · try with_reducible exact tf_elim g16_2
            all_goals
              try replace g16_2 := of_decide_eq_false g16_2
              simp at g16_2
      · try with_reducible exact tf_elim h2
        all_goals
          try replace h2 := of_decide_eq_false h2
          refine g_seq ?_
          refine g_region ?_
          first | (refine xV rfl rfl rfl (v_eqlT rfl rfl (by first | omega | rfl)) ?_) | (refine xV rfl rfl rfl (v_eqlF rfl rfl (by omega)) ?_) | (refine xV rfl rfl rfl (v_eql rfl rfl) ?_)
          refine xV rfl rfl rfl (v_assign rfl) ?_
          refine rl_nil (g_le (xK (xS rfl (Fr.le_refl _))) ?_)
          refine g_cond rfl (fun h3 => ?_) (fun h3 => ?_)
          · try with_reducible exact ft_elim h3
            all_goals
              try replace h3 := of_decide_eq_true h3
              refine g_region ?_
              refine xV rfl rfl rfl (v_assign rfl) ?_
              refine rl_nil (g_le (xK (Fr.le_refl _)) ?_)
              refine g_inBlock (g_seq ?_)
              refine g_region ?_
              refine rl_v rfl rfl rfl (by first | exact sat_cells hw (by (repeat first | with_reducible exact xH | apply xT); first | done | fail) ⟨rfl, rfl, rfl, rfl, rfl, rfl, rfl, trivial⟩ | exact ro_ats hw (by (repeat first | with_reducible exact xH | apply xT); first | done | fail) (by assumption) | exact own_cells hw (by (repeat first | with_reducible exact xH | apply xT); first | done | fail) (by assumption) | exact old_cells hw (by (repeat first | with_reducible exact xH | apply xT); first | done | fail) (by assumption)) (v_loadAgg (vs := [_, _, _, _, _, _, _]) T.agg_23_7 rfl rfl) ?_
              refine xV rfl rfl rfl (v_move rfl) ?_
              refine xV rfl rfl rfl (v_move rfl) ?_
              refine xV rfl rfl rfl (v_move rfl) ?_
              refine rl_k rfl (k_callf Try.func14 rfl rfl rfl rfl ?_)
              refine Calls.mono (pnewBad_calls q hq _ _ _ hw) ?_
              rintro _ w ⟨rfl, hw⟩
              refine ⟨_, rfl, ?_⟩
              refine xV rfl rfl rfl (v_move rfl) ?_
              refine xV rfl rfl rfl (v_extract rfl rfl) ?_
              refine xV rfl rfl rfl (v_extract rfl rfl) ?_
              refine xV rfl rfl rfl (v_assign rfl) ?_
              refine xV rfl rfl rfl (v_assign rfl) ?_
              refine rl_nil (g_le (xK (xK (xS rfl (xS rfl (xS rfl (xS rfl (xS rfl (xS rfl (xS rfl (xS rfl (Fr.le_refl _))))))))))) ?_)
              refine g_seq (g_seq ?_)
              refine g_region ?_
              refine rl_v rfl rfl rfl (by first | exact sat_cells hw (by (repeat first | with_reducible exact xH | apply xT); first | done | fail) ⟨rfl, rfl, rfl, rfl, rfl, rfl, rfl, trivial⟩ | exact ro_ats hw (by (repeat first | with_reducible exact xH | apply xT); first | done | fail) (by assumption) | exact own_cells hw (by (repeat first | with_reducible exact xH | apply xT); first | done | fail) (by assumption) | exact old_cells hw (by (repeat first | with_reducible exact xH | apply xT); first | done | fail) (by assumption)) (v_loadAgg (vs := [_, _, _, _, _, _, _]) T.agg_23_7 rfl rfl) ?_
              refine rl_k rfl (k_callf Try.func15 rfl rfl rfl rfl ?_)
              refine Calls.mono (rright_calls q (hw.xQ)) ?_
              rw [decide_eq_false hq]
              rintro _ w ⟨rfl, hw⟩
              refine ⟨_, rfl, ?_⟩
              refine xV rfl rfl rfl (v_not rfl) ?_
              refine rl_nil (g_le (xK (xS rfl (xS rfl (Fr.le_refl _)))) ?_)
              refine g_cond_true rfl ?_
              refine g_seq ?_
              refine g_region ?_
              refine xV rfl rfl rfl (v_move rfl) ?_
              refine xV rfl rfl rfl (v_eqlNil T.ptr_38 rfl rfl) ?_
              refine xV rfl rfl rfl (v_move rfl) ?_
              refine rl_split (s := 59) rfl (fun g16_2 => ?_) (fun g16_2 => ?_)
              · try with_reducible exact ft_elim g16_2
                all_goals
                  try replace g16_2 := of_decide_eq_true g16_2
                  refine rl_vg (met_on rfl rfl rfl rfl) rfl rfl (S := fun _ => True) trivial (v_move rfl) ?_
                  first | (refine rl_vg (met_on rfl rfl rfl rfl) rfl rfl (S := fun _ => True) trivial (v_eqlT rfl rfl (by first | omega | rfl)) ?_) | (refine rl_vg (met_on rfl rfl rfl rfl) rfl rfl (S := fun _ => True) trivial (v_eqlF rfl rfl (by omega)) ?_) | (refine rl_vg (met_on rfl rfl rfl rfl) rfl rfl (S := fun _ => True) trivial (v_eql rfl rfl) ?_)
                  first | (refine xV rfl rfl rfl (v_pick_true rfl rfl) ?_) | (refine xV rfl rfl rfl (v_pick_false rfl rfl) ?_) | (refine xV rfl rfl rfl (v_pick rfl rfl rfl) ?_)
                  refine xV rfl rfl rfl (v_assign rfl) ?_
                  refine rl_nil (g_le (xK (xS rfl (xS rfl (xS rfl (xS rfl (xS rfl (xS rfl (xS rfl (Fr.le_refl _))))))))) ?_)
                  refine g_ret1 Try.func3 rfl rfl ?_
                  exact ⟨rfl, hw.xQ⟩
              · try with_reducible exact tf_elim g16_2
                all_goals
                  try replace g16_2 := of_decide_eq_false g16_2
                  simp at g16_2
          · try with_reducible exact tf_elim h3
            all_goals
              try replace h3 := of_decide_eq_false h3
              refine g_seq ?_
              refine g_region ?_
              first | (refine xV rfl rfl rfl (v_eqlT rfl rfl (by first | omega | rfl)) ?_) | (refine xV rfl rfl rfl (v_eqlF rfl rfl (by omega)) ?_) | (refine xV rfl rfl rfl (v_eql rfl rfl) ?_)
              refine xV rfl rfl rfl (v_assign rfl) ?_
              refine rl_nil (g_le (xK (xS rfl (Fr.le_refl _))) ?_)
              refine g_cond rfl (fun h4 => ?_) (fun h4 => ?_)
              · try with_reducible exact ft_elim h4
                all_goals
                  try replace h4 := of_decide_eq_true h4
                  refine g_region ?_
                  refine xV rfl rfl rfl (v_assign rfl) ?_
                  refine rl_nil (g_le (xK (Fr.le_refl _)) ?_)
                  refine g_inBlock (g_seq ?_)
                  refine g_region ?_
                  refine rl_v rfl rfl rfl (by first | exact sat_cells hw (by (repeat first | with_reducible exact xH | apply xT); first | done | fail) ⟨rfl, rfl, rfl, rfl, rfl, rfl, rfl, trivial⟩ | exact ro_ats hw (by (repeat first | with_reducible exact xH | apply xT); first | done | fail) (by assumption) | exact own_cells hw (by (repeat first | with_reducible exact xH | apply xT); first | done | fail) (by assumption) | exact old_cells hw (by (repeat first | with_reducible exact xH | apply xT); first | done | fail) (by assumption)) (v_loadAgg (vs := [_, _, _, _, _, _, _]) T.agg_23_7 rfl rfl) ?_
                  refine xV rfl rfl rfl (v_move rfl) ?_
                  refine xV rfl rfl rfl (v_move rfl) ?_
                  refine xV rfl rfl rfl (v_move rfl) ?_
                  refine rl_k rfl (k_callf Try.func14 rfl rfl rfl rfl ?_)
                  refine Calls.mono (pnewBad_calls q hq _ _ _ hw) ?_
                  rintro _ w ⟨rfl, hw⟩
                  refine ⟨_, rfl, ?_⟩
                  refine xV rfl rfl rfl (v_move rfl) ?_
                  refine xV rfl rfl rfl (v_extract rfl rfl) ?_
                  refine xV rfl rfl rfl (v_extract rfl rfl) ?_
                  refine xV rfl rfl rfl (v_assign rfl) ?_
                  refine xV rfl rfl rfl (v_assign rfl) ?_
                  refine rl_nil (g_le (xK (xK (xS rfl (xS rfl (xS rfl (xS rfl (xS rfl (xS rfl (xS rfl (xS rfl (Fr.le_refl _))))))))))) ?_)
                  refine g_seq (g_seq ?_)
                  refine g_region ?_
                  refine rl_v rfl rfl rfl (by first | exact sat_cells hw (by (repeat first | with_reducible exact xH | apply xT); first | done | fail) ⟨rfl, rfl, rfl, rfl, rfl, rfl, rfl, trivial⟩ | exact ro_ats hw (by (repeat first | with_reducible exact xH | apply xT); first | done | fail) (by assumption) | exact own_cells hw (by (repeat first | with_reducible exact xH | apply xT); first | done | fail) (by assumption) | exact old_cells hw (by (repeat first | with_reducible exact xH | apply xT); first | done | fail) (by assumption)) (v_loadAgg (vs := [_, _, _, _, _, _, _]) T.agg_23_7 rfl rfl) ?_
                  refine rl_k rfl (k_callf Try.func15 rfl rfl rfl rfl ?_)
                  refine Calls.mono (rright_calls q (hw.xQ)) ?_
                  rw [decide_eq_false hq]
                  rintro _ w ⟨rfl, hw⟩
                  refine ⟨_, rfl, ?_⟩
                  refine xV rfl rfl rfl (v_not rfl) ?_
                  refine rl_nil (g_le (xK (xS rfl (xS rfl (Fr.le_refl _)))) ?_)
                  refine g_cond_true rfl ?_
                  refine g_seq ?_
                  refine g_region ?_
                  refine xV rfl rfl rfl (v_move rfl) ?_
                  refine xV rfl rfl rfl (v_eqlNil T.ptr_38 rfl rfl) ?_
                  refine xV rfl rfl rfl (v_move rfl) ?_
                  refine rl_split (s := 59) rfl (fun g16_2 => ?_) (fun g16_2 => ?_)
                  · try with_reducible exact ft_elim g16_2
                    all_goals
                      try replace g16_2 := of_decide_eq_true g16_2
                      refine rl_vg (met_on rfl rfl rfl rfl) rfl rfl (S := fun _ => True) trivial (v_move rfl) ?_
                      first | (refine rl_vg (met_on rfl rfl rfl rfl) rfl rfl (S := fun _ => True) trivial (v_eqlT rfl rfl (by first | omega | rfl)) ?_) | (refine rl_vg (met_on rfl rfl rfl rfl) rfl rfl (S := fun _ => True) trivial (v_eqlF rfl rfl (by omega)) ?_) | (refine rl_vg (met_on rfl rfl rfl rfl) rfl rfl (S := fun _ => True) trivial (v_eql rfl rfl) ?_)
                      first | (refine xV rfl rfl rfl (v_pick_true rfl rfl) ?_) | (refine xV rfl rfl rfl (v_pick_false rfl rfl) ?_) | (refine xV rfl rfl rfl (v_pick rfl rfl rfl) ?_)
                      refine xV rfl rfl rfl (v_assign rfl) ?_
                      refine rl_nil (g_le (xK (xS rfl (xS rfl (xS rfl (xS rfl (xS rfl (xS rfl (xS rfl (Fr.le_refl _))))))))) ?_)
                      refine g_ret1 Try.func3 rfl rfl ?_
                      exact ⟨rfl, hw.xQ⟩
                  · try with_reducible exact tf_elim g16_2
                    all_goals
                      try replace g16_2 := of_decide_eq_false g16_2
                      simp at g16_2
              · try with_reducible exact tf_elim h4
                all_goals
                  try replace h4 := of_decide_eq_false h4
                  refine g_skip (g_inBlock (g_seq ?_))
                  refine g_region ?_
                  refine rl_v rfl rfl rfl (by first | exact sat_cells hw (by (repeat first | with_reducible exact xH | apply xT); first | done | fail) ⟨rfl, rfl, rfl, rfl, rfl, rfl, rfl, trivial⟩ | exact ro_ats hw (by (repeat first | with_reducible exact xH | apply xT); first | done | fail) (by assumption) | exact own_cells hw (by (repeat first | with_reducible exact xH | apply xT); first | done | fail) (by assumption) | exact old_cells hw (by (repeat first | with_reducible exact xH | apply xT); first | done | fail) (by assumption)) (v_loadAgg (vs := [_, _, _, _, _, _, _]) T.agg_23_7 rfl rfl) ?_
                  refine xV rfl rfl rfl (v_move rfl) ?_
                  refine xV rfl rfl rfl (v_move rfl) ?_
                  refine xV rfl rfl rfl (v_move rfl) ?_
                  refine rl_k rfl (k_callf Try.func14 rfl rfl rfl rfl ?_)
                  refine Calls.mono (pnewBad_calls q hq _ _ _ hw) ?_
                  rintro _ w ⟨rfl, hw⟩
                  refine ⟨_, rfl, ?_⟩
                  refine xV rfl rfl rfl (v_move rfl) ?_
                  refine xV rfl rfl rfl (v_extract rfl rfl) ?_
                  refine xV rfl rfl rfl (v_extract rfl rfl) ?_
                  refine xV rfl rfl rfl (v_assign rfl) ?_
                  refine xV rfl rfl rfl (v_assign rfl) ?_
                  refine rl_nil (g_le (xK (xK (xS rfl (xS rfl (xS rfl (xS rfl (xS rfl (xS rfl (xS rfl (xS rfl (Fr.le_refl _))))))))))) ?_)
                  refine g_seq (g_seq ?_)
                  refine g_region ?_
                  refine rl_v rfl rfl rfl (by first | exact sat_cells hw (by (repeat first | with_reducible exact xH | apply xT); first | done | fail) ⟨rfl, rfl, rfl, rfl, rfl, rfl, rfl, trivial⟩ | exact ro_ats hw (by (repeat first | with_reducible exact xH | apply xT); first | done | fail) (by assumption) | exact own_cells hw (by (repeat first | with_reducible exact xH | apply xT); first | done | fail) (by assumption) | exact old_cells hw (by (repeat first | with_reducible exact xH | apply xT); first | done | fail) (by assumption)) (v_loadAgg (vs := [_, _, _, _, _, _, _]) T.agg_23_7 rfl rfl) ?_
                  refine rl_k rfl (k_callf Try.func15 rfl rfl rfl rfl ?_)
                  refine Calls.mono (rright_calls q (hw.xQ)) ?_
                  rw [decide_eq_false hq]
                  rintro _ w ⟨rfl, hw⟩
                  refine ⟨_, rfl, ?_⟩
                  refine xV rfl rfl rfl (v_not rfl) ?_
                  refine rl_nil (g_le (xK (xS rfl (xS rfl (Fr.le_refl _)))) ?_)
                  refine g_cond_true rfl ?_
                  refine g_seq ?_
                  refine g_region ?_
                  refine xV rfl rfl rfl (v_move rfl) ?_
                  refine xV rfl rfl rfl (v_eqlNil T.ptr_38 rfl rfl) ?_
                  refine xV rfl rfl rfl (v_move rfl) ?_
                  refine rl_split (s := 59) rfl (fun g16_2 => ?_) (fun g16_2 => ?_)
                  · try with_reducible exact ft_elim g16_2
                    all_goals
                      try replace g16_2 := of_decide_eq_true g16_2
                      refine rl_vg (met_on rfl rfl rfl rfl) rfl rfl (S := fun _ => True) trivial (v_move rfl) ?_
                      first | (refine rl_vg (met_on rfl rfl rfl rfl) rfl rfl (S := fun _ => True) trivial (v_eqlT rfl rfl (by first | omega | rfl)) ?_) | (refine rl_vg (met_on rfl rfl rfl rfl) rfl rfl (S := fun _ => True) trivial (v_eqlF rfl rfl (by omega)) ?_) | (refine rl_vg (met_on rfl rfl rfl rfl) rfl rfl (S := fun _ => True) trivial (v_eql rfl rfl) ?_)
                      first | (refine xV rfl rfl rfl (v_pick_true rfl rfl) ?_) | (refine xV rfl rfl rfl (v_pick_false rfl rfl) ?_) | (refine xV rfl rfl rfl (v_pick rfl rfl rfl) ?_)
                      refine xV rfl rfl rfl (v_assign rfl) ?_
                      refine rl_nil (g_le (xK (xS rfl (xS rfl (xS rfl (xS rfl (xS rfl (xS rfl (xS rfl (Fr.le_refl _))))))))) ?_)
                      refine g_ret1 Try.func3 rfl rfl ?_
                      exact ⟨rfl, hw.xQ⟩
                  · try with_reducible exact tf_elim g16_2
                    all_goals
                      try replace g16_2 := of_decide_eq_false g16_2
                      simp at g16_2
  · try with_reducible exact tf_elim g4_2
    all_goals
      try replace g4_2 := of_decide_eq_false g4_2
      refine rl_vg (met_on rfl rfl rfl rfl) rfl rfl (S := fun _ => True) trivial (v_move rfl) ?_
      refine rl_vg (met_on rfl rfl rfl rfl) rfl rfl (S := fun _ => True) trivial (v_neqF rfl rfl (by omega)) ?_
      refine xV rfl rfl rfl (v_pick_false rfl rfl) ?_
      refine xV rfl rfl rfl (v_move rfl) ?_
      refine rl_split (s := 33) rfl (fun g4_6 => ?_) (fun g4_6 => ?_)
      · try with_reducible exact ft_elim g4_6
        all_goals
          try replace g4_6 := of_decide_eq_true g4_6
          refine rl_off (met_off rfl rfl rfl rfl rfl) rfl rfl ?_
          refine rl_off (met_off rfl rfl rfl rfl rfl) rfl rfl ?_
          first | (refine xV rfl rfl rfl (v_pick_true rfl rfl) ?_) | (refine xV rfl rfl rfl (v_pick_false rfl rfl) ?_) | (refine xV rfl rfl rfl (v_pick rfl rfl rfl) ?_)
          refine rl_nil (g_le (xK (xS rfl (xS rfl (xS rfl (xS rfl (xS rfl (xS rfl (xS rfl (xS rfl (xS rfl (xS rfl (xS rfl (Fr.le_refl _))))))))))))) ?_)
          refine g_cond_false rfl ?_
          refine g_skip (g_seq ?_)
          refine g_region ?_
          refine xV rfl rfl rfl (v_move rfl) ?_
          refine rl_k rfl (k_callf Try.func13 rfl rfl rfl rfl ?_)
          refine Calls.mono (snew_calls m p _ (hw.xP (A := MdAt m p ⟨100, List.replicate (2 : Int).toNat ByteArray.empty, [], 0⟩))) ?_
          rintro _ w ⟨l, lsv, rfl, hw⟩
          refine ⟨_, rfl, ?_⟩
          refine xV rfl rfl rfl (v_assign rfl) ?_
          refine rl_nil (g_le (xK (xS rfl (xS rfl (Fr.le_refl _)))) ?_)
          refine g_seq (g_seq ?_)
          refine g_region ?_
          refine xV rfl rfl rfl (v_move rfl) ?_
          refine rl_nil (g_le (xK (Fr.le_refl _)) ?_)
          refine g_block (g_seq ?_)
          refine g_region ?_
          first | (refine xV rfl rfl rfl (v_eqlT rfl rfl (by first | omega | rfl)) ?_) | (refine xV rfl rfl rfl (v_eqlF rfl rfl (by omega)) ?_) | (refine xV rfl rfl rfl (v_eql rfl rfl) ?_)
          refine xV rfl rfl rfl (v_assign rfl) ?_
          refine rl_nil (g_le (xK (xS rfl (Fr.le_refl _))) ?_)
          refine g_cond rfl (fun h2 => ?_) (fun h2 => ?_)
          · try with_reducible exact ft_elim h2
            all_goals
              try replace h2 := of_decide_eq_true h2
              refine g_region ?_
              refine xV rfl rfl rfl (v_assign rfl) ?_
              refine rl_nil (g_le (xK (Fr.le_refl _)) ?_)
              refine g_inBlock (g_seq ?_)
              refine g_region ?_
              refine rl_v rfl rfl rfl (by first | exact sat_cells hw (by (repeat first | with_reducible exact xH | apply xT); first | done | fail) ⟨rfl, rfl, rfl, rfl, rfl, rfl, rfl, trivial⟩ | exact ro_ats hw (by (repeat first | with_reducible exact xH | apply xT); first | done | fail) (by assumption) | exact own_cells hw (by (repeat first | with_reducible exact xH | apply xT); first | done | fail) (by assumption) | exact old_cells hw (by (repeat first | with_reducible exact xH | apply xT); first | done | fail) (by assumption)) (v_loadAgg (vs := [_, _, _, _, _, _, _]) T.agg_23_7 rfl rfl) ?_
              refine xV rfl rfl rfl (v_move rfl) ?_
              refine xV rfl rfl rfl (v_move rfl) ?_
              refine xV rfl rfl rfl (v_move rfl) ?_
              refine rl_k rfl (k_callf Try.func14 rfl rfl rfl rfl ?_)
              refine Calls.mono (pnewBad_calls q hq _ _ _ hw) ?_
              rintro _ w ⟨rfl, hw⟩
              refine ⟨_, rfl, ?_⟩
              refine xV rfl rfl rfl (v_move rfl) ?_
              refine xV rfl rfl rfl (v_extract rfl rfl) ?_
              refine xV rfl rfl rfl (v_extract rfl rfl) ?_
              refine xV rfl rfl rfl (v_assign rfl) ?_
              refine xV rfl rfl rfl (v_assign rfl) ?_
              refine rl_nil (g_le (xK (xK (xS rfl (xS rfl (xS rfl (xS rfl (xS rfl (xS rfl (xS rfl (xS rfl (Fr.le_refl _))))))))))) ?_)
              refine g_seq (g_seq ?_)
              refine g_region ?_
              refine rl_v rfl rfl rfl (by first | exact sat_cells hw (by (repeat first | with_reducible exact xH | apply xT); first | done | fail) ⟨rfl, rfl, rfl, rfl, rfl, rfl, rfl, trivial⟩ | exact ro_ats hw (by (repeat first | with_reducible exact xH | apply xT); first | done | fail) (by assumption) | exact own_cells hw (by (repeat first | with_reducible exact xH | apply xT); first | done | fail) (by assumption) | exact old_cells hw (by (repeat first | with_reducible exact xH | apply xT); first | done | fail) (by assumption)) (v_loadAgg (vs := [_, _, _, _, _, _, _]) T.agg_23_7 rfl rfl) ?_
              refine rl_k rfl (k_callf Try.func15 rfl rfl rfl rfl ?_)
              refine Calls.mono (rright_calls q (hw.xQ)) ?_
              rw [decide_eq_false hq]
              rintro _ w ⟨rfl, hw⟩
              refine ⟨_, rfl, ?_⟩
              refine xV rfl rfl rfl (v_not rfl) ?_
              refine rl_nil (g_le (xK (xS rfl (xS rfl (Fr.le_refl _)))) ?_)
              refine g_cond_true rfl ?_
              refine g_seq ?_
              refine g_region ?_
              refine xV rfl rfl rfl (v_move rfl) ?_
              refine xV rfl rfl rfl (v_eqlNil T.ptr_38 rfl rfl) ?_
              refine xV rfl rfl rfl (v_move rfl) ?_
              refine rl_split (s := 59) rfl (fun g16_2 => ?_) (fun g16_2 => ?_)
              · try with_reducible exact ft_elim g16_2
                all_goals
                  try replace g16_2 := of_decide_eq_true g16_2
                  refine rl_vg (met_on rfl rfl rfl rfl) rfl rfl (S := fun _ => True) trivial (v_move rfl) ?_
                  first | (refine rl_vg (met_on rfl rfl rfl rfl) rfl rfl (S := fun _ => True) trivial (v_eqlT rfl rfl (by first | omega | rfl)) ?_) | (refine rl_vg (met_on rfl rfl rfl rfl) rfl rfl (S := fun _ => True) trivial (v_eqlF rfl rfl (by omega)) ?_) | (refine rl_vg (met_on rfl rfl rfl rfl) rfl rfl (S := fun _ => True) trivial (v_eql rfl rfl) ?_)
                  first | (refine xV rfl rfl rfl (v_pick_true rfl rfl) ?_) | (refine xV rfl rfl rfl (v_pick_false rfl rfl) ?_) | (refine xV rfl rfl rfl (v_pick rfl rfl rfl) ?_)
                  refine xV rfl rfl rfl (v_assign rfl) ?_
                  refine rl_nil (g_le (xK (xS rfl (xS rfl (xS rfl (xS rfl (xS rfl (xS rfl (xS rfl (Fr.le_refl _))))))))) ?_)
                  refine g_ret1 Try.func3 rfl rfl ?_
                  exact ⟨rfl, hw.xQ⟩
              · try with_reducible exact tf_elim g16_2
                all_goals
                  try replace g16_2 := of_decide_eq_false g16_2
                  simp at g16_2
          · try with_reducible exact tf_elim h2
            all_goals
              try replace h2 := of_decide_eq_false h2
              refine g_seq ?_
              refine g_region ?_
              first | (refine xV rfl rfl rfl (v_eqlT rfl rfl (by first | omega | rfl)) ?_) | (refine xV rfl rfl rfl (v_eqlF rfl rfl (by omega)) ?_) | (refine xV rfl rfl rfl (v_eql rfl rfl) ?_)
              refine xV rfl rfl rfl (v_assign rfl) ?_
              refine rl_nil (g_le (xK (xS rfl (Fr.le_refl _))) ?_)
              refine g_cond rfl (fun h3 => ?_) (fun h3 => ?_)
              · try with_reducible exact ft_elim h3
                all_goals
                  try replace h3 := of_decide_eq_true h3
                  refine g_region ?_
                  refine xV rfl rfl rfl (v_assign rfl) ?_
                  refine rl_nil (g_le (xK (Fr.le_refl _)) ?_)
                  refine g_inBlock (g_seq ?_)
                  refine g_region ?_
                  refine rl_v rfl rfl rfl (by first | exact sat_cells hw (by (repeat first | with_reducible exact xH | apply xT); first | done | fail) ⟨rfl, rfl, rfl, rfl, rfl, rfl, rfl, trivial⟩ | exact ro_ats hw (by (repeat first | with_reducible exact xH | apply xT); first | done | fail) (by assumption) | exact own_cells hw (by (repeat first | with_reducible exact xH | apply xT); first | done | fail) (by assumption) | exact old_cells hw (by (repeat first | with_reducible exact xH | apply xT); first | done | fail) (by assumption)) (v_loadAgg (vs := [_, _, _, _, _, _, _]) T.agg_23_7 rfl rfl) ?_
                  refine xV rfl rfl rfl (v_move rfl) ?_
                  refine xV rfl rfl rfl (v_move rfl) ?_
                  refine xV rfl rfl rfl (v_move rfl) ?_
                  refine rl_k rfl (k_callf Try.func14 rfl rfl rfl rfl ?_)
                  refine Calls.mono (pnewBad_calls q hq _ _ _ hw) ?_
                  rintro _ w ⟨rfl, hw⟩
                  refine ⟨_, rfl, ?_⟩
                  refine xV rfl rfl rfl (v_move rfl) ?_
                  refine xV rfl rfl rfl (v_extract rfl rfl) ?_
                  refine xV rfl rfl rfl (v_extract rfl rfl) ?_
                  refine xV rfl rfl rfl (v_assign rfl) ?_
                  refine xV rfl rfl rfl (v_assign rfl) ?_
                  refine rl_nil (g_le (xK (xK (xS rfl (xS rfl (xS rfl (xS rfl (xS rfl (xS rfl (xS rfl (xS rfl (Fr.le_refl _))))))))))) ?_)
                  refine g_seq (g_seq ?_)
                  refine g_region ?_
                  refine rl_v rfl rfl rfl (by first | exact sat_cells hw (by (repeat first | with_reducible exact xH | apply xT); first | done | fail) ⟨rfl, rfl, rfl, rfl, rfl, rfl, rfl, trivial⟩ | exact ro_ats hw (by (repeat first | with_reducible exact xH | apply xT); first | done | fail) (by assumption) | exact own_cells hw (by (repeat first | with_reducible exact xH | apply xT); first | done | fail) (by assumption) | exact old_cells hw (by (repeat first | with_reducible exact xH | apply xT); first | done | fail) (by assumption)) (v_loadAgg (vs := [_, _, _, _, _, _, _]) T.agg_23_7 rfl rfl) ?_
                  refine rl_k rfl (k_callf Try.func15 rfl rfl rfl rfl ?_)
                  refine Calls.mono (rright_calls q (hw.xQ)) ?_
                  rw [decide_eq_false hq]
                  rintro _ w ⟨rfl, hw⟩
                  refine ⟨_, rfl, ?_⟩
                  refine xV rfl rfl rfl (v_not rfl) ?_
                  refine rl_nil (g_le (xK (xS rfl (xS rfl (Fr.le_refl _)))) ?_)
                  refine g_cond_true rfl ?_
                  refine g_seq ?_
                  refine g_region ?_
                  refine xV rfl rfl rfl (v_move rfl) ?_
                  refine xV rfl rfl rfl (v_eqlNil T.ptr_38 rfl rfl) ?_
                  refine xV rfl rfl rfl (v_move rfl) ?_
                  refine rl_split (s := 59) rfl (fun g16_2 => ?_) (fun g16_2 => ?_)
                  · try with_reducible exact ft_elim g16_2
                    all_goals
                      try replace g16_2 := of_decide_eq_true g16_2
                      refine rl_vg (met_on rfl rfl rfl rfl) rfl rfl (S := fun _ => True) trivial (v_move rfl) ?_
                      first | (refine rl_vg (met_on rfl rfl rfl rfl) rfl rfl (S := fun _ => True) trivial (v_eqlT rfl rfl (by first | omega | rfl)) ?_) | (refine rl_vg (met_on rfl rfl rfl rfl) rfl rfl (S := fun _ => True) trivial (v_eqlF rfl rfl (by omega)) ?_) | (refine rl_vg (met_on rfl rfl rfl rfl) rfl rfl (S := fun _ => True) trivial (v_eql rfl rfl) ?_)
                      first | (refine xV rfl rfl rfl (v_pick_true rfl rfl) ?_) | (refine xV rfl rfl rfl (v_pick_false rfl rfl) ?_) | (refine xV rfl rfl rfl (v_pick rfl rfl rfl) ?_)
                      refine xV rfl rfl rfl (v_assign rfl) ?_
                      refine rl_nil (g_le (xK (xS rfl (xS rfl (xS rfl (xS rfl (xS rfl (xS rfl (xS rfl (Fr.le_refl _))))))))) ?_)
                      refine g_ret1 Try.func3 rfl rfl ?_
                      exact ⟨rfl, hw.xQ⟩
                  · try with_reducible exact tf_elim g16_2
                    all_goals
                      try replace g16_2 := of_decide_eq_false g16_2
                      simp at g16_2
              · try with_reducible exact tf_elim h3
                all_goals
                  try replace h3 := of_decide_eq_false h3
                  refine g_seq ?_
                  refine g_region ?_
                  first | (refine xV rfl rfl rfl (v_eqlT rfl rfl (by first | omega | rfl)) ?_) | (refine xV rfl rfl rfl (v_eqlF rfl rfl (by omega)) ?_) | (refine xV rfl rfl rfl (v_eql rfl rfl) ?_)
                  refine xV rfl rfl rfl (v_assign rfl) ?_
                  refine rl_nil (g_le (xK (xS rfl (Fr.le_refl _))) ?_)
                  refine g_cond rfl (fun h4 => ?_) (fun h4 => ?_)
                  · try with_reducible exact ft_elim h4
                    all_goals
                      try replace h4 := of_decide_eq_true h4
                      refine g_region ?_
                      refine xV rfl rfl rfl (v_assign rfl) ?_
                      refine rl_nil (g_le (xK (Fr.le_refl _)) ?_)
                      refine g_inBlock (g_seq ?_)
                      refine g_region ?_
                      refine rl_v rfl rfl rfl (by first | exact sat_cells hw (by (repeat first | with_reducible exact xH | apply xT); first | done | fail) ⟨rfl, rfl, rfl, rfl, rfl, rfl, rfl, trivial⟩ | exact ro_ats hw (by (repeat first | with_reducible exact xH | apply xT); first | done | fail) (by assumption) | exact own_cells hw (by (repeat first | with_reducible exact xH | apply xT); first | done | fail) (by assumption) | exact old_cells hw (by (repeat first | with_reducible exact xH | apply xT); first | done | fail) (by assumption)) (v_loadAgg (vs := [_, _, _, _, _, _, _]) T.agg_23_7 rfl rfl) ?_
                      refine xV rfl rfl rfl (v_move rfl) ?_
                      refine xV rfl rfl rfl (v_move rfl) ?_
                      refine xV rfl rfl rfl (v_move rfl) ?_
                      refine rl_k rfl (k_callf Try.func14 rfl rfl rfl rfl ?_)
                      refine Calls.mono (pnewBad_calls q hq _ _ _ hw) ?_
                      rintro _ w ⟨rfl, hw⟩
                      refine ⟨_, rfl, ?_⟩
                      refine xV rfl rfl rfl (v_move rfl) ?_
                      refine xV rfl rfl rfl (v_extract rfl rfl) ?_
                      refine xV rfl rfl rfl (v_extract rfl rfl) ?_
                      refine xV rfl rfl rfl (v_assign rfl) ?_
                      refine xV rfl rfl rfl (v_assign rfl) ?_
                      refine rl_nil (g_le (xK (xK (xS rfl (xS rfl (xS rfl (xS rfl (xS rfl (xS rfl (xS rfl (xS rfl (Fr.le_refl _))))))))))) ?_)
                      refine g_seq (g_seq ?_)
                      refine g_region ?_
                      refine rl_v rfl rfl rfl (by first | exact sat_cells hw (by (repeat first | with_reducible exact xH | apply xT); first | done | fail) ⟨rfl, rfl, rfl, rfl, rfl, rfl, rfl, trivial⟩ | exact ro_ats hw (by (repeat first | with_reducible exact xH | apply xT); first | done | fail) (by assumption) | exact own_cells hw (by (repeat first | with_reducible exact xH | apply xT); first | done | fail) (by assumption) | exact old_cells hw (by (repeat first | with_reducible exact xH | apply xT); first | done | fail) (by assumption)) (v_loadAgg (vs := [_, _, _, _, _, _, _]) T.agg_23_7 rfl rfl) ?_
                      refine rl_k rfl (k_callf Try.func15 rfl rfl rfl rfl ?_)
                      refine Calls.mono (rright_calls q (hw.xQ)) ?_
                      rw [decide_eq_false hq]
                      rintro _ w ⟨rfl, hw⟩
                      refine ⟨_, rfl, ?_⟩
                      refine xV rfl rfl rfl (v_not rfl) ?_
                      refine rl_nil (g_le (xK (xS rfl (xS rfl (Fr.le_refl _)))) ?_)
                      refine g_cond_true rfl ?_
                      refine g_seq ?_
                      refine g_region ?_
                      refine xV rfl rfl rfl (v_move rfl) ?_
                      refine xV rfl rfl rfl (v_eqlNil T.ptr_38 rfl rfl) ?_
                      refine xV rfl rfl rfl (v_move rfl) ?_
                      refine rl_split (s := 59) rfl (fun g16_2 => ?_) (fun g16_2 => ?_)
                      · try with_reducible exact ft_elim g16_2
                        all_goals
                          try replace g16_2 := of_decide_eq_true g16_2
                          refine rl_vg (met_on rfl rfl rfl rfl) rfl rfl (S := fun _ => True) trivial (v_move rfl) ?_
                          first | (refine rl_vg (met_on rfl rfl rfl rfl) rfl rfl (S := fun _ => True) trivial (v_eqlT rfl rfl (by first | omega | rfl)) ?_) | (refine rl_vg (met_on rfl rfl rfl rfl) rfl rfl (S := fun _ => True) trivial (v_eqlF rfl rfl (by omega)) ?_) | (refine rl_vg (met_on rfl rfl rfl rfl) rfl rfl (S := fun _ => True) trivial (v_eql rfl rfl) ?_)
                          first | (refine xV rfl rfl rfl (v_pick_true rfl rfl) ?_) | (refine xV rfl rfl rfl (v_pick_false rfl rfl) ?_) | (refine xV rfl rfl rfl (v_pick rfl rfl rfl) ?_)
                          refine xV rfl rfl rfl (v_assign rfl) ?_
                          refine rl_nil (g_le (xK (xS rfl (xS rfl (xS rfl (xS rfl (xS rfl (xS rfl (xS rfl (Fr.le_refl _))))))))) ?_)
                          refine g_ret1 Try.func3 rfl rfl ?_
                          exact ⟨rfl, hw.xQ⟩
                      · try with_reducible exact tf_elim g16_2
                        all_goals
                          try replace g16_2 := of_decide_eq_false g16_2
                          simp at g16_2
                  · try with_reducible exact tf_elim h4
                    all_goals
                      try replace h4 := of_decide_eq_false h4
                      refine g_skip (g_inBlock (g_seq ?_))
                      refine g_region ?_
                      refine rl_v rfl rfl rfl (by first | exact sat_cells hw (by (repeat first | with_reducible exact xH | apply xT); first | done | fail) ⟨rfl, rfl, rfl, rfl, rfl, rfl, rfl, trivial⟩ | exact ro_ats hw (by (repeat first | with_reducible exact xH | apply xT); first | done | fail) (by assumption) | exact own_cells hw (by (repeat first | with_reducible exact xH | apply xT); first | done | fail) (by assumption) | exact old_cells hw (by (repeat first | with_reducible exact xH | apply xT); first | done | fail) (by assumption)) (v_loadAgg (vs := [_, _, _, _, _, _, _]) T.agg_23_7 rfl rfl) ?_
                      refine xV rfl rfl rfl (v_move rfl) ?_
                      refine xV rfl rfl rfl (v_move rfl) ?_
                      refine xV rfl rfl rfl (v_move rfl) ?_
                      refine rl_k rfl (k_callf Try.func14 rfl rfl rfl rfl ?_)
                      refine Calls.mono (pnewBad_calls q hq _ _ _ hw) ?_
                      rintro _ w ⟨rfl, hw⟩
                      refine ⟨_, rfl, ?_⟩
                      refine xV rfl rfl rfl (v_move rfl) ?_
                      refine xV rfl rfl rfl (v_extract rfl rfl) ?_
                      refine xV rfl rfl rfl (v_extract rfl rfl) ?_
                      refine xV rfl rfl rfl (v_assign rfl) ?_
                      refine xV rfl rfl rfl (v_assign rfl) ?_
                      refine rl_nil (g_le (xK (xK (xS rfl (xS rfl (xS rfl (xS rfl (xS rfl (xS rfl (xS rfl (xS rfl (Fr.le_refl _))))))))))) ?_)
                      refine g_seq (g_seq ?_)
                      refine g_region ?_
                      refine rl_v rfl rfl rfl (by first | exact sat_cells hw (by (repeat first | with_reducible exact xH | apply xT); first | done | fail) ⟨rfl, rfl, rfl, rfl, rfl, rfl, rfl, trivial⟩ | exact ro_ats hw (by (repeat first | with_reducible exact xH | apply xT); first | done | fail) (by assumption) | exact own_cells hw (by (repeat first | with_reducible exact xH | apply xT); first | done | fail) (by assumption) | exact old_cells hw (by (repeat first | with_reducible exact xH | apply xT); first | done | fail) (by assumption)) (v_loadAgg (vs := [_, _, _, _, _, _, _]) T.agg_23_7 rfl rfl) ?_
                      refine rl_k rfl (k_callf Try.func15 rfl rfl rfl rfl ?_)
                      refine Calls.mono (rright_calls q (hw.xQ)) ?_
                      rw [decide_eq_false hq]
                      rintro _ w ⟨rfl, hw⟩
                      refine ⟨_, rfl, ?_⟩
                      refine xV rfl rfl rfl (v_not rfl) ?_
                      refine rl_nil (g_le (xK (xS rfl (xS rfl (Fr.le_refl _)))) ?_)
                      refine g_cond_true rfl ?_
                      refine g_seq ?_
                      refine g_region ?_
                      refine xV rfl rfl rfl (v_move rfl) ?_
                      refine xV rfl rfl rfl (v_eqlNil T.ptr_38 rfl rfl) ?_
                      refine xV rfl rfl rfl (v_move rfl) ?_
                      refine rl_split (s := 59) rfl (fun g16_2 => ?_) (fun g16_2 => ?_)
                      · try with_reducible exact ft_elim g16_2
                        all_goals
                          try replace g16_2 := of_decide_eq_true g16_2
                          refine rl_vg (met_on rfl rfl rfl rfl) rfl rfl (S := fun _ => True) trivial (v_move rfl) ?_
                          first | (refine rl_vg (met_on rfl rfl rfl rfl) rfl rfl (S := fun _ => True) trivial (v_eqlT rfl rfl (by first | omega | rfl)) ?_) | (refine rl_vg (met_on rfl rfl rfl rfl) rfl rfl (S := fun _ => True) trivial (v_eqlF rfl rfl (by omega)) ?_) | (refine rl_vg (met_on rfl rfl rfl rfl) rfl rfl (S := fun _ => True) trivial (v_eql rfl rfl) ?_)
                          first | (refine xV rfl rfl rfl (v_pick_true rfl rfl) ?_) | (refine xV rfl rfl rfl (v_pick_false rfl rfl) ?_) | (refine xV rfl rfl rfl (v_pick rfl rfl rfl) ?_)
                          refine xV rfl rfl rfl (v_assign rfl) ?_
                          refine rl_nil (g_le (xK (xS rfl (xS rfl (xS rfl (xS rfl (xS rfl (xS rfl (xS rfl (Fr.le_refl _))))))))) ?_)
                          refine g_ret1 Try.func3 rfl rfl ?_
                          exact ⟨rfl, hw.xQ⟩
                      · try with_reducible exact tf_elim g16_2
                        all_goals
                          try replace g16_2 := of_decide_eq_false g16_2
                          simp at g16_2
      · try with_reducible exact tf_elim g4_6
        all_goals
          try replace g4_6 := of_decide_eq_false g4_6
          refine rl_vg (met_on rfl rfl rfl rfl) rfl rfl (S := fun _ => True) trivial (v_move rfl) ?_
          refine rl_vg (met_on rfl rfl rfl rfl) rfl rfl (S := fun _ => True) trivial (v_neqF rfl rfl (by omega)) ?_
          refine xV rfl rfl rfl (v_pick_false rfl rfl) ?_
          refine rl_nil (g_le (xK (xS rfl (xS rfl (xS rfl (xS rfl (xS rfl (xS rfl (xS rfl (xS rfl (xS rfl (xS rfl (xS rfl (Fr.le_refl _))))))))))))) ?_)
          refine g_cond_false rfl ?_
          refine g_skip (g_seq ?_)
          refine g_region ?_
          refine xV rfl rfl rfl (v_move rfl) ?_
          refine rl_k rfl (k_callf Try.func13 rfl rfl rfl rfl ?_)
          refine Calls.mono (snew_calls m p _ (hw.xP (A := MdAt m p ⟨100, List.replicate (2 : Int).toNat ByteArray.empty, [], 0⟩))) ?_
          rintro _ w ⟨l, lsv, rfl, hw⟩
          refine ⟨_, rfl, ?_⟩
          refine xV rfl rfl rfl (v_assign rfl) ?_
          refine rl_nil (g_le (xK (xS rfl (xS rfl (Fr.le_refl _)))) ?_)
          refine g_seq (g_seq ?_)
          refine g_region ?_
          refine xV rfl rfl rfl (v_move rfl) ?_
          refine rl_nil (g_le (xK (Fr.le_refl _)) ?_)
          refine g_block (g_seq ?_)
          refine g_region ?_
          refine xV rfl rfl rfl (v_eql rfl rfl) ?_
          refine xV rfl rfl rfl (v_assign rfl) ?_
          refine rl_nil (g_le (xK (xS rfl (Fr.le_refl _))) ?_)
          refine g_cond rfl (fun h2 => ?_) (fun h2 => ?_)
          · try with_reducible exact ft_elim h2
            all_goals
              try replace h2 := of_decide_eq_true h2
              refine g_region ?_
              refine xV rfl rfl rfl (v_assign rfl) ?_
              refine rl_nil (g_le (xK (Fr.le_refl _)) ?_)
              refine g_inBlock (g_seq ?_)
              refine g_region ?_
              refine rl_v rfl rfl rfl (by exact sat_cells hw (by (repeat first | with_reducible exact xH | apply xT); first | done | fail) ⟨rfl, rfl, rfl, rfl, rfl, rfl, rfl, trivial⟩) (v_loadAgg (vs := [_, _, _, _, _, _, _]) T.agg_23_7 rfl rfl) ?_
              refine xV rfl rfl rfl (v_move rfl) ?_
              refine xV rfl rfl rfl (v_move rfl) ?_
              refine xV rfl rfl rfl (v_move rfl) ?_
              refine rl_k rfl (k_callf Try.func14 rfl rfl rfl rfl ?_)
              refine Calls.mono (pnewBad_calls q hq _ _ _ hw) ?_
              rintro _ w ⟨rfl, hw⟩
              refine ⟨_, rfl, ?_⟩
              refine xV rfl rfl rfl (v_move rfl) ?_
              refine xV rfl rfl rfl (v_extract rfl rfl) ?_
              refine xV rfl rfl rfl (v_extract rfl rfl) ?_
              refine xV rfl rfl rfl (v_assign rfl) ?_
              refine xV rfl rfl rfl (v_assign rfl) ?_
              refine rl_nil (g_le (xK (xK (xS rfl (xS rfl (xS rfl (xS rfl (xS rfl (xS rfl (xS rfl (xS rfl (Fr.le_refl _))))))))))) ?_)
              refine g_seq (g_seq ?_)
              refine g_region ?_
              refine rl_v rfl rfl rfl (by exact sat_cells hw (by (repeat first | with_reducible exact xH | apply xT); first | done | fail) ⟨rfl, rfl, rfl, rfl, rfl, rfl, rfl, trivial⟩) (v_loadAgg (vs := [_, _, _, _, _, _, _]) T.agg_23_7 rfl rfl) ?_
              refine rl_k rfl (k_callf Try.func15 rfl rfl rfl rfl ?_)
              refine Calls.mono (rright_calls q (hw.xQ)) ?_
              rw [decide_eq_false hq]
              rintro _ w ⟨rfl, hw⟩
              refine ⟨_, rfl, ?_⟩
              refine xV rfl rfl rfl (v_not rfl) ?_
              refine rl_nil (g_le (xK (xS rfl (xS rfl (Fr.le_refl _)))) ?_)
              refine g_cond_true rfl ?_
              refine g_seq ?_
              refine g_region ?_
              refine xV rfl rfl rfl (v_move rfl) ?_
              refine xV rfl rfl rfl (v_eqlNil T.ptr_38 rfl rfl) ?_
              refine xV rfl rfl rfl (v_move rfl) ?_
              refine rl_split (s := 59) rfl (fun g16_2 => ?_) (fun g16_2 => ?_)
              · try with_reducible exact ft_elim g16_2
                all_goals
                  try replace g16_2 := of_decide_eq_true g16_2
                  refine rl_vg (met_on rfl rfl rfl rfl) rfl rfl (S := fun _ => True) trivial (v_move rfl) ?_
                  refine rl_vg (met_on rfl rfl rfl rfl) rfl rfl (S := fun _ => True) trivial (v_eqlT rfl rfl (by omega)) ?_
                  refine xV rfl rfl rfl (v_pick_true rfl rfl) ?_
                  refine xV rfl rfl rfl (v_assign rfl) ?_
                  refine rl_nil (g_le (xK (xS rfl (xS rfl (xS rfl (xS rfl (xS rfl (xS rfl (xS rfl (Fr.le_refl _))))))))) ?_)
                  refine g_ret1 Try.func3 rfl rfl ?_
                  exact ⟨rfl, hw.xQ⟩
              · try with_reducible exact tf_elim g16_2
                all_goals
                  try replace g16_2 := of_decide_eq_false g16_2
                  simp at g16_2
          · try with_reducible exact tf_elim h2
            all_goals
              try replace h2 := of_decide_eq_false h2
              refine g_seq ?_
              refine g_region ?_
              refine xV rfl rfl rfl (v_eql rfl rfl) ?_
              refine xV rfl rfl rfl (v_assign rfl) ?_
              refine rl_nil (g_le (xK (xS rfl (Fr.le_refl _))) ?_)
              refine g_cond rfl (fun h3 => ?_) (fun h3 => ?_)
              · try with_reducible exact ft_elim h3
                all_goals
                  try replace h3 := of_decide_eq_true h3
                  refine g_region ?_
                  refine xV rfl rfl rfl (v_assign rfl) ?_
                  refine rl_nil (g_le (xK (Fr.le_refl _)) ?_)
                  refine g_inBlock (g_seq ?_)
                  refine g_region ?_
                  refine rl_v rfl rfl rfl (by exact sat_cells hw (by (repeat first | with_reducible exact xH | apply xT); first | done | fail) ⟨rfl, rfl, rfl, rfl, rfl, rfl, rfl, trivial⟩) (v_loadAgg (vs := [_, _, _, _, _, _, _]) T.agg_23_7 rfl rfl) ?_
                  refine xV rfl rfl rfl (v_move rfl) ?_
                  refine xV rfl rfl rfl (v_move rfl) ?_
                  refine xV rfl rfl rfl (v_move rfl) ?_
                  refine rl_k rfl (k_callf Try.func14 rfl rfl rfl rfl ?_)
                  refine Calls.mono (pnewBad_calls q hq _ _ _ hw) ?_
                  rintro _ w ⟨rfl, hw⟩
                  refine ⟨_, rfl, ?_⟩
                  refine xV rfl rfl rfl (v_move rfl) ?_
                  refine xV rfl rfl rfl (v_extract rfl rfl) ?_
                  refine xV rfl rfl rfl (v_extract rfl rfl) ?_
                  refine xV rfl rfl rfl (v_assign rfl) ?_
                  refine xV rfl rfl rfl (v_assign rfl) ?_
                  refine rl_nil (g_le (xK (xK (xS rfl (xS rfl (xS rfl (xS rfl (xS rfl (xS rfl (xS rfl (xS rfl (Fr.le_refl _))))))))))) ?_)
                  refine g_seq (g_seq ?_)
                  refine g_region ?_
                  refine rl_v rfl rfl rfl (by exact sat_cells hw (by (repeat first | with_reducible exact xH | apply xT); first | done | fail) ⟨rfl, rfl, rfl, rfl, rfl, rfl, rfl, trivial⟩) (v_loadAgg (vs := [_, _, _, _, _, _, _]) T.agg_23_7 rfl rfl) ?_
                  refine rl_k rfl (k_callf Try.func15 rfl rfl rfl rfl ?_)
                  refine Calls.mono (rright_calls q (hw.xQ)) ?_
                  rw [decide_eq_false hq]
                  rintro _ w ⟨rfl, hw⟩
                  refine ⟨_, rfl, ?_⟩
                  refine xV rfl rfl rfl (v_not rfl) ?_
                  refine rl_nil (g_le (xK (xS rfl (xS rfl (Fr.le_refl _)))) ?_)
                  refine g_cond_true rfl ?_
                  refine g_seq ?_
                  refine g_region ?_
                  refine xV rfl rfl rfl (v_move rfl) ?_
                  refine xV rfl rfl rfl (v_eqlNil T.ptr_38 rfl rfl) ?_
                  refine xV rfl rfl rfl (v_move rfl) ?_
                  refine rl_split (s := 59) rfl (fun g16_2 => ?_) (fun g16_2 => ?_)
                  · try with_reducible exact ft_elim g16_2
                    all_goals
                      try replace g16_2 := of_decide_eq_true g16_2
                      refine rl_vg (met_on rfl rfl rfl rfl) rfl rfl (S := fun _ => True) trivial (v_move rfl) ?_
                      refine rl_vg (met_on rfl rfl rfl rfl) rfl rfl (S := fun _ => True) trivial (v_eqlT rfl rfl (by omega)) ?_
                      refine xV rfl rfl rfl (v_pick_true rfl rfl) ?_
                      refine xV rfl rfl rfl (v_assign rfl) ?_
                      refine rl_nil (g_le (xK (xS rfl (xS rfl (xS rfl (xS rfl (xS rfl (xS rfl (xS rfl (Fr.le_refl _))))))))) ?_)
                      refine g_ret1 Try.func3 rfl rfl ?_
                      exact ⟨rfl, hw.xQ⟩
                  · try with_reducible exact tf_elim g16_2
                    all_goals
                      try replace g16_2 := of_decide_eq_false g16_2
                      simp at g16_2
              · try with_reducible exact tf_elim h3
                all_goals
                  try replace h3 := of_decide_eq_false h3
                  refine g_seq ?_
                  refine g_region ?_
                  refine xV rfl rfl rfl (v_eql rfl rfl) ?_
                  refine xV rfl rfl rfl (v_assign rfl) ?_
                  refine rl_nil (g_le (xK (xS rfl (Fr.le_refl _))) ?_)
                  refine g_cond rfl (fun h4 => ?_) (fun h4 => ?_)
                  · try with_reducible exact ft_elim h4
                    all_goals
                      try replace h4 := of_decide_eq_true h4
                      refine g_region ?_
                      refine xV rfl rfl rfl (v_assign rfl) ?_
                      refine rl_nil (g_le (xK (Fr.le_refl _)) ?_)
                      refine g_inBlock (g_seq ?_)
                      refine g_region ?_
                      refine rl_v rfl rfl rfl (by exact sat_cells hw (by (repeat first | with_reducible exact xH | apply xT); first | done | fail) ⟨rfl, rfl, rfl, rfl, rfl, rfl, rfl, trivial⟩) (v_loadAgg (vs := [_, _, _, _, _, _, _]) T.agg_23_7 rfl rfl) ?_
                      refine xV rfl rfl rfl (v_move rfl) ?_
                      refine xV rfl rfl rfl (v_move rfl) ?_
                      refine xV rfl rfl rfl (v_move rfl) ?_
                      refine rl_k rfl (k_callf Try.func14 rfl rfl rfl rfl ?_)
                      refine Calls.mono (pnewBad_calls q hq _ _ _ hw) ?_
                      rintro _ w ⟨rfl, hw⟩
                      refine ⟨_, rfl, ?_⟩
                      refine xV rfl rfl rfl (v_move rfl) ?_
                      refine xV rfl rfl rfl (v_extract rfl rfl) ?_
                      refine xV rfl rfl rfl (v_extract rfl rfl) ?_
                      refine xV rfl rfl rfl (v_assign rfl) ?_
                      refine xV rfl rfl rfl (v_assign rfl) ?_
                      refine rl_nil (g_le (xK (xK (xS rfl (xS rfl (xS rfl (xS rfl (xS rfl (xS rfl (xS rfl (xS rfl (Fr.le_refl _))))))))))) ?_)
                      refine g_seq (g_seq ?_)
                      refine g_region ?_
                      refine rl_v rfl rfl rfl (by exact sat_cells hw (by (repeat first | with_reducible exact xH | apply xT); first | done | fail) ⟨rfl, rfl, rfl, rfl, rfl, rfl, rfl, trivial⟩) (v_loadAgg (vs := [_, _, _, _, _, _, _]) T.agg_23_7 rfl rfl) ?_
                      refine rl_k rfl (k_callf Try.func15 rfl rfl rfl rfl ?_)
                      refine Calls.mono (rright_calls q (hw.xQ)) ?_
                      rw [decide_eq_false hq]
                      rintro _ w ⟨rfl, hw⟩
                      refine ⟨_, rfl, ?_⟩
                      refine xV rfl rfl rfl (v_not rfl) ?_
                      refine rl_nil (g_le (xK (xS rfl (xS rfl (Fr.le_refl _)))) ?_)
                      refine g_cond_true rfl ?_
                      refine g_seq ?_
                      refine g_region ?_
                      refine xV rfl rfl rfl (v_move rfl) ?_
                      refine xV rfl rfl rfl (v_eqlNil T.ptr_38 rfl rfl) ?_
                      refine xV rfl rfl rfl (v_move rfl) ?_
                      refine rl_split (s := 59) rfl (fun g16_2 => ?_) (fun g16_2 => ?_)
                      · try with_reducible exact ft_elim g16_2
                        all_goals
                          try replace g16_2 := of_decide_eq_true g16_2
                          refine rl_vg (met_on rfl rfl rfl rfl) rfl rfl (S := fun _ => True) trivial (v_move rfl) ?_
                          refine rl_vg (met_on rfl rfl rfl rfl) rfl rfl (S := fun _ => True) trivial (v_eqlT rfl rfl (by omega)) ?_
                          refine xV rfl rfl rfl (v_pick_true rfl rfl) ?_
                          refine xV rfl rfl rfl (v_assign rfl) ?_
                          refine rl_nil (g_le (xK (xS rfl (xS rfl (xS rfl (xS rfl (xS rfl (xS rfl (xS rfl (Fr.le_refl _))))))))) ?_)
                          refine g_ret1 Try.func3 rfl rfl ?_
                          exact ⟨rfl, hw.xQ⟩
                      · try with_reducible exact tf_elim g16_2
                        all_goals
                          try replace g16_2 := of_decide_eq_false g16_2
                          simp at g16_2
                  · try with_reducible exact tf_elim h4
                    all_goals
                      try replace h4 := of_decide_eq_false h4
                      refine g_skip (g_inBlock (g_seq ?_))
                      refine g_region ?_
                      refine rl_v rfl rfl rfl (by exact sat_cells hw (by (repeat first | with_reducible exact xH | apply xT); first | done | fail) ⟨rfl, rfl, rfl, rfl, rfl, rfl, rfl, trivial⟩) (v_loadAgg (vs := [_, _, _, _, _, _, _]) T.agg_23_7 rfl rfl) ?_
                      refine xV rfl rfl rfl (v_move rfl) ?_
                      refine xV rfl rfl rfl (v_move rfl) ?_
                      refine xV rfl rfl rfl (v_move rfl) ?_
                      refine rl_k rfl (k_callf Try.func14 rfl rfl rfl rfl ?_)
                      refine Calls.mono (pnewBad_calls q hq _ _ _ hw) ?_
                      rintro _ w ⟨rfl, hw⟩
                      refine ⟨_, rfl, ?_⟩
                      refine xV rfl rfl rfl (v_move rfl) ?_
                      refine xV rfl rfl rfl (v_extract rfl rfl) ?_
                      refine xV rfl rfl rfl (v_extract rfl rfl) ?_
                      refine xV rfl rfl rfl (v_assign rfl) ?_
                      refine xV rfl rfl rfl (v_assign rfl) ?_
                      refine rl_nil (g_le (xK (xK (xS rfl (xS rfl (xS rfl (xS rfl (xS rfl (xS rfl (xS rfl (xS rfl (Fr.le_refl _))))))))))) ?_)
                      refine g_seq (g_seq ?_)
                      refine g_region ?_
                      refine rl_v rfl rfl rfl (by exact sat_cells hw (by (repeat first | with_reducible exact xH | apply xT); first | done | fail) ⟨rfl, rfl, rfl, rfl, rfl, rfl, rfl, trivial⟩) (v_loadAgg (vs := [_, _, _, _, _, _, _]) T.agg_23_7 rfl rfl) ?_
                      refine rl_k rfl (k_callf Try.func15 rfl rfl rfl rfl ?_)
                      refine Calls.mono (rright_calls q (hw.xQ)) ?_
                      rw [decide_eq_false hq]
                      rintro _ w ⟨rfl, hw⟩
                      refine ⟨_, rfl, ?_⟩
                      refine xV rfl rfl rfl (v_not rfl) ?_
                      refine rl_nil (g_le (xK (xS rfl (xS rfl (Fr.le_refl _)))) ?_)
                      refine g_cond_true rfl ?_
                      refine g_seq ?_
                      refine g_region ?_
                      refine xV rfl rfl rfl (v_move rfl) ?_
                      refine xV rfl rfl rfl (v_eqlNil T.ptr_38 rfl rfl) ?_
                      refine xV rfl rfl rfl (v_move rfl) ?_
                      refine rl_split (s := 59) rfl (fun g16_2 => ?_) (fun g16_2 => ?_)
                      · try with_reducible exact ft_elim g16_2
                        all_goals
                          try replace g16_2 := of_decide_eq_true g16_2
                          refine rl_vg (met_on rfl rfl rfl rfl) rfl rfl (S := fun _ => True) trivial (v_move rfl) ?_
                          refine rl_vg (met_on rfl rfl rfl rfl) rfl rfl (S := fun _ => True) trivial (v_eqlT rfl rfl (by omega)) ?_
                          refine xV rfl rfl rfl (v_pick_true rfl rfl) ?_
                          refine xV rfl rfl rfl (v_assign rfl) ?_
                          refine rl_nil (g_le (xK (xS rfl (xS rfl (xS rfl (xS rfl (xS rfl (xS rfl (xS rfl (Fr.le_refl _))))))))) ?_)
                          refine g_ret1 Try.func3 rfl rfl ?_
                          exact ⟨rfl, hw.xQ⟩
                      · try with_reducible exact tf_elim g16_2
                        all_goals
                          try replace g16_2 := of_decide_eq_false g16_2
                          simp at g16_2
end Go.Proofs.Ytipdklbedpkobaa
