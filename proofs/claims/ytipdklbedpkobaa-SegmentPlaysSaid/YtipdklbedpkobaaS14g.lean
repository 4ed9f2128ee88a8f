/-
  The log (layer 14): places, sorted.
-/
import Derived.Test.YtipdklbedpkobaaS14f
import Derived.Test.YtipdklbedpkobaaX16
namespace Go.Proofs.Ytipdklbedpkobaa
set_option maxRecDepth 8000
set_option linter.unusedSimpArgs false
set_option linter.unusedVariables false
open Go Xe Go.Lib
structure Pl where
  seg : Int
  off : Int
  len : Int
instance : DecidableEq Pl := fun a b => decidable_of_iff (a.seg = b.seg ∧ a.off = b.off ∧ a.len = b.len) (by cases a; cases b; simp)
@[reducible] def Pl.cells (x : Pl) : List Value := [.int .i64 x.seg, .int .i64 x.off, .int .i64 x.len]
def Pl.ok (x : Pl) : Prop := (Lit.int .i64 x.seg).wf = true ∧ (Lit.int .i64 x.off).wf = true ∧ (Lit.int .i64 x.len).wf = true
def rdPl : Rd Pl := fun _ cs x => cs = x.cells ∧ x.ok
theorem mono_Pl : Rd.Mono rdPl := fun _ _ _ h => h
theorem one_Pl : Rd.One rdPl := fun h => by rw [h.1]; simp [Value.oneCell']
theorem eq_Pl (x y : Pl) : cellsEq x.cells y.cells = some (decide (x = y)) := by
  simp only [cellsEq, cellEq, if_true, Bool.and_true, Option.some.injEq]
  by_cases h : x = y
  · subst h; simp
  · rw [decide_eq_false h]
    refine Bool.eq_false_iff.2 fun h2 => h ?_
    simp only [Bool.and_eq_true, decide_eq_true_eq, beq_iff_eq] at h2
    obtain ⟨_, _, _⟩ := x
    obtain ⟨_, _, _⟩ := y
    simp_all
theorem reads_Pl {H : Type} {enc : TypeId × Value → H} : Reads enc Try.prog 58 rdPl := fun w fuel cs d ps h hz => by
  have hl := reads_length T.agg_58_3 (by kernel_rfl) h hz
  obtain ⟨c0, c1, c2, rfl⟩ : ∃ c0 c1 c2, cs = [c0, c1, c2] := by
    match cs, hl with
    | [c0, c1, c2], _ => exact ⟨_, _, _, rfl⟩
  obtain ⟨x0, h0⟩ := reads_field (i := 0) (off := 0) (k := 1) (ft := 3) (by kernel_rfl) h hz (reads_int T.int_3_i64)
  obtain ⟨x1, h1⟩ := reads_field (i := 1) (off := 1) (k := 1) (ft := 3) (by kernel_rfl) h hz (reads_int T.int_3_i64)
  obtain ⟨x2, h2⟩ := reads_field (i := 2) (off := 2) (k := 1) (ft := 3) (by kernel_rfl) h hz (reads_int T.int_3_i64)
  obtain ⟨e0, k0⟩ := h0
  obtain ⟨e1, k1⟩ := h1
  obtain ⟨e2, k2⟩ := h2
  simp only [List.drop_zero, List.drop_succ_cons, List.take_succ_cons, List.take_zero, List.cons.injEq, and_true] at e0 e1 e2
  obtain rfl := e0
  obtain rfl := e1
  obtain rfl := e2
  exact ⟨⟨x0, x1, x2⟩, rfl, k0, k1, k2⟩
def sortP_ren : Go.Shelf.Ren := { f := fun | 6 => 80 | 14 => 84 | 15 => 85 | 20 => 86 | 21 => 87 | 22 => 88 | 23 => 89 | 24 => 90 | 25 => 91 | 26 => 92 | 27 => 93 | 28 => 94 | 29 => 95 | 46 => 96 | 47 => 97 | 48 => 98 | 49 => 99 | 50 => 100 | 57 => 101 | n => n, t := fun | 0 => 0 | 3 => 3 | 4 => 4 | 5 => 5 | 9 => 9 | 22 => 70 | 24 => 58 | 25 => 134 | 39 => 145 | 45 => 147 | 46 => 148 | 50 => 152 | 53 => 155 | 55 => 100 | 66 => 157 | 70 => 161 | 76 => 163 | 77 => 64 | n => n, g := fun n => n }
theorem sortP : Go.Proofs.SlLaysF0.n6 Try.prog sortP_ren := {
  mixed := by kernel_rfl,
  f6 := ⟨Try.f80.name, by decide, Try.func80.trans (congrArg some (by kernel_rfl))⟩,
  f14 := ⟨Try.f84.name, by decide, Try.func84.trans (congrArg some (by kernel_rfl))⟩,
  f15 := Try.func85.trans (congrArg some (by kernel_rfl)),
  f20 := ⟨Try.f86.name, by decide, Try.func86.trans (congrArg some (by kernel_rfl))⟩,
  f21 := ⟨Try.f87.name, by decide, Try.func87.trans (congrArg some (by kernel_rfl))⟩,
  f22 := ⟨Try.f88.name, by decide, Try.func88.trans (congrArg some (by kernel_rfl))⟩,
  f23 := ⟨Try.f89.name, by decide, Try.func89.trans (congrArg some (by kernel_rfl))⟩,
  f24 := ⟨Try.f90.name, by decide, Try.func90.trans (congrArg some (by kernel_rfl))⟩,
  f25 := ⟨Try.f91.name, by decide, Try.func91.trans (congrArg some (by kernel_rfl))⟩,
  f26 := ⟨Try.f92.name, by decide, Try.func92.trans (congrArg some (by kernel_rfl))⟩,
  f27 := ⟨Try.f93.name, by decide, Try.func93.trans (congrArg some (by kernel_rfl))⟩,
  f28 := Try.func94.trans (congrArg some (by kernel_rfl)),
  f29 := Try.func95.trans (congrArg some (by kernel_rfl)),
  f46 := ⟨Try.f96.name, by decide, Try.func96.trans (congrArg some (by kernel_rfl))⟩,
  f47 := Try.func97.trans (congrArg some (by kernel_rfl)),
  f48 := Try.func98.trans (congrArg some (by kernel_rfl)),
  f49 := ⟨Try.f99.name, by decide, Try.func99.trans (congrArg some (by kernel_rfl))⟩,
  f50 := ⟨Try.f100.name, by decide, Try.func100.trans (congrArg some (by kernel_rfl))⟩,
  f57 := ⟨Try.f101.name, by decide, Try.func101.trans (congrArg some (by kernel_rfl))⟩,
  t0 := Try.underlying0,
  a0 := Try.isAgg0,
  z0 := Try.sizeOf0,
  v0 := Try.zeroValue0,
  t3 := Try.underlying3,
  a3 := Try.isAgg3,
  z3 := Try.sizeOf3,
  v3 := Try.zeroValue3,
  t4 := Try.underlying4,
  a4 := Try.isAgg4,
  z4 := Try.sizeOf4,
  v4 := Try.zeroValue4,
  t5 := Try.underlying5,
  a5 := Try.isAgg5,
  z5 := Try.sizeOf5,
  v5 := Try.zeroValue5,
  t9 := Try.underlying9,
  a9 := Try.isAgg9,
  z9 := Try.sizeOf9,
  v9 := Try.zeroValue9,
  t22 := Try.underlying70,
  a22 := Try.isAgg70,
  z22 := Try.sizeOf70,
  v22 := Try.zeroValue70,
  t25 := Try.underlying134,
  a25 := Try.isAgg134,
  z25 := Try.sizeOf134,
  v25 := Try.zeroValue134,
  t39 := Try.underlying145,
  a39 := Try.isAgg145,
  z39 := Try.sizeOf145,
  v39 := Try.zeroValue145,
  t45 := Try.underlying147,
  a45 := Try.isAgg147,
  z45 := Try.sizeOf147,
  v45 := Try.zeroValue147,
  t46 := Try.underlying148,
  a46 := Try.isAgg148,
  z46 := Try.sizeOf148,
  v46 := Try.zeroValue148,
  t50 := Try.underlying152,
  a50 := Try.isAgg152,
  z50 := Try.sizeOf152,
  v50 := Try.zeroValue152,
  t53 := Try.underlying155,
  a53 := Try.isAgg155,
  z53 := Try.sizeOf155,
  v53 := Try.zeroValue155,
  t55 := Try.underlying100,
  a55 := Try.isAgg100,
  z55 := Try.sizeOf100,
  v55 := Try.zeroValue100,
  t66 := Try.underlying157,
  a66 := Try.isAgg157,
  z66 := Try.sizeOf157,
  v66 := Try.zeroValue157,
  t70 := Try.underlying161,
  a70 := Try.isAgg161,
  z70 := Try.sizeOf161,
  v70 := Try.zeroValue161,
  t76 := Try.underlying163,
  a76 := Try.isAgg163,
  z76 := Try.sizeOf163,
  v76 := Try.zeroValue163,
  t77 := Try.underlying64,
  a77 := Try.isAgg64,
  z77 := Try.sizeOf64,
  v77 := Try.zeroValue64 }
theorem sortP_agg : ∀ w, (Go.isAgg (sortP_ren.t 24)).run Try.prog w = .ok true w := Try.isAgg58
theorem sortP_size : ∀ w, (Go.sizeOf (sortP_ren.t 24)).run Try.prog w = .ok 3 w := Try.sizeOf58
instance : Inhabited Pl := ⟨⟨0, 0, 0⟩⟩
/-- A tells the places xs at the slice v. -/
def SrcA (A : As) (v : Value) (xs : List Pl) : Prop := ∃ a c, v = .slice a xs.length c ∧ xs.length * 24 ≤ 140737488355328 ∧ ∀ i x, xs[i]? = some x → ∃ b o, a = some ⟨b, o, none⟩ ∧ ∀ E w L, Sat E w (A :: L) → CellsAt w b (o + i * 3) x.cells
def cmpI (a b : Int) : Int := if a < b then -1 else if b < a then 1 else 0
def cfP (x y : Pl) : Int := if cmpI x.seg y.seg ≠ 0 then cmpI x.seg y.seg else cmpI x.off y.off
theorem ltP (x y : Pl) : Go.Proofs.ltOf cfP x y = decide (x.seg < y.seg ∨ x.seg = y.seg ∧ x.off < y.off) := by
  unfold Go.Proofs.ltOf cfP cmpI
  apply decide_eq_decide.2
  split <;> split <;> (try split) <;> (try split) <;> omega
theorem swoP : Go.Sort.SWO (Go.Proofs.ltOf cfP) where
  irrefl x := by rw [ltP]; simp
  trans x y z h1 h2 := by rw [ltP] at *; simp only [decide_eq_true_eq] at *; omega
  ntrans x y z h1 h2 := by rw [ltP] at *; simp only [decide_eq_false_iff_not] at *; omega
theorem nan_calls {E : Env} {w : World} {L : List As} (a : Int) (hw : Sat E w L) :
    Calls Try.prog 82 #[.int .i64 a] w fun e w' => e = .returned (.bool false) ∧ Sat E w' L := by
  refine calls_of_g (n := 6) Try.func82 rfl rfl rfl ?_
  change G _ _ _ _ _ [(0, _)] _
  refine g_seq ?_
  refine g_region ?_
  refine xV rfl rfl rfl (v_assign rfl) ?_
  refine rl_nil (g_le (xK (Fr.le_refl _)) ?_)
  refine g_seq ?_
  refine g_region ?_
  refine xV rfl rfl rfl (v_move rfl) ?_
  refine xV rfl rfl rfl (v_move rfl) ?_
  refine xV rfl rfl rfl (v_neqF rfl rfl (by omega)) ?_
  refine xV rfl rfl rfl (v_assign rfl) ?_
  refine rl_nil (g_le (xK (xS rfl (xS rfl (xS rfl (Fr.le_refl _))))) ?_)
  refine g_ret1 Try.func82 rfl rfl ?_
  exact ⟨rfl, hw⟩
theorem compare_calls {E : Env} {w : World} {L : List As} (a b : Int) (hw : Sat E w L) :
    Calls Try.prog 72 #[.int .i64 a, .int .i64 b] w fun e w' => e = .returned (.int .i64 (cmpI a b)) ∧ Sat E w' L := by
  unfold cmpI
  refine calls_of_g (n := 20) Try.func72 rfl rfl rfl ?_
  change G _ _ _ _ _ [(0, _), (1, _)] _
  refine g_seq ?_
  refine g_region ?_
  refine xV rfl rfl rfl (v_assign rfl) ?_
  refine rl_nil (g_le (xK (Fr.le_refl _)) ?_)
  refine g_seq ?_
  refine g_region ?_
  refine xV rfl rfl rfl (v_move rfl) ?_
  refine rl_k rfl (k_callf Try.func82 rfl rfl rfl rfl ?_)
  refine Calls.mono (nan_calls _ hw) ?_
  rintro _ w ⟨rfl, hw⟩
  refine ⟨_, rfl, ?_⟩
  refine xV rfl rfl rfl (v_assign rfl) ?_
  refine rl_nil (g_le (xK (xS rfl (xS rfl (Fr.le_refl _)))) ?_)
  refine g_seq ?_
  refine g_region ?_
  refine xV rfl rfl rfl (v_move rfl) ?_
  refine rl_k rfl (k_callf Try.func82 rfl rfl rfl rfl ?_)
  refine Calls.mono (nan_calls _ hw) ?_
  rintro _ w ⟨rfl, hw⟩
  refine ⟨_, rfl, ?_⟩
  refine xV rfl rfl rfl (v_assign rfl) ?_
  refine rl_nil (g_le (xK (xS rfl (xS rfl (Fr.le_refl _)))) ?_)
  refine g_seq (g_seq ?_)
  refine g_region ?_
  refine xV rfl rfl rfl (v_move rfl) ?_
  refine rl_nil (g_le (xK (Fr.le_refl _)) ?_)
  refine g_cond_false rfl ?_
  refine g_skip (g_seq (g_seq ?_))
  refine g_region ?_
  refine xV rfl rfl rfl (v_move rfl) ?_
  refine rl_nil (g_le (xK (Fr.le_refl _)) ?_)
  refine g_cond_false rfl ?_
  refine g_skip (g_seq (g_seq ?_))
  refine g_region ?_
  refine xV rfl rfl rfl (v_move rfl) ?_
  refine xV rfl rfl rfl (v_move rfl) ?_
  refine xV rfl rfl rfl (v_lss rfl rfl) ?_
  refine rl_nil (g_le (xK (xS rfl (xS rfl (Fr.le_refl _)))) ?_)
  refine g_cond rfl (fun h4 => ?_) (fun h4 => ?_)
  · try with_reducible exact ft_elim h4
    all_goals
      try replace h4 := of_decide_eq_true h4
      refine g_seq ?_
      refine g_region ?_
      refine xV rfl rfl rfl (v_assign rfl) ?_
      refine rl_nil (g_le (xK (Fr.le_refl _)) ?_)
      refine g_ret1 Try.func72 rfl rfl ?_
      rw [if_pos h4]
      exact ⟨rfl, hw⟩
  · try with_reducible exact tf_elim h4
    all_goals
      try replace h4 := of_decide_eq_false h4
      refine g_skip (g_seq (g_seq ?_))
      refine g_region ?_
      refine xV rfl rfl rfl (v_move rfl) ?_
      refine xV rfl rfl rfl (v_move rfl) ?_
      refine xV rfl rfl rfl (v_gtr rfl rfl) ?_
      refine rl_nil (g_le (xK (xS rfl (xS rfl (Fr.le_refl _)))) ?_)
      refine g_cond rfl (fun h5 => ?_) (fun h5 => ?_)
      · try with_reducible exact ft_elim h5
        all_goals
          try replace h5 := of_decide_eq_true h5
          refine g_seq ?_
          refine g_region ?_
          refine xV rfl rfl rfl (v_assign rfl) ?_
          refine rl_nil (g_le (xK (Fr.le_refl _)) ?_)
          refine g_ret1 Try.func72 rfl rfl ?_
          rw [if_neg h4, if_pos (by omega)]
          exact ⟨rfl, hw⟩
      · try with_reducible exact tf_elim h5
        all_goals
          try replace h5 := of_decide_eq_false h5
          refine g_skip (g_seq ?_)
          refine g_region ?_
          refine xV rfl rfl rfl (v_assign rfl) ?_
          refine rl_nil (g_le (xK (Fr.le_refl _)) ?_)
          refine g_ret1 Try.func72 rfl rfl ?_
          rw [if_neg h4, if_neg (by omega)]
          exact ⟨rfl, hw⟩
theorem or_calls {E : Env} {w : World} {L : List As} {q : Nat} (a b : Int) (hw : Sat E w (pt q (.cells [Value.int .i64 a, .int .i64 b].toArray 3 (0, 0)) :: L)) :
    Calls Try.prog 71 #[.slice (some ⟨q, 0, none⟩) 2 2] w fun e w' => e = .returned (.int .i64 (if a ≠ 0 then a else b)) ∧ Sat E w' L := by
  refine calls_of_g (n := 18) Try.func71 rfl rfl rfl ?_
  change G _ _ _ _ _ [(0, _)] _
  refine g_seq ?_
  refine g_region ?_
  refine xV rfl rfl rfl (v_assign rfl) ?_
  refine rl_nil (g_le (xK (Fr.le_refl _)) ?_)
  refine g_seq ?_
  refine g_region ?_
  refine xV rfl rfl rfl (v_assign rfl) ?_
  refine rl_nil (g_le (xK (Fr.le_refl _)) ?_)
  refine g_seq (g_seq ?_)
  refine g_region ?_
  refine xV rfl rfl rfl (v_move rfl) ?_
  refine xV rfl rfl rfl (v_lenSlice T.sl_61_3_1 rfl) ?_
  refine xV rfl rfl rfl (v_move rfl) ?_
  refine rl_nil (g_le (xK (xK (xK (Fr.le_refl _)))) ?_)
  refine g_block ?_
  refine g_loopC (σ := Nat) (fun C x => (8, .int .i64 (x : Nat)) :: C) [(2, _), (3, _), (6, _), (7, _)] (by repeat (first | exact Fr.le_nil _ | refine Fr.le_cons rfl ?_)) (fun z w => z ≤ 2 ∧ (1 ≤ z → a = 0) ∧ (2 ≤ z → b = 0) ∧ Sat E w (pt q (.cells [Value.int .i64 a, .int .i64 b].toArray 3 (0, 0)) :: L)) (fun z => 2 - z) ?_ 0 (by repeat (first | exact Fr.le_nil _ | refine Fr.le_cons rfl ?_)) ⟨by simp, by simp, by simp, hw⟩
  rintro i w ⟨hi, ha, hb, hw⟩ ih
  refine g_seq ?_
  refine g_region ?_
  refine xV rfl rfl rfl (v_lss rfl rfl) ?_
  refine rl_nil (g_le (xK (Fr.le_refl _)) ?_)
  refine g_seq ?_
  refine g_cond rfl (fun h1 => ?_) (fun h1 => ?_)
  · try with_reducible exact ft_elim h1
    all_goals
      try replace h1 := of_decide_eq_true h1
      refine g_skip (g_seq (g_block (g_seq ?_)))
      obtain ⟨u, hu, hcu⟩ : ∃ u : Int, (u = if i = 0 then a else b) ∧ w.cell? ⟨q, 0 + i, none⟩ = some (.int .i64 u) := by
        rcases i with _ | _ | i
        · exact ⟨a, by simp, sat_cell hw (.here _) rfl⟩
        · exact ⟨b, by simp, sat_cell hw (.here _) rfl⟩
        · omega
      refine g_region ?_
      refine xV rfl rfl rfl (v_indexAddr T.sl_61_3_1 rfl rfl (by omega) (by omega)) ?_
      refine rl_v rfl rfl rfl (by rw [show 0 + (i : Int).toNat * 1 = 0 + i by omega]; exact hcu) (v_load T.scal_3 rfl) ?_
      refine xV rfl rfl rfl (v_assign rfl) ?_
      refine rl_nil (g_le (xK (xK (xK (Fr.le_refl _)))) ?_)
      refine g_seq ?_
      refine g_region ?_
      refine xV rfl rfl rfl (v_move rfl) ?_
      refine xV rfl rfl rfl (v_move rfl) ?_
      refine xV rfl rfl rfl (v_neq rfl rfl) ?_
      refine rl_nil (g_le (xK (xK (xK (Fr.le_refl _)))) ?_)
      refine g_cond rfl (fun h2 => ?_) (fun h2 => ?_)
      · try with_reducible exact ft_elim h2
        all_goals
          try replace h2 := of_decide_eq_true h2
          refine g_seq ?_
          refine g_region ?_
          refine xV rfl rfl rfl (v_move rfl) ?_
          refine xV rfl rfl rfl (v_assign rfl) ?_
          refine rl_nil (g_le (xK (xK (Fr.le_refl _))) ?_)
          refine g_ret1 Try.func71 rfl rfl ?_
          refine ⟨?_, hw.drop⟩
          rcases i with _ | _ | i
          · simp only [if_true] at hu; subst hu; rw [if_pos h2]
          · simp at hu; subst hu; rw [if_neg (by simp [ha])]
          · omega
      · try with_reducible exact tf_elim h2
        all_goals
          try replace h2 := of_decide_eq_false h2
          refine g_skip (g_inBlock ?_)
          refine g_region ?_
          refine xV rfl rfl rfl (v_add rfl rfl (by omega)) ?_
          refine xV rfl rfl rfl (v_move rfl) ?_
          refine rl_nil (g_le (xK (xK (Fr.le_refl _))) ?_)
          refine g_le (by repeat (first | exact Fr.le_nil _ | refine Fr.le_cons rfl ?_)) (ih (i + 1) w ⟨by omega, fun _ => ?_, fun h => ?_, hw⟩ (by omega))
          · rcases i with _ | i
            · simp at hu; omega
            · exact ha (by omega)
          · rcases i with _ | _ | i
            · omega
            · simp at hu; omega
            · omega
  · try with_reducible exact tf_elim h1
    all_goals
      try replace h1 := of_decide_eq_false h1
      refine g_exit rfl (g_seq ?_)
      refine g_region ?_
      refine xV rfl rfl rfl (v_move rfl) ?_
      refine xV rfl rfl rfl (v_assign rfl) ?_
      refine rl_nil (g_le (xK (xS rfl (Fr.le_refl _))) ?_)
      refine g_ret1 Try.func71 rfl rfl ?_
      refine ⟨?_, hw.drop⟩
      rw [if_neg (by simp [ha (by omega)]), hb (by omega)]
theorem ord_f70_r1_S14g : orderOfB Try.f70 1 [9, 10, 11] (.a 0 (.a 2 (.a 5 (.a 7 (.v 1 (.v 3 (.v 6 (.v 8 (.k 4 (.k 9 (.k 10 (.k 11 (.k 12 .done))))))))))))) = true := by kernel_rfl
theorem cmpP_calls {E : Env} {w : World} {L : List As} (x y : Pl) (hw : Sat E w L) :
    Calls Try.prog 70 #[.agg x.cells.toArray, .agg y.cells.toArray] w fun e w' => e = .returned (.int .i64 (cfP x y)) ∧ Sat E w' L := by
  refine calls_of_g (n := 17) Try.func70 rfl rfl rfl ?_
  change G _ _ _ _ _ [(0, _), (1, _)] _
  refine g_seq ?_
  refine g_region ?_
  refine rl_k rfl (k_box hw rfl rfl rfl (fun bk0_0 w hw => ?_))
  refine rl_k rfl (k_box hw rfl rfl rfl (fun bk0_1 w hw => ?_))
  refine xV rfl rfl rfl (v_assign rfl) ?_
  refine rl_nil (g_le (xK (xK (xK (Fr.le_refl _)))) ?_)
  refine g_seq ?_
  refine g_drawR ord_f70_r1_S14g (by kernel_rfl) T.mixed hw (fun w hw => ?_)
  refine rs_a 0 rfl rfl rfl rfl (v_fieldAddr0 T.fld_58_0_0 rfl) ?_
  refine rs_a 2 rfl rfl rfl rfl (v_fieldAddr0 T.fld_58_0_0 rfl) ?_
  refine rs_a 5 rfl rfl rfl rfl (v_fieldAddr0 T.fld_58_1_1 rfl) ?_
  refine rs_a 7 rfl rfl rfl rfl (v_fieldAddr0 T.fld_58_1_1 rfl) ?_
  refine rs_v 1 rfl rfl rfl rfl (OpV.mono (v_load T.scal_3 rfl) (fun w hw => by exact sat_cell hw (by (repeat first | with_reducible exact xH | apply xT); first | done | fail) rfl)) (by exact hw) ?_
  refine rs_v 3 rfl rfl rfl rfl (OpV.mono (v_load T.scal_3 rfl) (fun w hw => by exact sat_cell hw (by (repeat first | with_reducible exact xH | apply xT); first | done | fail) rfl)) (by exact hw) ?_
  refine rs_v 6 rfl rfl rfl rfl (OpV.mono (v_load T.scal_3 rfl) (fun w hw => by exact sat_cell hw (by (repeat first | with_reducible exact xH | apply xT); first | done | fail) rfl)) (by exact hw) ?_
  refine rs_v 8 rfl rfl rfl rfl (OpV.mono (v_load T.scal_3 rfl) (fun w hw => by exact sat_cell hw (by (repeat first | with_reducible exact xH | apply xT); first | done | fail) rfl)) (by exact hw) ?_
  refine rs_k 4 rfl rfl (k_callf Try.func72 rfl rfl rfl rfl ?_)
  refine Calls.mono (compare_calls _ _ hw) ?_
  rintro _ w ⟨rfl, hw⟩
  refine ⟨_, rfl, ?_⟩
  refine ⟨fun _ => (by exact hw), ?_⟩
  refine rs_k 9 rfl rfl (k_callf Try.func72 rfl rfl rfl rfl ?_)
  refine Calls.mono (compare_calls _ _ hw) ?_
  rintro _ w ⟨rfl, hw⟩
  refine ⟨_, rfl, ?_⟩
  refine ⟨fun hn => absurd (by decide) hn, ?_⟩
  refine rs_k 10 rfl rfl (k_buildSlice (cells := [_, _]) hw T.sl_61_3_1 T.zero_3 rfl rfl rfl rfl rfl rfl (fun bk1_10 w hw => ?_))
  refine ⟨fun hn => absurd (by decide) hn, ?_⟩
  refine rs_k 11 rfl rfl (k_callf Try.func71 rfl rfl rfl rfl ?_)
  refine Calls.mono (or_calls _ _ (hw.xP)) ?_
  rintro _ w ⟨rfl, hw⟩
  refine ⟨_, rfl, ?_⟩
  refine ⟨fun hn => absurd (by decide) hn, ?_⟩
  refine rs_kv 12 rfl rfl rfl rfl (S' := fun _ => True) trivial (v_assign rfl) ?_
  refine rs_done (g_le (xK (xS rfl (xS rfl (xS rfl (xS rfl (xS rfl (xS rfl (xS rfl (xS rfl (xS rfl (xS rfl (xS rfl (xS rfl (Fr.le_refl _)))))))))))))) ?_)
  refine g_ret1 Try.func70 rfl rfl ?_
  exact ⟨rfl, hw.xQ⟩
end Go.Proofs.Ytipdklbedpkobaa
