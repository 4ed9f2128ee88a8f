/-
  Nodes of a tree, told by a heap; how they are compared.
-/
import Derived.Test.YtlgpdglnfjndhaaT
namespace Go.Proofs.Ytlgpdglnfjndhaa
set_option maxRecDepth 8000
set_option linter.unusedSimpArgs false
set_option linter.unusedVariables false
open Go Xe

structure Vn where
  no : Int
  value : ByteArray
  note : ByteArray
instance : DecidableEq Vn := fun a b => decidable_of_iff (a.no = b.no ∧ a.value = b.value ∧ a.note = b.note) (by cases a; cases b; simp)
@[reducible] def Vn.cells (x : Vn) : List Value := [.int .i64 x.no, .string x.value, .string x.note]
def Vn.ok (x : Vn) : Prop := (Lit.int .i64 x.no).wf = true ∧ x.value.size ≤ reachBytes ∧ x.note.size ≤ reachBytes
def rdVn : Rd Vn := fun _ cs x => cs = x.cells ∧ x.ok
theorem mono_Vn : Rd.Mono rdVn := fun _ _ _ h => h
theorem one_Vn : Rd.One rdVn := fun h => by rw [h.1]; simp [Value.oneCell']
theorem eq_Vn (x y : Vn) : cellsEq x.cells y.cells = some (decide (x = y)) := by
  simp only [cellsEq, cellEq, if_true, Bool.and_true, Option.some.injEq]
  by_cases h : x = y
  · subst h; simp
  · rw [decide_eq_false h]
    refine Bool.eq_false_iff.2 fun h2 => h ?_
    simp only [Bool.and_eq_true, decide_eq_true_eq, beq_iff_eq] at h2
    obtain ⟨_, _, _⟩ := x
    obtain ⟨_, _, _⟩ := y
    simp_all
theorem reads_Vn {H : Type} {enc : TypeId × Value → H} : Reads enc Try.prog 136 rdVn := fun w fuel cs d ps h hz => by
  have hl := reads_length T.agg_136_3 (by kernel_rfl) h hz
  obtain ⟨c0, c1, c2, rfl⟩ : ∃ c0 c1 c2, cs = [c0, c1, c2] := by
    match cs, hl with
    | [c0, c1, c2], _ => exact ⟨_, _, _, rfl⟩
  obtain ⟨x0, h0⟩ := reads_field (i := 0) (off := 0) (k := 1) (ft := 3) (by kernel_rfl) h hz (reads_int T.int_3_i64)
  obtain ⟨x1, h1⟩ := reads_field (i := 1) (off := 1) (k := 1) (ft := 9) (by kernel_rfl) h hz (reads_str T.str_9)
  obtain ⟨x2, h2⟩ := reads_field (i := 2) (off := 2) (k := 1) (ft := 9) (by kernel_rfl) h hz (reads_str T.str_9)
  obtain ⟨e0, k0⟩ := h0
  obtain ⟨e1, k1⟩ := h1
  obtain ⟨e2, k2⟩ := h2
  simp only [List.drop_zero, List.drop_succ_cons, List.take_succ_cons, List.take_zero, List.cons.injEq, and_true] at e0 e1 e2
  obtain rfl := e0
  obtain rfl := e1
  obtain rfl := e2
  exact ⟨⟨x0, x1, x2⟩, rfl, k0, k1, k2⟩
structure En where
  name : ByteArray
  versions : (List Vn)
instance : DecidableEq En := fun a b => decidable_of_iff (a.name = b.name ∧ a.versions = b.versions) (by cases a; cases b; simp)
def rdEn : Rd En := fun w cs x => ∃ c0 c1, cs = [c0, c1] ∧ rdStr w [c0] x.name ∧ (rdSl 40 3 rdVn) w [c1] x.versions
theorem mono_En : Rd.Mono rdEn := fun l cs x h => by
  obtain ⟨c0, c1, rfl, h0, h1⟩ := h
  exact ⟨_, _, rfl, mono_str l h0, (mono_sl @mono_Vn) l h1⟩
theorem one_En : Rd.One rdEn := fun h => by
  obtain ⟨c0, c1, rfl, h0, h1⟩ := h
  intro u hu
  simp only [List.mem_cons, List.not_mem_nil, or_false] at hu
  rcases hu with rfl | rfl
  · exact one_str h0 _ (by simp)
  · exact one_sl h1 _ (by simp)
theorem reads_En {H : Type} {enc : TypeId × Value → H} : Reads enc Try.prog 126 rdEn := fun w fuel cs d ps h hz => by
  have hl := reads_length T.agg_126_2 (by kernel_rfl) h hz
  obtain ⟨c0, c1, rfl⟩ : ∃ c0 c1, cs = [c0, c1] := by
    match cs, hl with
    | [c0, c1], _ => exact ⟨_, _, rfl⟩
  obtain ⟨x0, h0⟩ := reads_field (i := 0) (off := 0) (k := 1) (ft := 9) (by kernel_rfl) h hz (reads_str T.str_9)
  obtain ⟨x1, h1⟩ := reads_field (i := 1) (off := 1) (k := 1) (ft := 124) (by kernel_rfl) h hz (reads_sl T.sl_124_136_3 T.bytes_136_40 (by decide) reads_Vn)
  exact ⟨⟨x0, x1⟩, _, _, rfl, h0, h1⟩
structure Rf where
  key : Int
  seg : Int
  off : Int
  len : Int
instance : DecidableEq Rf := fun a b => decidable_of_iff (a.key = b.key ∧ a.seg = b.seg ∧ a.off = b.off ∧ a.len = b.len) (by cases a; cases b; simp)
@[reducible] def Rf.cells (x : Rf) : List Value := [.int .u64 x.key, .int .i64 x.seg, .int .i64 x.off, .int .i64 x.len]
def Rf.ok (x : Rf) : Prop := (Lit.int .u64 x.key).wf = true ∧ (Lit.int .i64 x.seg).wf = true ∧ (Lit.int .i64 x.off).wf = true ∧ (Lit.int .i64 x.len).wf = true
def rdRf : Rd Rf := fun _ cs x => cs = x.cells ∧ x.ok
theorem mono_Rf : Rd.Mono rdRf := fun _ _ _ h => h
theorem one_Rf : Rd.One rdRf := fun h => by rw [h.1]; simp [Value.oneCell']
theorem eq_Rf (x y : Rf) : cellsEq x.cells y.cells = some (decide (x = y)) := by
  simp only [cellsEq, cellEq, if_true, Bool.and_true, Option.some.injEq]
  by_cases h : x = y
  · subst h; simp
  · rw [decide_eq_false h]
    refine Bool.eq_false_iff.2 fun h2 => h ?_
    simp only [Bool.and_eq_true, decide_eq_true_eq, beq_iff_eq] at h2
    obtain ⟨_, _, _, _⟩ := x
    obtain ⟨_, _, _, _⟩ := y
    simp_all
theorem reads_Rf {H : Type} {enc : TypeId × Value → H} : Reads enc Try.prog 51 rdRf := fun w fuel cs d ps h hz => by
  have hl := reads_length T.agg_51_4 (by kernel_rfl) h hz
  obtain ⟨c0, c1, c2, c3, rfl⟩ : ∃ c0 c1 c2 c3, cs = [c0, c1, c2, c3] := by
    match cs, hl with
    | [c0, c1, c2, c3], _ => exact ⟨_, _, _, _, rfl⟩
  obtain ⟨x0, h0⟩ := reads_field (i := 0) (off := 0) (k := 1) (ft := 49) (by kernel_rfl) h hz (reads_int T.int_49_u64)
  obtain ⟨x1, h1⟩ := reads_field (i := 1) (off := 1) (k := 1) (ft := 3) (by kernel_rfl) h hz (reads_int T.int_3_i64)
  obtain ⟨x2, h2⟩ := reads_field (i := 2) (off := 2) (k := 1) (ft := 3) (by kernel_rfl) h hz (reads_int T.int_3_i64)
  obtain ⟨x3, h3⟩ := reads_field (i := 3) (off := 3) (k := 1) (ft := 3) (by kernel_rfl) h hz (reads_int T.int_3_i64)
  obtain ⟨e0, k0⟩ := h0
  obtain ⟨e1, k1⟩ := h1
  obtain ⟨e2, k2⟩ := h2
  obtain ⟨e3, k3⟩ := h3
  simp only [List.drop_zero, List.drop_succ_cons, List.take_succ_cons, List.take_zero, List.cons.injEq, and_true] at e0 e1 e2 e3
  obtain rfl := e0
  obtain rfl := e1
  obtain rfl := e2
  obtain rfl := e3
  exact ⟨⟨x0, x1, x2, x3⟩, rfl, k0, k1, k2, k3⟩
structure Kd where
  low : ByteArray
  ref : Rf
instance : DecidableEq Kd := fun a b => decidable_of_iff (a.low = b.low ∧ a.ref = b.ref) (by cases a; cases b; simp)
@[reducible] def Kd.cells (x : Kd) : List Value := [.string x.low, .int .u64 x.ref.key, .int .i64 x.ref.seg, .int .i64 x.ref.off, .int .i64 x.ref.len]
def Kd.ok (x : Kd) : Prop := x.low.size ≤ reachBytes ∧ x.ref.ok
def rdKd : Rd Kd := fun _ cs x => cs = x.cells ∧ x.ok
theorem mono_Kd : Rd.Mono rdKd := fun _ _ _ h => h
theorem one_Kd : Rd.One rdKd := fun h => by rw [h.1]; simp [Value.oneCell']
theorem eq_Kd (x y : Kd) : cellsEq x.cells y.cells = some (decide (x = y)) := by
  simp only [cellsEq, cellEq, if_true, Bool.and_true, Option.some.injEq]
  by_cases h : x = y
  · subst h; simp
  · rw [decide_eq_false h]
    refine Bool.eq_false_iff.2 fun h2 => h ?_
    simp only [Bool.and_eq_true, decide_eq_true_eq, beq_iff_eq] at h2
    obtain ⟨_, ⟨_, _, _, _⟩⟩ := x
    obtain ⟨_, ⟨_, _, _, _⟩⟩ := y
    simp_all
theorem reads_Kd {H : Type} {enc : TypeId × Value → H} : Reads enc Try.prog 101 rdKd := fun w fuel cs d ps h hz => by
  have hl := reads_length T.agg_101_5 (by kernel_rfl) h hz
  obtain ⟨c0, c1, c2, c3, c4, rfl⟩ : ∃ c0 c1 c2 c3 c4, cs = [c0, c1, c2, c3, c4] := by
    match cs, hl with
    | [c0, c1, c2, c3, c4], _ => exact ⟨_, _, _, _, _, rfl⟩
  obtain ⟨x0, h0⟩ := reads_field (i := 0) (off := 0) (k := 1) (ft := 9) (by kernel_rfl) h hz (reads_str T.str_9)
  obtain ⟨x1, h1⟩ := reads_field (i := 1) (off := 1) (k := 4) (ft := 51) (by kernel_rfl) h hz reads_Rf
  obtain ⟨e0, k0⟩ := h0
  obtain ⟨e1, k1⟩ := h1
  simp only [List.drop_zero, List.drop_succ_cons, List.take_succ_cons, List.take_zero, List.cons.injEq, and_true] at e0 e1
  obtain rfl := e0
  obtain ⟨rfl, rfl, rfl, rfl⟩ := e1
  exact ⟨⟨x0, x1⟩, rfl, k0, k1⟩
structure Nd where
  leaf : Bool
  entries : (List En)
  kids : (List Kd)
instance : DecidableEq Nd := fun a b => decidable_of_iff (a.leaf = b.leaf ∧ a.entries = b.entries ∧ a.kids = b.kids) (by cases a; cases b; simp)
def rdNd : Rd Nd := fun w cs x => ∃ c0 c1 c2, cs = [c0, c1, c2] ∧ rdBool w [c0] x.leaf ∧ (rdSl 40 2 rdEn) w [c1] x.entries ∧ (rdSl 48 5 rdKd) w [c2] x.kids
theorem mono_Nd : Rd.Mono rdNd := fun l cs x h => by
  obtain ⟨c0, c1, c2, rfl, h0, h1, h2⟩ := h
  exact ⟨_, _, _, rfl, mono_bool l h0, (mono_sl @mono_En) l h1, (mono_sl @mono_Kd) l h2⟩
theorem one_Nd : Rd.One rdNd := fun h => by
  obtain ⟨c0, c1, c2, rfl, h0, h1, h2⟩ := h
  intro u hu
  simp only [List.mem_cons, List.not_mem_nil, or_false] at hu
  rcases hu with rfl | rfl | rfl
  · exact one_bool h0 _ (by simp)
  · exact one_sl h1 _ (by simp)
  · exact one_sl h2 _ (by simp)
theorem reads_Nd {H : Type} {enc : TypeId × Value → H} : Reads enc Try.prog 48 rdNd := fun w fuel cs d ps h hz => by
  have hl := reads_length T.agg_48_3 (by kernel_rfl) h hz
  obtain ⟨c0, c1, c2, rfl⟩ : ∃ c0 c1 c2, cs = [c0, c1, c2] := by
    match cs, hl with
    | [c0, c1, c2], _ => exact ⟨_, _, _, rfl⟩
  obtain ⟨x0, h0⟩ := reads_field (i := 0) (off := 0) (k := 1) (ft := 4) (by kernel_rfl) h hz (reads_bool T.bool_4)
  obtain ⟨x1, h1⟩ := reads_field (i := 1) (off := 1) (k := 1) (ft := 45) (by kernel_rfl) h hz (reads_sl T.sl_45_126_2 T.bytes_126_40 (by decide) reads_En)
  obtain ⟨x2, h2⟩ := reads_field (i := 2) (off := 2) (k := 1) (ft := 46) (by kernel_rfl) h hz (reads_sl T.sl_46_101_5 T.bytes_101_48 (by decide) reads_Kd)
  exact ⟨⟨x0, x1, x2⟩, _, _, _, rfl, h0, h1, h2⟩

theorem ord_f85_r6_N06 : orderOfB Try.f85 6 [] (.a 0 (.a 1 (.a 2 (.a 4 (.a 5 (.a 6 (.v 3 (.k 7 (.k 8 .done))))))))) = true := by kernel_rfl
theorem likeVersions_calls {E : Env} {w : World} {L : List As} {g : Hp} {a a' : Option Addr} {n n' c c' : Nat} {xs ys : List Vn} (h1 : (rdSl 40 3 rdVn) g [.slice a n c] xs) (h2 : (rdSl 40 3 rdVn) g [.slice a' n' c'] ys)
    (hw : Sat E w (RO g :: L)) :
    Calls Try.prog 85 #[.slice a n c, .slice a' n' c'] w fun e w' => e = .returned (.bool (decide (xs = ys))) ∧ Sat E w' (RO g :: L) := by
  obtain ⟨rfl, hb1, hc1, hm1, g1⟩ := rdSl_get h1
  obtain ⟨rfl, hb2, hc2, hm2, g2⟩ := rdSl_get h2
  simp only [reachBytes] at hb1 hb2
  refine calls_of_g (n := 26) Try.func85 rfl rfl rfl ?_
  change G _ _ _ _ _ [(0, _), (1, _)] _
  refine g_seq ?_
  refine g_region ?_
  refine xV rfl rfl rfl (v_assign rfl) ?_
  refine rl_nil (g_le (xK (Fr.le_refl _)) ?_)
  refine g_seq (g_seq ?_)
  refine g_region ?_
  refine xV rfl rfl rfl (v_move rfl) ?_
  refine xV rfl rfl rfl (v_lenSlice T.sl_124_136_3 rfl) ?_
  refine xV rfl rfl rfl (v_move rfl) ?_
  refine xV rfl rfl rfl (v_lenSlice T.sl_124_136_3 rfl) ?_
  refine xV rfl rfl rfl (v_neq rfl rfl) ?_
  refine rl_nil (g_le (xK (xS rfl (xS rfl (xS rfl (xS rfl (Fr.le_refl _)))))) ?_)
  refine g_cond rfl (fun h1 => ?_) (fun h1 => ?_)
  · try with_reducible exact ft_elim h1
    all_goals
      try replace h1 := of_decide_eq_true h1
      refine g_seq ?_
      refine g_region ?_
      refine xV rfl rfl rfl (v_assign rfl) ?_
      refine rl_nil (g_le (xK (Fr.le_refl _)) ?_)
      refine g_ret1 Try.func85 rfl rfl ?_
      refine ⟨?_, hw⟩
      rw [decide_eq_false (fun h => h1 (by rw [h]))]
  · try with_reducible exact tf_elim h1
    all_goals
      try replace h1 := of_decide_eq_false h1
      refine g_skip (g_seq (g_seq ?_))
      refine g_region ?_
      refine xV rfl rfl rfl (v_move rfl) ?_
      refine xV rfl rfl rfl (v_lenSlice T.sl_124_136_3 rfl) ?_
      refine xV rfl rfl rfl (v_move rfl) ?_
      refine rl_nil (g_le (xK (xK (xS rfl (Fr.le_refl _)))) ?_)
      refine g_block ?_
      refine g_loopC (σ := Int) (fun C x => (13, .int .i64 x) :: C) [(0, _), (1, _), (4, _), (12, _)] (by repeat (first | exact Fr.le_nil _ | refine Fr.le_cons rfl ?_)) (fun x w => 0 ≤ x ∧ x ≤ xs.length ∧ xs.take x.toNat = ys.take x.toNat ∧ Sat E w (RO g :: L)) (fun x => (xs.length - x).toNat) ?_ 0 (by repeat (first | exact Fr.le_nil _ | refine Fr.le_cons rfl ?_)) ⟨by omega, by omega, by simp, hw⟩
      rintro i w ⟨hi0, hi1, heq, hw⟩ ih
      refine g_seq ?_
      refine g_region ?_
      refine xV rfl rfl rfl (v_lss rfl rfl) ?_
      refine rl_nil (g_le (xK (Fr.le_refl _)) ?_)
      refine g_seq ?_
      refine g_cond rfl (fun h2 => ?_) (fun h2 => ?_)
      · try with_reducible exact ft_elim h2
        all_goals
          try replace h2 := of_decide_eq_true h2
          refine g_skip (g_seq (g_block (g_seq ?_)))
          obtain ⟨b1, o1, x, ecs, rfl, hx, hat1, _, rfl, _⟩ := g1 i hi0 (by omega)
          obtain ⟨b2, o2, y, ecs, rfl, hy, hat2, _, rfl, _⟩ := g2 i hi0 (by omega)
          refine g_region ?_
          refine xV rfl rfl rfl (v_move rfl) ?_
          refine xV rfl rfl rfl (v_assign rfl) ?_
          refine rl_nil (g_le (xK (xK (Fr.le_refl _))) ?_)
          refine g_seq ?_
          refine g_drawR ord_f85_r6_N06 (by kernel_rfl) T.mixed hw (fun w hw => ?_)
          refine rs_a 0 rfl rfl rfl rfl (v_move rfl) ?_
          refine rs_a 1 rfl rfl rfl rfl (v_move rfl) ?_
          refine rs_a 2 rfl rfl rfl rfl (v_indexAddr T.sl_124_136_3 rfl rfl (by omega) (by omega)) ?_
          refine rs_a 4 rfl rfl rfl rfl (v_move rfl) ?_
          refine rs_a 5 rfl rfl rfl rfl (v_move rfl) ?_
          refine rs_a 6 rfl rfl rfl rfl (v_indexAddr T.sl_124_136_3 rfl rfl (by omega) (by omega)) ?_
          refine rs_v 3 rfl rfl rfl rfl (OpV.mono (v_loadAgg (vs := [_, _, _]) T.agg_136_3 rfl rfl) (fun w hw => by exact ro_ats hw (by (repeat first | with_reducible exact xH | apply xT); first | done | fail) (by assumption))) (by exact hw) ?_
          refine rs_kv 7 rfl rfl rfl rfl (by exact ro_ats hw (by (repeat first | with_reducible exact xH | apply xT); first | done | fail) (by assumption)) (v_loadAgg (vs := [_, _, _]) T.agg_136_3 rfl rfl) ?_
          refine rs_kv 8 rfl rfl rfl rfl (S' := fun _ => True) trivial (v_neqAgg T.cmp_136_iss rfl rfl rfl rfl (by exact eq_Vn _ _)) ?_
          refine rs_done (g_le (xK (xK (xK (xK (xK (xK (xK (xK (xK (Fr.le_refl _)))))))))) ?_)
          refine g_cond rfl (fun h3 => ?_) (fun h3 => ?_)
          · try with_reducible exact ft_elim h3
            all_goals
              try replace h3 := of_decide_eq_true h3
              have hne : ¬ x = y := by simpa using h3
              refine g_seq ?_
              refine g_region ?_
              refine xV rfl rfl rfl (v_assign rfl) ?_
              refine rl_nil (g_le (xK (Fr.le_refl _)) ?_)
              refine g_ret1 Try.func85 rfl rfl ?_
              refine ⟨?_, hw⟩
              rw [decide_eq_false (fun h => hne (by subst h; rw [hx] at hy; exact Option.some.inj hy))]
          · try with_reducible exact tf_elim h3
            all_goals
              try replace h3 := of_decide_eq_false h3
              have hne : x = y := by simpa using h3
              refine g_skip (g_inBlock ?_)
              refine g_region ?_
              refine xV rfl rfl rfl (v_add rfl rfl (by omega)) ?_
              refine xV rfl rfl rfl (v_move rfl) ?_
              refine rl_nil (g_le (xK (xK (Fr.le_refl _))) ?_)
              exact g_le (by repeat (first | exact Fr.le_nil _ | refine Fr.le_cons rfl ?_)) (ih (i + 1) w ⟨by omega, by omega, by rw [show (i + 1).toNat = i.toNat + 1 by omega, List.take_add_one, List.take_add_one, heq, hx, hy, hne], hw⟩ (by omega))
      · try with_reducible exact tf_elim h2
        all_goals
          try replace h2 := of_decide_eq_false h2
          refine g_exit rfl (g_seq ?_)
          refine g_region ?_
          refine xV rfl rfl rfl (v_assign rfl) ?_
          refine rl_nil (g_le (xK (Fr.le_refl _)) ?_)
          refine g_ret1 Try.func85 rfl rfl ?_
          refine ⟨?_, hw⟩
          have hi : i.toNat = xs.length := by omega
          rw [hi, List.take_length] at heq
          rw [decide_eq_true (by rw [heq, List.take_of_length_le (by omega)])]
theorem likeEn_calls {E : Env} {w : World} {L : List As} {g : Hp} {cs ds : List Value} {x y : En} (h1 : rdEn g cs x) (h2 : rdEn g ds y) (hw : Sat E w (RO g :: L)) :
    Calls Try.prog 59 #[.agg cs.toArray, .agg ds.toArray] w fun e w' => e = .returned (.bool (decide (x = y))) ∧ Sat E w' (RO g :: L) := by
  obtain ⟨c0, c1, rfl, ⟨e0, _⟩, hv1⟩ := h1
  obtain ⟨d0, d1, rfl, ⟨e1, _⟩, hv2⟩ := h2
  simp only [List.cons.injEq, and_true] at e0 e1
  subst e0 e1
  obtain ⟨a1, n1, k1, rfl⟩ := rdSl_shape hv1
  obtain ⟨a2, n2, k2, rfl⟩ := rdSl_shape hv2
  have key : decide (x = y) = (decide (x.name = y.name) && decide (x.versions = y.versions)) := by cases x; cases y; simp
  refine calls_of_g (n := 17) Try.func59 rfl rfl rfl ?_
  change G _ _ _ _ _ [(0, _), (1, _)] _
  refine g_seq ?_
  refine g_region ?_
  refine rl_k rfl (k_box hw rfl rfl rfl (fun bk0_0 w hw => ?_))
  refine rl_k rfl (k_box hw rfl rfl rfl (fun bk0_1 w hw => ?_))
  refine xV rfl rfl rfl (v_assign rfl) ?_
  refine rl_nil (g_le (xK (xK (xK (Fr.le_refl _)))) ?_)
  refine g_seq ?_
  refine g_region ?_
  refine xV rfl rfl rfl (v_fieldAddr0 T.fld_126_0_0 rfl) ?_
  refine rl_v rfl rfl rfl (by exact sat_cell hw (by (repeat first | with_reducible exact xH | apply xT); first | done | fail) rfl) (v_load T.scal_9 rfl) ?_
  refine xV rfl rfl rfl (v_fieldAddr0 T.fld_126_0_0 rfl) ?_
  refine rl_v rfl rfl rfl (by exact sat_cell hw (by (repeat first | with_reducible exact xH | apply xT); first | done | fail) rfl) (v_load T.scal_9 rfl) ?_
  refine xV rfl rfl rfl (v_eqlStr rfl rfl) ?_
  refine xV rfl rfl rfl (v_move rfl) ?_
  refine rl_split (s := 10) rfl (fun g1_5 => ?_) (fun g1_5 => ?_)
  · try with_reducible exact ft_elim g1_5
    all_goals
      try replace g1_5 := of_decide_eq_true g1_5
      refine rl_vg (met_on rfl rfl rfl rfl) rfl rfl (S := fun _ => True) trivial (v_fieldAddr0 T.fld_126_1_1 rfl) ?_
      refine rl_vg (met_on rfl rfl rfl rfl) rfl rfl (by exact sat_cell hw (by (repeat first | with_reducible exact xH | apply xT); first | done | fail) rfl) (v_load T.scal_124 rfl) ?_
      refine rl_vg (met_on rfl rfl rfl rfl) rfl rfl (S := fun _ => True) trivial (v_fieldAddr0 T.fld_126_1_1 rfl) ?_
      refine rl_vg (met_on rfl rfl rfl rfl) rfl rfl (by exact sat_cell hw (by (repeat first | with_reducible exact xH | apply xT); first | done | fail) rfl) (v_load T.scal_124 rfl) ?_
      refine rl_kg (met_on rfl rfl rfl rfl) (k_callf Try.func85 rfl rfl rfl rfl ?_)
      refine Calls.mono (likeVersions_calls hv1 hv2 (hw.xP)) ?_
      rintro _ w ⟨rfl, hw⟩
      refine ⟨_, rfl, ?_⟩
      refine xV rfl rfl rfl (v_pick_true rfl rfl) ?_
      refine xV rfl rfl rfl (v_assign rfl) ?_
      refine rl_nil (g_le (xK (xS rfl (xS rfl (xS rfl (xS rfl (xS rfl (xS rfl (xS rfl (xS rfl (xS rfl (xS rfl (xS rfl (xS rfl (xS rfl (Fr.le_refl _))))))))))))))) ?_)
      refine g_ret1 Try.func59 rfl rfl ?_
      refine ⟨?_, hw.xQ⟩
      rw [key]
      simp [g1_5]
  · try with_reducible exact tf_elim g1_5
    all_goals
      try replace g1_5 := of_decide_eq_false g1_5
      refine rl_off (met_off rfl rfl rfl rfl rfl) rfl rfl ?_
      refine rl_off (met_off rfl rfl rfl rfl rfl) rfl rfl ?_
      refine rl_off (met_off rfl rfl rfl rfl rfl) rfl rfl ?_
      refine rl_off (met_off rfl rfl rfl rfl rfl) rfl rfl ?_
      refine rl_off (met_off rfl rfl rfl rfl rfl) rfl rfl ?_
      refine xV rfl rfl rfl (v_pick_false rfl rfl) ?_
      refine xV rfl rfl rfl (v_assign rfl) ?_
      refine rl_nil (g_le (xK (xS rfl (xS rfl (xS rfl (xS rfl (xS rfl (xS rfl (xS rfl (xS rfl (xS rfl (xS rfl (xS rfl (xS rfl (xS rfl (Fr.le_refl _))))))))))))))) ?_)
      refine g_ret1 Try.func59 rfl rfl ?_
      refine ⟨?_, hw.xQ⟩
      rw [key]
      simp [g1_5]
theorem ord_f39_r6_N06 : orderOfB Try.f39 6 [8] (.a 0 (.a 1 (.a 2 (.a 4 (.a 5 (.a 6 (.v 3 (.k 7 (.k 8 (.k 9 .done)))))))))) = true := by kernel_rfl
theorem likeAll_calls {E : Env} {w : World} {L : List As} {g : Hp} {a a' : Option Addr} {n n' c c' : Nat} {xs ys : List En} (h1 : (rdSl 40 2 rdEn) g [.slice a n c] xs) (h2 : (rdSl 40 2 rdEn) g [.slice a' n' c'] ys)
    (hw : Sat E w (RO g :: L)) :
    Calls Try.prog 39 #[.slice a n c, .slice a' n' c'] w fun e w' => e = .returned (.bool (decide (xs = ys))) ∧ Sat E w' (RO g :: L) := by
  obtain ⟨rfl, hb1, hc1, hm1, g1⟩ := rdSl_get h1
  obtain ⟨rfl, hb2, hc2, hm2, g2⟩ := rdSl_get h2
  simp only [reachBytes] at hb1 hb2
  refine calls_of_g (n := 27) Try.func39 rfl rfl rfl ?_
  change G _ _ _ _ _ [(0, _), (1, _)] _
  refine g_seq ?_
  refine g_region ?_
  refine xV rfl rfl rfl (v_assign rfl) ?_
  refine rl_nil (g_le (xK (Fr.le_refl _)) ?_)
  refine g_seq (g_seq ?_)
  refine g_region ?_
  refine xV rfl rfl rfl (v_move rfl) ?_
  refine xV rfl rfl rfl (v_lenSlice T.sl_45_126_2 rfl) ?_
  refine xV rfl rfl rfl (v_move rfl) ?_
  refine xV rfl rfl rfl (v_lenSlice T.sl_45_126_2 rfl) ?_
  refine xV rfl rfl rfl (v_neq rfl rfl) ?_
  refine rl_nil (g_le (xK (xS rfl (xS rfl (xS rfl (xS rfl (Fr.le_refl _)))))) ?_)
  refine g_cond rfl (fun h1 => ?_) (fun h1 => ?_)
  · try with_reducible exact ft_elim h1
    all_goals
      try replace h1 := of_decide_eq_true h1
      refine g_seq ?_
      refine g_region ?_
      refine xV rfl rfl rfl (v_assign rfl) ?_
      refine rl_nil (g_le (xK (Fr.le_refl _)) ?_)
      refine g_ret1 Try.func39 rfl rfl ?_
      refine ⟨?_, hw⟩
      rw [decide_eq_false (fun h => h1 (by rw [h]))]
  · try with_reducible exact tf_elim h1
    all_goals
      try replace h1 := of_decide_eq_false h1
      refine g_skip (g_seq (g_seq ?_))
      refine g_region ?_
      refine xV rfl rfl rfl (v_move rfl) ?_
      refine xV rfl rfl rfl (v_lenSlice T.sl_45_126_2 rfl) ?_
      refine xV rfl rfl rfl (v_move rfl) ?_
      refine rl_nil (g_le (xK (xK (xS rfl (Fr.le_refl _)))) ?_)
      refine g_block ?_
      refine g_loopC (σ := Int) (fun C x => (13, .int .i64 x) :: C) [(0, _), (1, _), (4, _), (12, _)] (by repeat (first | exact Fr.le_nil _ | refine Fr.le_cons rfl ?_)) (fun x w => 0 ≤ x ∧ x ≤ xs.length ∧ xs.take x.toNat = ys.take x.toNat ∧ Sat E w (RO g :: L)) (fun x => (xs.length - x).toNat) ?_ 0 (by repeat (first | exact Fr.le_nil _ | refine Fr.le_cons rfl ?_)) ⟨by omega, by omega, by simp, hw⟩
      rintro i w ⟨hi0, hi1, heq, hw⟩ ih
      refine g_seq ?_
      refine g_region ?_
      refine xV rfl rfl rfl (v_lss rfl rfl) ?_
      refine rl_nil (g_le (xK (Fr.le_refl _)) ?_)
      refine g_seq ?_
      refine g_cond rfl (fun h2 => ?_) (fun h2 => ?_)
      · try with_reducible exact ft_elim h2
        all_goals
          try replace h2 := of_decide_eq_true h2
          refine g_skip (g_seq (g_block (g_seq ?_)))
          obtain ⟨b1, o1, x, ecs, rfl, hx, hat1, hl1, hr1⟩ := g1 i hi0 (by omega)
          obtain ⟨b2, o2, y, ecs', rfl, hy, hat2, hl2, hr2⟩ := g2 i hi0 (by omega)
          obtain ⟨q0, q1, rfl, p0, p1⟩ := id hr1
          obtain ⟨r0, r1, rfl, s0, s1⟩ := id hr2
          refine g_region ?_
          refine xV rfl rfl rfl (v_move rfl) ?_
          refine xV rfl rfl rfl (v_assign rfl) ?_
          refine rl_nil (g_le (xK (xK (Fr.le_refl _))) ?_)
          refine g_seq ?_
          refine g_drawR ord_f39_r6_N06 (by kernel_rfl) T.mixed hw (fun w hw => ?_)
          refine rs_a 0 rfl rfl rfl rfl (v_move rfl) ?_
          refine rs_a 1 rfl rfl rfl rfl (v_move rfl) ?_
          refine rs_a 2 rfl rfl rfl rfl (v_indexAddr T.sl_45_126_2 rfl rfl (by omega) (by omega)) ?_
          refine rs_a 4 rfl rfl rfl rfl (v_move rfl) ?_
          refine rs_a 5 rfl rfl rfl rfl (v_move rfl) ?_
          refine rs_a 6 rfl rfl rfl rfl (v_indexAddr T.sl_45_126_2 rfl rfl (by omega) (by omega)) ?_
          refine rs_v 3 rfl rfl rfl rfl (OpV.mono (v_loadAgg (vs := [_, _]) T.agg_126_2 rfl rfl) (fun w hw => by exact ro_ats hw (by (repeat first | with_reducible exact xH | apply xT); first | done | fail) (by assumption))) (by exact hw) ?_
          refine rs_kv 7 rfl rfl rfl rfl (by exact ro_ats hw (by (repeat first | with_reducible exact xH | apply xT); first | done | fail) (by assumption)) (v_loadAgg (vs := [_, _]) T.agg_126_2 rfl rfl) ?_
          refine rs_k 8 rfl rfl (k_callf Try.func59 rfl rfl rfl rfl ?_)
          refine Calls.mono (likeEn_calls hr1 hr2 (hw.xP)) ?_
          rintro _ w ⟨rfl, hw⟩
          refine ⟨_, rfl, ?_⟩
          refine ⟨fun hn => absurd (by decide) hn, ?_⟩
          refine rs_kv 9 rfl rfl rfl rfl (S' := fun _ => True) trivial (v_not rfl) ?_
          refine rs_done (g_le (xK (xK (xK (xK (xK (xK (xK (xK (xK (xK (Fr.le_refl _))))))))))) ?_)
          refine g_cond rfl (fun h3 => ?_) (fun h3 => ?_)
          · try with_reducible exact ft_elim h3
            all_goals
              try replace h3 := of_decide_eq_true h3
              have hne : ¬ x = y := by simpa using h3
              refine g_seq ?_
              refine g_region ?_
              refine xV rfl rfl rfl (v_assign rfl) ?_
              refine rl_nil (g_le (xK (Fr.le_refl _)) ?_)
              refine g_ret1 Try.func39 rfl rfl ?_
              refine ⟨?_, hw⟩
              rw [decide_eq_false (fun h => hne (by subst h; rw [hx] at hy; exact Option.some.inj hy))]
          · try with_reducible exact tf_elim h3
            all_goals
              try replace h3 := of_decide_eq_false h3
              have hne : x = y := by simpa using h3
              refine g_skip (g_inBlock ?_)
              refine g_region ?_
              refine xV rfl rfl rfl (v_add rfl rfl (by omega)) ?_
              refine xV rfl rfl rfl (v_move rfl) ?_
              refine rl_nil (g_le (xK (xK (Fr.le_refl _))) ?_)
              exact g_le (by repeat (first | exact Fr.le_nil _ | refine Fr.le_cons rfl ?_)) (ih (i + 1) w ⟨by omega, by omega, by rw [show (i + 1).toNat = i.toNat + 1 by omega, List.take_add_one, List.take_add_one, heq, hx, hy, hne], hw⟩ (by omega))
      · try with_reducible exact tf_elim h2
        all_goals
          try replace h2 := of_decide_eq_false h2
          refine g_exit rfl (g_seq ?_)
          refine g_region ?_
          refine xV rfl rfl rfl (v_assign rfl) ?_
          refine rl_nil (g_le (xK (Fr.le_refl _)) ?_)
          refine g_ret1 Try.func39 rfl rfl ?_
          refine ⟨?_, hw⟩
          have hi : i.toNat = xs.length := by omega
          rw [hi, List.take_length] at heq
          rw [decide_eq_true (by rw [heq, List.take_of_length_le (by omega)])]
theorem ord_f17_r6_N06 : orderOfB Try.f17 6 [] (.a 0 (.a 2 (.a 5 (.a 7 (.v 1 (.a 3 (.v 4 (.k 6 (.k 8 (.k 9 (.k 10 .done))))))))))) = true := by kernel_rfl
theorem likeNd_calls {E : Env} {w : World} {L : List As} {g : Hp} {cs ds : List Value} {x y : Nd} (h1 : rdNd g cs x) (h2 : rdNd g ds y) (hw : Sat E w (RO g :: L)) :
    Calls Try.prog 17 #[.agg cs.toArray, .agg ds.toArray] w fun e w' => e = .returned (.bool (decide (x = y))) ∧ Sat E w' (RO g :: L) := by
  obtain ⟨c0, c1, c2, rfl, e0, he1, hk1⟩ := h1
  obtain ⟨d0, d1, d2, rfl, e1, he2, hk2⟩ := h2
  simp only [rdBool, List.cons.injEq, and_true] at e0 e1
  subst e0 e1
  obtain ⟨a1, n1, k1, rfl⟩ := rdSl_shape he1
  obtain ⟨a2, n2, k2, rfl⟩ := rdSl_shape he2
  obtain ⟨a3, n3, k3, rfl⟩ := rdSl_shape hk1
  obtain ⟨a4, n4, k4, rfl⟩ := rdSl_shape hk2
  obtain ⟨rfl, hb1, hc1, hm1, g1⟩ := rdSl_get hk1
  obtain ⟨rfl, hb2, hc2, hm2, g2⟩ := rdSl_get hk2
  simp only [reachBytes] at hb1 hb2
  have key : x = y ↔ x.leaf = y.leaf ∧ x.entries = y.entries ∧ x.kids = y.kids := by cases x; cases y; simp
  refine calls_of_g (n := 46) Try.func17 rfl rfl rfl ?_
  change G _ _ _ _ _ [(0, _), (1, _)] _
  refine g_seq ?_
  refine g_region ?_
  refine rl_k rfl (k_box hw rfl rfl rfl (fun bk0_0 w hw => ?_))
  refine rl_k rfl (k_box hw rfl rfl rfl (fun bk0_1 w hw => ?_))
  refine xV rfl rfl rfl (v_assign rfl) ?_
  refine rl_nil (g_le (xK (xK (xK (Fr.le_refl _)))) ?_)
  refine g_seq (g_seq ?_)
  refine g_region ?_
  refine xV rfl rfl rfl (v_fieldAddr0 T.fld_48_0_0 rfl) ?_
  refine rl_v rfl rfl rfl (by exact sat_cell hw (by (repeat first | with_reducible exact xH | apply xT); first | done | fail) rfl) (v_load T.scal_4 rfl) ?_
  refine xV rfl rfl rfl (v_fieldAddr0 T.fld_48_0_0 rfl) ?_
  refine rl_v rfl rfl rfl (by exact sat_cell hw (by (repeat first | with_reducible exact xH | apply xT); first | done | fail) rfl) (v_load T.scal_4 rfl) ?_
  refine xV rfl rfl rfl (v_neqBool T.bool_4 rfl rfl) ?_
  refine xV rfl rfl rfl (v_move rfl) ?_
  refine rl_split (s := 11) rfl (fun g1_5 => ?_) (fun g1_5 => ?_)
  · try with_reducible exact ft_elim g1_5
    all_goals
      try replace g1_5 := of_decide_eq_true g1_5
      refine rl_off (met_off rfl rfl rfl rfl rfl) rfl rfl ?_
      refine rl_off (met_off rfl rfl rfl rfl rfl) rfl rfl ?_
      refine rl_off (met_off rfl rfl rfl rfl rfl) rfl rfl ?_
      refine rl_off (met_off rfl rfl rfl rfl rfl) rfl rfl ?_
      refine rl_off (met_off rfl rfl rfl rfl rfl) rfl rfl ?_
      refine rl_off (met_off rfl rfl rfl rfl rfl) rfl rfl ?_
      refine rl_off (met_off rfl rfl rfl rfl rfl) rfl rfl ?_
      refine xV rfl rfl rfl (v_pick_true rfl rfl) ?_
      refine xV rfl rfl rfl (v_move rfl) ?_
      refine rl_off (met_off rfl rfl rfl rfl rfl) rfl rfl ?_
      refine rl_off (met_off rfl rfl rfl rfl rfl) rfl rfl ?_
      refine rl_off (met_off rfl rfl rfl rfl rfl) rfl rfl ?_
      refine rl_off (met_off rfl rfl rfl rfl rfl) rfl rfl ?_
      refine rl_off (met_off rfl rfl rfl rfl rfl) rfl rfl ?_
      refine rl_off (met_off rfl rfl rfl rfl rfl) rfl rfl ?_
      refine xV rfl rfl rfl (v_pick_true rfl rfl) ?_
      refine rl_nil (g_le (xK (xS rfl (xS rfl (xS rfl (xS rfl (xS rfl (xS rfl (xS rfl (xS rfl (xS rfl (xS rfl (xS rfl (xS rfl (xS rfl (xS rfl (xS rfl (xS rfl (xS rfl (xS rfl (xS rfl (xS rfl (xS rfl (xS rfl (Fr.le_refl _)))))))))))))))))))))))) ?_)
      refine g_cond_true rfl ?_
      refine g_seq ?_
      refine g_region ?_
      refine xV rfl rfl rfl (v_assign rfl) ?_
      refine rl_nil (g_le (xK (Fr.le_refl _)) ?_)
      refine g_ret1 Try.func17 rfl rfl ?_
      refine ⟨?_, hw.xQ⟩
      rw [decide_eq_false (fun h => by subst h; simp_all)]
  · try with_reducible exact tf_elim g1_5
    all_goals
      try replace g1_5 := of_decide_eq_false g1_5
      refine rl_vg (met_on rfl rfl rfl rfl) rfl rfl (S := fun _ => True) trivial (v_fieldAddr0 T.fld_48_2_2 rfl) ?_
      refine rl_vg (met_on rfl rfl rfl rfl) rfl rfl (by exact sat_cell hw (by (repeat first | with_reducible exact xH | apply xT); first | done | fail) rfl) (v_load T.scal_46 rfl) ?_
      refine rl_vg (met_on rfl rfl rfl rfl) rfl rfl (S := fun _ => True) trivial (v_lenSlice T.sl_46_101_5 rfl) ?_
      refine rl_vg (met_on rfl rfl rfl rfl) rfl rfl (S := fun _ => True) trivial (v_fieldAddr0 T.fld_48_2_2 rfl) ?_
      refine rl_vg (met_on rfl rfl rfl rfl) rfl rfl (by exact sat_cell hw (by (repeat first | with_reducible exact xH | apply xT); first | done | fail) rfl) (v_load T.scal_46 rfl) ?_
      refine rl_vg (met_on rfl rfl rfl rfl) rfl rfl (S := fun _ => True) trivial (v_lenSlice T.sl_46_101_5 rfl) ?_
      refine rl_vg (met_on rfl rfl rfl rfl) rfl rfl (S := fun _ => True) trivial (v_neq rfl rfl) ?_
      refine xV rfl rfl rfl (v_pick_false rfl rfl) ?_
      refine xV rfl rfl rfl (v_move rfl) ?_
      refine rl_split (s := 20) rfl (fun g1_14 => ?_) (fun g1_14 => ?_)
      · try with_reducible exact ft_elim g1_14
        all_goals
          try replace g1_14 := of_decide_eq_true g1_14
          refine rl_off (met_off rfl rfl rfl rfl rfl) rfl rfl ?_
          refine rl_off (met_off rfl rfl rfl rfl rfl) rfl rfl ?_
          refine rl_off (met_off rfl rfl rfl rfl rfl) rfl rfl ?_
          refine rl_off (met_off rfl rfl rfl rfl rfl) rfl rfl ?_
          refine rl_off (met_off rfl rfl rfl rfl rfl) rfl rfl ?_
          refine rl_off (met_off rfl rfl rfl rfl rfl) rfl rfl ?_
          refine xV rfl rfl rfl (v_pick_true rfl rfl) ?_
          refine rl_nil (g_le (xK (xS rfl (xS rfl (xS rfl (xS rfl (xS rfl (xS rfl (xS rfl (xS rfl (xS rfl (xS rfl (xS rfl (xS rfl (xS rfl (xS rfl (xS rfl (xS rfl (xS rfl (xS rfl (xS rfl (xS rfl (xS rfl (xS rfl (xS rfl (Fr.le_refl _))))))))))))))))))))))))) ?_)
          refine g_cond_true rfl ?_
          refine g_seq ?_
          refine g_region ?_
          refine xV rfl rfl rfl (v_assign rfl) ?_
          refine rl_nil (g_le (xK (Fr.le_refl _)) ?_)
          refine g_ret1 Try.func17 rfl rfl ?_
          refine ⟨?_, hw.xQ⟩
          rw [decide_eq_false (fun h => by subst h; simp_all)]
      · try with_reducible exact tf_elim g1_14
        all_goals
          try replace g1_14 := of_decide_eq_false g1_14
          refine rl_vg (met_on rfl rfl rfl rfl) rfl rfl (S := fun _ => True) trivial (v_fieldAddr0 T.fld_48_1_1 rfl) ?_
          refine rl_vg (met_on rfl rfl rfl rfl) rfl rfl (by exact sat_cell hw (by (repeat first | with_reducible exact xH | apply xT); first | done | fail) rfl) (v_load T.scal_45 rfl) ?_
          refine rl_vg (met_on rfl rfl rfl rfl) rfl rfl (S := fun _ => True) trivial (v_fieldAddr0 T.fld_48_1_1 rfl) ?_
          refine rl_vg (met_on rfl rfl rfl rfl) rfl rfl (by exact sat_cell hw (by (repeat first | with_reducible exact xH | apply xT); first | done | fail) rfl) (v_load T.scal_45 rfl) ?_
          refine rl_kg (met_on rfl rfl rfl rfl) (k_callf Try.func39 rfl rfl rfl rfl ?_)
          refine Calls.mono (likeAll_calls he1 he2 (hw.xP)) ?_
          rintro _ w ⟨rfl, hw⟩
          refine ⟨_, rfl, ?_⟩
          refine rl_vg (met_on rfl rfl rfl rfl) rfl rfl (S := fun _ => True) trivial (v_not rfl) ?_
          refine xV rfl rfl rfl (v_pick_false rfl rfl) ?_
          refine rl_nil (g_le (xK (xS rfl (xS rfl (xS rfl (xS rfl (xS rfl (xS rfl (xS rfl (xS rfl (xS rfl (xS rfl (xS rfl (xS rfl (xS rfl (xS rfl (xS rfl (xS rfl (xS rfl (xS rfl (xS rfl (xS rfl (xS rfl (xS rfl (xS rfl (Fr.le_refl _))))))))))))))))))))))))) ?_)
          refine g_cond rfl (fun h1 => ?_) (fun h1 => ?_)
          · try with_reducible exact ft_elim h1
            all_goals
              try replace h1 := of_decide_eq_true h1
              refine g_seq ?_
              refine g_region ?_
              refine xV rfl rfl rfl (v_assign rfl) ?_
              refine rl_nil (g_le (xK (Fr.le_refl _)) ?_)
              refine g_ret1 Try.func17 rfl rfl ?_
              refine ⟨?_, hw.xQ⟩
              rw [decide_eq_false (fun h => by subst h; simp_all)]
          · try with_reducible exact tf_elim h1
            all_goals
              try replace h1 := of_decide_eq_false h1
              have hen : x.entries = y.entries := by simpa using h1
              refine g_skip (g_seq (g_seq ?_))
              refine g_region ?_
              refine xV rfl rfl rfl (v_fieldAddr0 T.fld_48_2_2 rfl) ?_
              refine rl_v rfl rfl rfl (by exact sat_cell hw (by (repeat first | with_reducible exact xH | apply xT); first | done | fail) rfl) (v_load T.scal_46 rfl) ?_
              refine xV rfl rfl rfl (v_lenSlice T.sl_46_101_5 rfl) ?_
              refine xV rfl rfl rfl (v_move rfl) ?_
              refine rl_nil (g_le (xK (xK (xS rfl (xS rfl (Fr.le_refl _))))) ?_)
              refine g_block ?_
              refine g_loopC (σ := Int) (fun C x => (31, .int .i64 x) :: C) [(2, _), (3, _), (4, _), (30, _)] (by repeat (first | exact Fr.le_nil _ | refine Fr.le_cons rfl ?_)) (fun z w => 0 ≤ z ∧ z ≤ x.kids.length ∧ x.kids.take z.toNat = y.kids.take z.toNat ∧ Sat E w (pt bk0_1 (.cells [.bool y.leaf, .slice a2 n2 k2, .slice a4 y.kids.length k4].toArray 48 (0, 0)) :: pt bk0_0 (.cells [.bool x.leaf, .slice a1 n1 k1, .slice a3 x.kids.length k3].toArray 48 (0, 0)) :: RO g :: L)) (fun z => (x.kids.length - z).toNat) ?_ 0 (by repeat (first | exact Fr.le_nil _ | refine Fr.le_cons rfl ?_)) ⟨by omega, by omega, by simp, hw.xQ⟩
              rintro i w ⟨hi0, hi1, heq, hw⟩ ih
              refine g_seq ?_
              refine g_region ?_
              refine xV rfl rfl rfl (v_lss rfl rfl) ?_
              refine rl_nil (g_le (xK (Fr.le_refl _)) ?_)
              refine g_seq ?_
              refine g_cond rfl (fun h2 => ?_) (fun h2 => ?_)
              · try with_reducible exact ft_elim h2
                all_goals
                  try replace h2 := of_decide_eq_true h2
                  refine g_skip (g_seq (g_block (g_seq ?_)))
                  obtain ⟨b3, o1, p, ecs, rfl, hx, hat1, _, rfl, _⟩ := g1 i hi0 (by omega)
                  obtain ⟨b4, o2, q, ecs, rfl, hy, hat2, _, rfl, _⟩ := g2 i hi0 (by omega)
                  refine g_region ?_
                  refine xV rfl rfl rfl (v_move rfl) ?_
                  refine xV rfl rfl rfl (v_assign rfl) ?_
                  refine rl_nil (g_le (xK (xK (Fr.le_refl _))) ?_)
                  refine g_seq ?_
                  refine g_drawR ord_f17_r6_N06 (by kernel_rfl) T.mixed hw (fun w hw => ?_)
                  refine rs_a 0 rfl rfl rfl rfl (v_fieldAddr0 T.fld_48_2_2 rfl) ?_
                  refine rs_a 2 rfl rfl rfl rfl (v_move rfl) ?_
                  refine rs_a 5 rfl rfl rfl rfl (v_fieldAddr0 T.fld_48_2_2 rfl) ?_
                  refine rs_a 7 rfl rfl rfl rfl (v_move rfl) ?_
                  refine rs_v 1 rfl rfl rfl rfl (OpV.mono (v_load T.scal_46 rfl) (fun w hw => by exact sat_cell hw (by (repeat first | with_reducible exact xH | apply xT); first | done | fail) rfl)) (by exact hw) ?_
                  refine rs_a 3 rfl rfl rfl rfl (v_indexAddr T.sl_46_101_5 rfl rfl (by omega) (by omega)) ?_
                  refine rs_v 4 rfl rfl rfl rfl (OpV.mono (v_loadAgg (vs := [_, _, _, _, _]) T.agg_101_5 rfl rfl) (fun w hw => by exact ro_ats hw (by (repeat first | with_reducible exact xH | apply xT); first | done | fail) (by assumption))) (by exact hw) ?_
                  refine rs_kv 6 rfl rfl rfl rfl (by exact sat_cell hw (by (repeat first | with_reducible exact xH | apply xT); first | done | fail) rfl) (v_load T.scal_46 rfl) ?_
                  refine rs_kv 8 rfl rfl rfl rfl (S' := fun _ => True) trivial (v_indexAddr T.sl_46_101_5 rfl rfl (by omega) (by omega)) ?_
                  refine rs_kv 9 rfl rfl rfl rfl (by exact ro_ats hw (by (repeat first | with_reducible exact xH | apply xT); first | done | fail) (by assumption)) (v_loadAgg (vs := [_, _, _, _, _]) T.agg_101_5 rfl rfl) ?_
                  refine rs_kv 10 rfl rfl rfl rfl (S' := fun _ => True) trivial (v_neqAggN T.cmpN_101_csniiii rfl rfl rfl rfl (by exact eq_Kd _ _)) ?_
                  refine rs_done (g_le (xK (xK (xK (xK (xK (xK (xK (xK (xK (xK (xK (Fr.le_refl _)))))))))))) ?_)
                  refine g_cond rfl (fun h3 => ?_) (fun h3 => ?_)
                  · try with_reducible exact ft_elim h3
                    all_goals
                      try replace h3 := of_decide_eq_true h3
                      have hne : ¬ p = q := by simpa using h3
                      refine g_seq ?_
                      refine g_region ?_
                      refine xV rfl rfl rfl (v_assign rfl) ?_
                      refine rl_nil (g_le (xK (Fr.le_refl _)) ?_)
                      refine g_ret1 Try.func17 rfl rfl ?_
                      refine ⟨?_, hw.xQ⟩
                      rw [decide_eq_false (fun h => hne (by subst h; rw [hx] at hy; exact Option.some.inj hy))]
                  · try with_reducible exact tf_elim h3
                    all_goals
                      try replace h3 := of_decide_eq_false h3
                      have hne : p = q := by simpa using h3
                      refine g_skip (g_inBlock ?_)
                      refine g_region ?_
                      refine xV rfl rfl rfl (v_add rfl rfl (by omega)) ?_
                      refine xV rfl rfl rfl (v_move rfl) ?_
                      refine rl_nil (g_le (xK (xK (Fr.le_refl _))) ?_)
                      exact g_le (by repeat (first | exact Fr.le_nil _ | refine Fr.le_cons rfl ?_)) (ih (i + 1) w ⟨by omega, by omega, by rw [show (i + 1).toNat = i.toNat + 1 by omega, List.take_add_one, List.take_add_one, heq, hx, hy, hne], hw.xQ⟩ (by omega))
              · try with_reducible exact tf_elim h2
                all_goals
                  try replace h2 := of_decide_eq_false h2
                  refine g_exit rfl (g_seq ?_)
                  refine g_region ?_
                  refine xV rfl rfl rfl (v_assign rfl) ?_
                  refine rl_nil (g_le (xK (Fr.le_refl _)) ?_)
                  refine g_ret1 Try.func17 rfl rfl ?_
                  refine ⟨?_, hw.xQ⟩
                  have hi : i.toNat = x.kids.length := by omega
                  rw [hi, List.take_length] at heq
                  rw [decide_eq_true (key.2 ⟨by simpa using g1_5, hen, by rw [heq, List.take_of_length_le (by omega)]⟩)]
end Go.Proofs.Ytlgpdglnfjndhaa
