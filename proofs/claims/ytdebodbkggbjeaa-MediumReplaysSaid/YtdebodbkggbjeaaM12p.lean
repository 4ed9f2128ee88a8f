/-
  The medium (layer 12): Past.
-/
import Derived.Test.YtdebodbkggbjeaaM12b
import Derived.Test.YtdebodbkggbjeaaX17
import Derived.Test.YtdebodbkggbjeaaX13
namespace Go.Proofs.Ytdebodbkggbjeaa
set_option maxRecDepth 8000
set_option linter.unusedSimpArgs false
set_option linter.unusedVariables false
open Go Xe Go.Lib
theorem wr_len (xs : List Wr) : (xs.flatMap wrCells).length = xs.length * 3 := by
  induction xs with
  | nil => rfl
  | cons y ys ih => rw [List.flatMap_cons, List.length_append, ih, List.length_cons]; show 3 + ys.length * 3 = _; omega
theorem wr_ones (xs : List Wr) : ∀ u ∈ xs.flatMap wrCells, u.oneCell' = true := fun u hu => by
  obtain ⟨x, _, hu⟩ := List.mem_flatMap.1 hu
  simp only [wrCells, List.mem_cons, List.not_mem_nil, or_false] at hu
  rcases hu with rfl | rfl | rfl <;> rfl
theorem subAt_whole (xs : List Value) : SubAt xs 0 xs := by have h := subAt_slice (xs := xs) xs.length 0; simpa using h
theorem cloneWr_calls {E : Env} {w : World} {L : List As} {v : Value} {xs : List Wr} (hn : xs.length ≤ 4000000000000) (hw : Sat E w (OwnSl 57 3 (v) (xs : List Wr).length ((xs : List Wr).flatMap wrCells) :: L)) :
    Calls Try.prog 53 #[v] w fun e w' => ∃ v', e = .returned v' ∧ Sat E w' (OwnSl 57 3 (v') (xs : List Wr).length ((xs : List Wr).flatMap wrCells) :: OwnSl 57 3 (v) (xs : List Wr).length ((xs : List Wr).flatMap wrCells) :: L) := by
  obtain ⟨a, c, rfl, hc1, hc2, ha⟩ := hw.own_shape
  simp only [maxLen] at hc2
  have hlen := wr_len xs
  have hone := wr_ones xs
  refine calls_of_g (n := 8) Try.func53 rfl rfl rfl ?_
  change G _ _ _ _ _ [(0, _)] _
  refine g_seq ?_
  refine g_region ?_
  refine xV rfl rfl rfl (v_assign rfl) ?_
  refine rl_nil (g_le (xK (Fr.le_refl _)) ?_)
  refine g_seq (g_seq ?_)
  refine g_region ?_
  refine xV rfl rfl rfl (v_move rfl) ?_
  refine xV rfl rfl rfl (v_eqlSlNil T.sl_46_57_3 rfl rfl) ?_
  refine rl_nil (g_le (xK (xS rfl (Fr.le_refl _))) ?_)
  refine g_cond rfl (fun h1 => ?_) (fun h1 => ?_)
  · try with_reducible exact ft_elim h1
    all_goals
      try replace h1 := of_decide_eq_true h1
      have h0 : xs.length = 0 := by
        rcases Nat.eq_zero_or_pos xs.length with h | h
        · exact h
        · obtain ⟨g, rfl⟩ := ha h
          simp at h1
      refine g_seq ?_
      refine g_region ?_
      refine xV rfl rfl rfl (v_assign rfl) ?_
      refine rl_nil (g_le (xK (Fr.le_refl _)) ?_)
      refine g_ret1 Try.func53 rfl rfl ?_
      have hx := List.eq_nil_of_length_eq_zero h0
      subst hx
      exact ⟨_, rfl, hw.own_nil _ _⟩
  · try with_reducible exact tf_elim h1
    all_goals
      try replace h1 := of_decide_eq_false h1
      refine g_skip (g_seq ?_)
      refine g_region ?_
      refine rl_k rfl (k_buildSlice0 hw T.sl_46_57_3 T.zero_57 rfl (fun bk3_0 w hw => ?_))
      refine xV rfl rfl rfl (v_move rfl) ?_
      have hsrc : SrcAt w a xs.length (xs.flatMap wrCells) := by
        rcases Nat.eq_zero_or_pos xs.length with h0 | h0
        · exact .inl ⟨h0, List.eq_nil_of_length_eq_zero (by rw [hlen, h0])⟩
        · obtain ⟨g, rfl⟩ := ha h0
          exact .inr ⟨g, 0, rfl, own_cells hw (by (repeat first | with_reducible exact xH | apply xT); first | done | fail) (subAt_whole _)⟩
      refine rl_k rfl (k_appendS hw T.sl_46_57_3 T.zero_57 T.bytes_57_32 rfl (by decide) rfl rfl (by (repeat first | with_reducible exact xH | apply xT); first | done | fail) (by assumption) (by assumption) (by assumption) (by omega) (by simp only [maxLen] at *; omega) rfl (fun vv3_2 w hw hnil => ?_))
      rw [Nat.zero_add, List.nil_append] at hw
      refine xV rfl rfl rfl (v_assign rfl) ?_
      refine rl_nil (g_le (xK (xS rfl (xS rfl (xS rfl (Fr.le_refl _))))) ?_)
      refine g_ret1 Try.func53 rfl rfl ?_
      exact ⟨_, rfl, hw.xQ⟩
theorem valuesWr_calls {E : Env} {w : World} {L : List As} (a : Option Addr) (n c : Nat) (hw : Sat E w L) :
    Calls Try.prog 52 #[.slice a n c] w fun e w' => ∃ q, e = .returned (.func (.func 60) #[] #[.pointer (some ⟨q, 0, none⟩)]) ∧ Sat E w' (pt q (.cells [Value.slice a n c].toArray 46 (0, 0)) :: L) := by
  refine calls_of_g (n := 4) Try.func52 rfl rfl rfl ?_
  change G _ _ _ _ _ [(0, _)] _
  refine g_seq ?_
  refine g_region ?_
  refine rl_k rfl (k_box hw rfl rfl rfl (fun bk0_0 w hw => ?_))
  refine xV rfl rfl rfl (v_assign rfl) ?_
  refine rl_nil (g_le (xK (xK (Fr.le_refl _))) ?_)
  refine g_seq ?_
  refine g_region ?_
  refine xV rfl rfl rfl (v_makeFunc rfl rfl) ?_
  refine xV rfl rfl rfl (v_assign rfl) ?_
  refine rl_nil (g_le (xK (xS rfl (Fr.le_refl _))) ?_)
  refine g_ret1 Try.func52 rfl rfl ?_
  exact ⟨_, rfl, hw⟩
theorem valuesWr_iter {E : Env} {a : Option Addr} {c : Nat} {xs : List Wr} (ha : 0 < xs.length → ∃ g, a = some ⟨g, 0, none⟩) (hn : xs.length ≤ 4000000000000) (q : Nat) :
    IterC Try.prog E 60 [.pointer (some ⟨q, 0, none⟩)] (xs.map fun x => [Value.agg [Value.int .i64 x.1, .int .i64 x.2.1, .string x.2.2].toArray]) (stars [pt q (.cells [Value.slice a xs.length c].toArray 46 (0, 0)), OwnSl 57 3 ((.slice a xs.length c)) (xs : List Wr).length ((xs : List Wr).flatMap wrCells)]) (stars [pt q (.cells [Value.slice a xs.length c].toArray 46 (0, 0)), OwnSl 57 3 ((.slice a xs.length c)) (xs : List Wr).length ((xs : List Wr).flatMap wrCells)]) := by
  intro yl I M w hround hw
  have hw := Sat.flat (X := [_, _]) (hw.pick .at1)
  dsimp only [List.append, List.cons_append, List.nil_append] at hw
  refine calls_of_g (n := 16) Try.func60 rfl rfl rfl ?_
  change G _ _ _ _ _ [(0, _), (1, _)] _
  refine g_seq ?_
  refine g_region ?_
  refine rl_v rfl rfl rfl (by exact sat_cell hw (by (repeat first | with_reducible exact xH | apply xT); first | done | fail) rfl) (v_load T.scal_46 rfl) ?_
  refine xV rfl rfl rfl (v_lenSlice T.sl_46_57_3 rfl) ?_
  refine xV rfl rfl rfl (v_move rfl) ?_
  refine rl_nil (g_le (xK (xK (xK (Fr.le_refl _)))) ?_)
  refine g_block ?_
  refine g_loopC (σ := Nat) (fun C x => (7, .int .i64 (x : Nat)) :: C) [(0, _), (5, _), (6, _)] (by repeat (first | exact Fr.le_nil _ | refine Fr.le_cons rfl ?_)) (fun z w => z ≤ xs.length ∧ Sat E w (I z :: pt q (.cells [Value.slice a xs.length c].toArray 46 (0, 0)) :: OwnSl 57 3 ((.slice a xs.length c)) (xs : List Wr).length ((xs : List Wr).flatMap wrCells) :: M)) (fun z => xs.length - z) ?_ 0 (by repeat (first | exact Fr.le_nil _ | refine Fr.le_cons rfl ?_)) ⟨by simp, hw.xQ⟩
  rintro i w ⟨hi, hw⟩ ih
  refine g_seq ?_
  refine g_region ?_
  refine xV rfl rfl rfl (v_lss rfl rfl) ?_
  refine rl_nil (g_le (xK (Fr.le_refl _)) ?_)
  refine g_seq ?_
  refine g_cond rfl (fun h1 => ?_) (fun h1 => ?_)
  · try with_reducible exact ft_elim h1
    all_goals
      try replace h1 := of_decide_eq_true h1
      refine g_skip (g_seq (g_block (g_seq ?_)))
      have hlt : i < xs.length := by omega
      have hx : xs[i]? = some xs[i] := List.getElem?_eq_getElem hlt
      generalize xs[i] = x at hx
      obtain ⟨g, rfl⟩ := ha (by omega)
      have hsub := subAt_flat (f := wrCells) (sz := 3) (fun _ => rfl) hx
      rw [show 0 + i * 3 = 0 + (i : Int).toNat * 3 by omega] at hsub
      dsimp only [wrCells] at hsub
      refine g_region ?_
      refine xV rfl rfl rfl (v_indexAddr T.sl_46_57_3 rfl rfl (by omega) (by omega)) ?_
      refine rl_v rfl rfl rfl (by exact own_cells hw (by (repeat first | with_reducible exact xH | apply xT); first | done | fail) (by assumption)) (v_loadAgg (vs := [_, _, _]) T.agg_57_3 rfl rfl) ?_
      refine rl_k rfl (k_alloc hw T.zero_57 rfl rfl (fun bk2_2 w hw => ?_))
      refine rl_k rfl (k_storeWhole hw T.agg_57_3 rfl rfl (by simp [Value.oneCell']) rfl (by (repeat first | with_reducible exact xH | apply xT); first | done | fail) rfl (fun w hw => ?_))
      refine rl_nil (g_le (xK (xK (xK (Fr.le_refl _)))) ?_)
      refine g_seq ?_
      refine g_region ?_
      refine xV rfl rfl rfl (v_move rfl) ?_
      refine rl_v rfl rfl rfl (by exact sat_cells hw (by (repeat first | with_reducible exact xH | apply xT); first | done | fail) ⟨rfl, rfl, rfl, trivial⟩) (v_loadAgg (vs := [_, _, _]) T.agg_57_3 rfl rfl) ?_
      refine rl_yield rfl rfl rfl (YCalls.mono (hround i _ (pt bk2_2 (.cells [Value.int .i64 x.1, .int .i64 x.2.1, .string x.2.2].toArray 57 (0, 0)) :: pt q (.cells [Value.slice (some ⟨g, 0, none⟩) xs.length c].toArray 46 (0, 0)) :: OwnSl 57 3 ((.slice (some ⟨g, 0, none⟩) xs.length c)) (xs : List Wr).length ((xs : List Wr).flatMap wrCells) :: M) _ (by rw [List.getElem?_map, hx]; rfl) (hw.xQ)) ?_)
      rintro _ w ⟨rfl, hw⟩
      refine ⟨_, rfl, ?_⟩
      refine xV rfl rfl rfl (v_not rfl) ?_
      refine rl_nil (g_le (xK (xK (xK (xK (Fr.le_refl _))))) ?_)
      refine g_cond_false rfl ?_
      refine g_skip (g_inBlock ?_)
      refine g_region ?_
      refine xV rfl rfl rfl (v_add rfl rfl (by omega)) ?_
      refine xV rfl rfl rfl (v_move rfl) ?_
      refine rl_nil (g_le (xK (xK (Fr.le_refl _))) ?_)
      exact g_le (by repeat (first | exact Fr.le_nil _ | refine Fr.le_cons rfl ?_)) (ih (i + 1) w ⟨by omega, hw.xQ⟩ (by omega))
  · try with_reducible exact tf_elim h1
    all_goals
      try replace h1 := of_decide_eq_false h1
      refine g_exit rfl ?_
      refine g_end0 Try.func60 rfl ?_
      refine ⟨⟨_, rfl⟩, ?_⟩
      obtain rfl : i = xs.length := by omega
      rw [List.length_map]
      exact (Sat.unflat (X := [_, _]) (hw.xQ : Sat E w ([pt q (.cells [Value.slice a xs.length c].toArray 46 (0, 0)), OwnSl 57 3 ((.slice a xs.length c)) (xs : List Wr).length ((xs : List Wr).flatMap wrCells)] ++ (I xs.length :: M)))).pick .at1
theorem past_calls {E : Env} {w : World} {L : List As} (m : Nat) (hw : Sat E w L) :
    Calls Try.prog 30 #[.pointer (some ⟨m, 0, none⟩)] w fun e w' => ∃ q, e = .returned (.func (.func 51) #[] #[.pointer (some ⟨q, 0, none⟩)]) ∧ Sat E w' (pt q (.cells [Value.pointer (some ⟨m, 0, none⟩)].toArray 42 (0, 0)) :: L) := by
  refine calls_of_g (n := 4) Try.func30 rfl rfl rfl ?_
  change G _ _ _ _ _ [(0, _)] _
  refine g_seq ?_
  refine g_region ?_
  refine rl_k rfl (k_box hw rfl rfl rfl (fun bk0_0 w hw => ?_))
  refine xV rfl rfl rfl (v_assign rfl) ?_
  refine rl_nil (g_le (xK (xK (Fr.le_refl _))) ?_)
  refine g_seq ?_
  refine g_region ?_
  refine xV rfl rfl rfl (v_makeFunc rfl rfl) ?_
  refine xV rfl rfl rfl (v_assign rfl) ?_
  refine rl_nil (g_le (xK (xS rfl (Fr.le_refl _))) ?_)
  refine g_ret1 Try.func30 rfl rfl ?_
  exact ⟨_, rfl, hw⟩
set_option maxHeartbeats 2000000 in
theorem past_iter {E : Env} {m p : Nat} {s : Md} (hpl : s.past.length ≤ 4000000000000) (q : Nat) :
    IterC Try.prog E 51 [.pointer (some ⟨q, 0, none⟩)] (s.past.map fun x => [Value.agg [Value.int .i64 x.1, .int .i64 x.2.1, .string x.2.2].toArray]) (stars [pt q (.cells [Value.pointer (some ⟨m, 0, none⟩)].toArray 42 (0, 0)), MdAt m p s]) (stars [pt q (.cells [Value.pointer (some ⟨m, 0, none⟩)].toArray 42 (0, 0)), MdAt m p s]) := by
  intro yl I M w hround hw
  have hw := Sat.flat (X := [_, _]) (hw.pick .at1)
  dsimp only [List.append, List.cons_append, List.nil_append] at hw
  obtain ⟨hok, g, cap, pa, pc, vs, _, _, _, hw⟩ := md_open (hw.pick .at1)
  refine calls_of_g (n := 15) Try.func51 rfl rfl rfl ?_
  change G _ _ _ _ _ [(0, _), (1, _)] _
  refine g_seq ?_
  refine g_region ?_
  refine rl_k rfl (k_box hw rfl rfl rfl (fun bk0_0 w hw => ?_))
  refine rl_nil (g_le (xK (Fr.le_refl _)) ?_)
  refine g_seq ?_
  refine g_region ?_
  refine rl_v rfl rfl rfl (by exact sat_cell hw (by (repeat first | with_reducible exact xH | apply xT); first | done | fail) rfl) (v_load T.scal_42 rfl) ?_
  refine xV rfl rfl rfl (v_nilCheck rfl) ?_
  refine xV rfl rfl rfl (v_fieldAddr0 T.fld_48_3_3 rfl) ?_
  refine rl_v rfl rfl rfl (by exact sat_cell hw (by (repeat first | with_reducible exact xH | apply xT); first | done | fail) rfl) (v_load T.scal_46 rfl) ?_
  refine rl_k rfl (k_callf Try.func53 rfl rfl rfl rfl ?_)
  refine Calls.mono (cloneWr_calls hpl (hw.xP (A := OwnSl 57 3 ((.slice pa s.past.length pc)) (s.past : List Wr).length ((s.past : List Wr).flatMap wrCells)))) ?_
  rintro _ w ⟨v', rfl, hw⟩
  obtain ⟨na, nc, rfl, _, _, hna⟩ := hw.own_shape
  refine ⟨_, rfl, ?_⟩
  refine rl_k rfl (k_callf Try.func52 rfl rfl rfl rfl ?_)
  refine Calls.mono (valuesWr_calls na s.past.length nc hw) ?_
  rintro _ w ⟨q2, rfl, hw⟩
  refine ⟨_, rfl, ?_⟩
  refine rl_nil (g_le (xK (xS rfl (xS rfl (xS rfl (xS rfl (xS rfl (Fr.le_refl _))))))) ?_)
  refine g_block ?_
  have hwc : Sat E w (MdAt m p s :: pt q2 (.cells [Value.slice na s.past.length nc].toArray 46 (0, 0)) :: OwnSl 57 3 ((.slice na s.past.length nc)) (s.past : List Wr).length ((s.past : List Wr).flatMap wrCells) :: I 0 :: pt bk0_0 (.cells [Value.func (.yield yl) #[] #[]].toArray 93 (0, 0)) :: pt q (.cells [Value.pointer (some ⟨m, 0, none⟩)].toArray 42 (0, 0)) :: M) := md_close hok rfl rfl rfl (hw.xQ)
  have hw1 := Sat.unflat (X := [_, _]) (hwc.xQ : Sat E w ([pt q2 (.cells [Value.slice na s.past.length nc].toArray 46 (0, 0)), OwnSl 57 3 ((.slice na s.past.length nc)) (s.past : List Wr).length ((s.past : List Wr).flatMap wrCells)] ++ (I 0 :: pt bk0_0 (.cells [Value.func (.yield yl) #[] #[]].toArray 93 (0, 0)) :: MdAt m p s :: pt q (.cells [Value.pointer (some ⟨m, 0, none⟩)].toArray 42 (0, 0)) :: M)))
  have hw2 := Sat.unflat (X := [_, _]) (hw1.xQ : Sat E w ([I 0, pt bk0_0 (.cells [Value.func (.yield yl) #[] #[]].toArray 93 (0, 0))] ++ (stars [pt q2 (.cells [Value.slice na s.past.length nc].toArray 46 (0, 0)), OwnSl 57 3 ((.slice na s.past.length nc)) (s.past : List Wr).length ((s.past : List Wr).flatMap wrCells)] :: MdAt m p s :: pt q (.cells [Value.pointer (some ⟨m, 0, none⟩)].toArray 42 (0, 0)) :: M)))
  refine g_rangeFunc (I := fun i => stars [I i, pt bk0_0 (.cells [Value.func (.yield yl) #[] #[]].toArray 93 (0, 0))]) (ps := [10]) Try.func60 rfl rfl rfl (valuesWr_iter hna hpl q2) (fun args ha => by obtain ⟨x, _, rfl⟩ := List.mem_map.1 ha; rfl) rfl hw2 ?_ ?_
  · skip
    rintro fn l rec i args M' w hst hx hw
    have hx0 := hx
    rw [List.getElem?_map] at hx
    obtain ⟨x, hxi, rfl⟩ := Option.map_eq_some_iff.1 hx
    have hw := Sat.flat (X := [_, _]) hw
    dsimp only [List.append, List.cons_append, List.nil_append] at hw
    dsimp only [zipF]
    refine g_region ?_
    refine rl_k rfl (k_alloc hw T.zero_57 rfl rfl (fun bk2_0 w hw => ?_))
    refine rl_k rfl (k_storeWhole hw T.agg_57_3 rfl rfl (by simp [Value.oneCell']) rfl (by (repeat first | with_reducible exact xH | apply xT); first | done | fail) rfl (fun w hw => ?_))
    refine rl_nil (g_le (xK (Fr.le_refl _)) ?_)
    have hw := hw.xP (A := pt l (.loop rec))
    refine g_beginRound hw hst (fun w hw => ?_)
    refine g_block (g_seq ?_)
    refine g_region ?_
    refine rl_v rfl rfl rfl (by exact sat_cell hw (by (repeat first | with_reducible exact xH | apply xT); first | done | fail) rfl) (v_load T.scal_93 rfl) ?_
    refine rl_v rfl rfl rfl (by exact sat_cells hw (by (repeat first | with_reducible exact xH | apply xT); first | done | fail) ⟨rfl, rfl, rfl, trivial⟩) (v_loadAgg (vs := [_, _, _]) T.agg_57_3 rfl rfl) ?_
    refine rl_yield rfl rfl rfl (YCalls.mono (hround i _ (pt bk2_0 (.cells [Value.int .i64 x.1, .int .i64 x.2.1, .string x.2.2].toArray 57 (0, 0)) :: pt bk0_0 (.cells [Value.func (.yield yl) #[] #[]].toArray 93 (0, 0)) :: pt l (.loop { rec with state := .busy }) :: M') _ hx0 (hw.xQ)) ?_)
    rintro _ w ⟨rfl, hw⟩
    refine ⟨_, rfl, ?_⟩
    refine xV rfl rfl rfl (v_not rfl) ?_
    refine rl_nil (g_le (xK (xS rfl (xS rfl (xS rfl (Fr.le_refl _))))) ?_)
    refine g_cond_false rfl ?_
    refine g_skip (g_inBlock ?_)
    refine g_endR ?_
    refine ⟨rfl, ?_⟩
    exact Sat.unflat (X := [_, _]) (hw.xQ : Sat E w ([I (i + 1), pt bk0_0 (.cells [Value.func (.yield yl) #[] #[]].toArray 93 (0, 0))] ++ (pt l (.loop { rec with state := .busy }) :: M')))
  · skip
    rintro bf w hw
    have hw := Sat.flat (X := [_, _]) hw
    dsimp only [List.append, List.cons_append, List.nil_append] at hw
    have hw := marks_add ((marks_nil (hw.xP (A := pt bf (.deferred (some []))))).pick .at1)
    refine g_inBlock ?_
    refine g_endM0 (bs := [bf]) Try.func51 rfl hw (by (repeat first | with_reducible exact xH | apply xT); first | done | fail) (fun w hw => ?_)
    refine ⟨⟨_, rfl⟩, ?_⟩
    exact (Sat.unflat (X := [_, _]) (hw.xQ : Sat E w ([pt q (.cells [Value.pointer (some ⟨m, 0, none⟩)].toArray 42 (0, 0)), MdAt m p s] ++ (I (s.past.map fun x => [Value.agg [Value.int .i64 x.1, .int .i64 x.2.1, .string x.2.2].toArray]).length :: M)))).pick .at1
end Go.Proofs.Ytdebodbkggbjeaa
