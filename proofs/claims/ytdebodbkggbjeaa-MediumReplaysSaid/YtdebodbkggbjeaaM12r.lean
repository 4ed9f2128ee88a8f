/-
  The medium (layer 12): what goes tells of Past.
-/
import Derived.Test.YtdebodbkggbjeaaM12q
namespace Go.Proofs.Ytdebodbkggbjeaa
set_option maxRecDepth 8000
set_option linter.unusedSimpArgs false
set_option linter.unusedVariables false
open Go Xe Go.Lib
structure Raw where
  seg : Int
  at_ : Int
  bytes : ByteArray
instance : DecidableEq Raw := fun a b => decidable_of_iff (a.seg = b.seg ∧ a.at_ = b.at_ ∧ a.bytes = b.bytes) (by cases a; cases b; simp)
@[reducible] def Raw.cells (x : Raw) : List Value := [.int .i64 x.seg, .int .i64 x.at_, .string x.bytes]
def Raw.ok (x : Raw) : Prop := (Lit.int .i64 x.seg).wf = true ∧ (Lit.int .i64 x.at_).wf = true ∧ x.bytes.size ≤ reachBytes
def rdRaw : Rd Raw := fun _ cs x => cs = x.cells ∧ x.ok
theorem mono_Raw : Rd.Mono rdRaw := fun _ _ _ h => h
theorem one_Raw : Rd.One rdRaw := fun h => by rw [h.1]; simp [Value.oneCell']
theorem eq_Raw (x y : Raw) : cellsEq x.cells y.cells = some (decide (x = y)) := by
  simp only [cellsEq, cellEq, if_true, Bool.and_true, Option.some.injEq]
  by_cases h : x = y
  · subst h; simp
  · rw [decide_eq_false h]
    refine Bool.eq_false_iff.2 fun h2 => h ?_
    simp only [Bool.and_eq_true, decide_eq_true_eq, beq_iff_eq] at h2
    obtain ⟨_, _, _⟩ := x
    obtain ⟨_, _, _⟩ := y
    simp_all
theorem reads_Raw {H : Type} {enc : TypeId × Value → H} : Reads enc Try.prog 57 rdRaw := fun w fuel cs d ps h hz => by
  have hl := reads_length T.agg_57_3 (by kernel_rfl) h hz
  obtain ⟨c0, c1, c2, rfl⟩ : ∃ c0 c1 c2, cs = [c0, c1, c2] := by
    match cs, hl with
    | [c0, c1, c2], _ => exact ⟨_, _, _, rfl⟩
  obtain ⟨x0, h0⟩ := reads_field (i := 0) (off := 0) (k := 1) (ft := 3) (by kernel_rfl) h hz (reads_int T.int_3_i64)
  obtain ⟨x1, h1⟩ := reads_field (i := 1) (off := 1) (k := 1) (ft := 3) (by kernel_rfl) h hz (reads_int T.int_3_i64)
  obtain ⟨x2, h2⟩ := reads_field (i := 2) (off := 2) (k := 1) (ft := 9) (by kernel_rfl) h hz (reads_str T.str_9)
  obtain ⟨e0, k0⟩ := h0
  obtain ⟨e1, k1⟩ := h1
  obtain ⟨e2, k2⟩ := h2
  simp only [List.drop_zero, List.drop_succ_cons, List.take_succ_cons, List.take_zero, List.cons.injEq, and_true] at e0 e1 e2
  obtain rfl := e0
  obtain rfl := e1
  obtain rfl := e2
  exact ⟨⟨x0, x1, x2⟩, rfl, k0, k1, k2⟩
theorem eq_wr {a b : Int} {s : ByteArray} : cellsEq [Value.int .i64 a, .int .i64 b, .string s] [Value.int .i64 a, .int .i64 b, .string s] = some true := by
  have h := eq_Raw ⟨a, b, s⟩ ⟨a, b, s⟩
  rw [decide_eq_true rfl] at h
  exact h
theorem ord_f43_r13_M12r : orderOfB Try.f43 13 [] (.v 0 (.k 1 (.k 2 (.k 3 (.k 4 (.v 5 (.v 6 (.k 7 (.k 8 (.k 9 (.k 10 (.k 11 .done)))))))))))) = true := by kernel_rfl
theorem ord_f43_r17_M12r : orderOfB Try.f43 17 [] (.v 0 (.k 1 (.k 2 (.k 3 (.k 4 .done))))) = true := by kernel_rfl
set_option maxHeartbeats 8000000 in
theorem goes_calls {E : Env} {w : World} {L : List As} {m p : Nat} {s : Md} {v : Value} (hpl : s.past.length ≤ 4000000000000) (hw : Sat E w (MdAt m p s :: OwnSl 57 3 (v) (s.past : List Wr).length ((s.past : List Wr).flatMap wrCells) :: L)) :
    Calls Try.prog 43 #[.pointer (some ⟨m, 0, none⟩), v, .int .i64 0] w fun e w' => e = .returned (.bool true) ∧ Sat E w' (MdAt m p s :: OwnSl 57 3 (v) (s.past : List Wr).length ((s.past : List Wr).flatMap wrCells) :: L) := by
  obtain ⟨a, c, rfl, hc1, hc2, ha⟩ := hw.xP (A := OwnSl 57 3 (v) (s.past : List Wr).length ((s.past : List Wr).flatMap wrCells)) |>.own_shape
  simp only [maxLen] at hc2
  refine calls_of_g (n := 55) Try.func43 rfl rfl rfl ?_
  change G _ _ _ _ _ [(0, _), (1, _), (2, _)] _
  refine g_seq ?_
  refine g_region ?_
  refine rl_k rfl (k_box hw rfl rfl rfl (fun bk0_0 w hw => ?_))
  refine rl_k rfl (k_box hw rfl rfl rfl (fun bk0_1 w hw => ?_))
  refine rl_k rfl (k_alloc hw T.zero_4 rfl rfl (fun bk0_2 w hw => ?_))
  refine rl_nil (g_le (xK (xK (xK (Fr.le_refl _)))) ?_)
  refine g_seq ?_
  refine g_region ?_
  refine xV rfl rfl rfl (v_move rfl) ?_
  refine rl_k rfl (k_callf Try.func30 rfl rfl rfl rfl ?_)
  refine Calls.mono (past_calls m hw) ?_
  rintro _ w ⟨q, rfl, hw⟩
  refine ⟨_, rfl, ?_⟩
  refine rl_k rfl (k_alloc hw T.zero_59 rfl rfl (fun bk1_2 w hw => ?_))
  refine rl_k rfl (k_store hw T.scal_59 rfl rfl rfl (by (repeat first | with_reducible exact xH | apply xT); first | done | fail) rfl (by simp only [List.set, Int.reduceToNat, Nat.reduceMul, Nat.reduceAdd]; rfl) (fun w hw => ?_))
  refine rl_nil (g_le (xK (xS rfl (xS rfl (Fr.le_refl _)))) ?_)
  refine g_seq (g_seq ?_)
  refine g_region ?_
  refine rl_v rfl rfl rfl (by exact sat_cell hw (by (repeat first | with_reducible exact xH | apply xT); first | done | fail) rfl) (v_load T.scal_59 rfl) ?_
  refine xV rfl rfl rfl (v_eqlFn rfl rfl rfl) ?_
  refine rl_nil (g_le (xK (xS rfl (Fr.le_refl _))) ?_)
  refine g_cond_false rfl ?_
  refine g_skip (g_seq ?_)
  refine g_region ?_
  refine rl_k rfl (k_alloc hw T.zero_3 rfl rfl (fun bk4_0 w hw => ?_))
  refine rl_k rfl (k_store hw T.scal_3 rfl rfl rfl (by (repeat first | with_reducible exact xH | apply xT); first | done | fail) rfl (by simp only [List.set, Int.reduceToNat, Nat.reduceMul, Nat.reduceAdd]; rfl) (fun w hw => ?_))
  refine rl_nil (g_le (xK (Fr.le_refl _)) ?_)
  refine g_seq (g_seq ?_)
  refine g_region ?_
  refine rl_v rfl rfl rfl (by exact sat_cell hw (by (repeat first | with_reducible exact xH | apply xT); first | done | fail) rfl) (v_load T.scal_59 rfl) ?_
  refine rl_nil (g_le (xK (Fr.le_refl _)) ?_)
  refine g_block ?_
  have hw1 := Sat.unflat (X := [_, _]) (hw.xQ : Sat E w ([pt q (.cells [Value.pointer (some ⟨m, 0, none⟩)].toArray 42 (0, 0)), MdAt m p s] ++ (pt bk4_0 (.cells [Value.int .i64 0].toArray 3 (0, 0)) :: pt bk1_2 (.cells [Value.func (.func 51) #[] #[.pointer (some ⟨q, 0, none⟩)]].toArray 59 (0, 0)) :: pt bk0_0 (.cells [Value.slice a s.past.length c].toArray 46 (0, 0)) :: pt bk0_1 (.cells [Value.int .i64 0].toArray 3 (0, 0)) :: pt bk0_2 (.cells [Value.bool false].toArray 4 (0, 0)) :: OwnSl 57 3 ((.slice a s.past.length c)) (s.past : List Wr).length ((s.past : List Wr).flatMap wrCells) :: L)))
  have hw2 : Sat E w (pu ((0 : Nat) = 0) (stars [pt bk4_0 (.cells [Value.int .i64 0].toArray 3 (0, 0)), pt bk0_1 (.cells [Value.int .i64 0].toArray 3 (0, 0))]) :: stars [pt q (.cells [Value.pointer (some ⟨m, 0, none⟩)].toArray 42 (0, 0)), MdAt m p s] :: pt bk1_2 (.cells [Value.func (.func 51) #[] #[.pointer (some ⟨q, 0, none⟩)]].toArray 59 (0, 0)) :: pt bk0_0 (.cells [Value.slice a s.past.length c].toArray 46 (0, 0)) :: pt bk0_2 (.cells [Value.bool false].toArray 4 (0, 0)) :: OwnSl 57 3 ((.slice a s.past.length c)) (s.past : List Wr).length ((s.past : List Wr).flatMap wrCells) :: L) := Sat.mk_pu rfl (Sat.unflat (X := [_, _]) (hw1.xQ))
  refine g_rangeFuncB (I := fun i => pu (i = 0) (stars [pt bk4_0 (.cells [Value.int .i64 0].toArray 3 (0, 0)), pt bk0_1 (.cells [Value.int .i64 0].toArray 3 (0, 0))])) (J := fun c => pu (c = .exit 0) (stars [pt bk4_0 (.cells [Value.int .i64 0].toArray 3 (0, 0)), pt bk0_1 (.cells [Value.int .i64 0].toArray 3 (0, 0))])) (ps := [16]) Try.func51 rfl rfl rfl (past_iterB (m := m) (p := p) (s := s) (by omega) q) (fun args ha => by obtain ⟨x, _, rfl⟩ := List.mem_map.1 ha; rfl) rfl hw2 ?_ ?_ ?_
  · skip
    rintro fn l rec i args M' w hst hx hw
    rw [List.getElem?_map] at hx
    obtain ⟨x, hxi, rfl⟩ := Option.map_eq_some_iff.1 hx
    obtain ⟨hi0, hw⟩ := hw.pu
    have hw := Sat.flat (X := [_, _]) hw
    dsimp only [List.append, List.cons_append, List.nil_append] at hw
    dsimp only [zipF]
    refine g_skip ?_
    have hw := hw.xP (A := pt l (.loop rec))
    refine g_beginRound hw hst (fun w hw => ?_)
    refine g_block (g_seq (g_seq ?_))
    refine g_region ?_
    refine rl_v rfl rfl rfl (by exact sat_cell hw (by (repeat first | with_reducible exact xH | apply xT); first | done | fail) rfl) (v_load T.scal_3 rfl) ?_
    refine rl_v rfl rfl rfl (by exact sat_cell hw (by (repeat first | with_reducible exact xH | apply xT); first | done | fail) rfl) (v_load T.scal_3 rfl) ?_
    refine xV rfl rfl rfl (v_eqlT rfl rfl (by omega)) ?_
    refine rl_nil (g_le (xK (xS rfl (xS rfl (Fr.le_refl _)))) ?_)
    refine g_cond rfl (fun h2 => ?_) (fun h2 => ?_)
    · try with_reducible exact ft_elim h2
      all_goals
        try replace h2 := of_decide_eq_true h2
        refine g_leaveExit rfl ?_
        refine Or.inr ⟨_, rfl, ?_⟩
        exact Sat.mk_pu rfl (Sat.unflat (X := [_, _]) (hw.xQ))
    · try with_reducible exact tf_elim h2
      all_goals
        try replace h2 := of_decide_eq_false h2
        exact absurd h2 (by simp)
  · skip
    rintro bf w hw
    obtain ⟨hi0, hw⟩ := hw.pu
    have hw := Sat.flat (X := [_, _]) hw
    dsimp only [List.append, List.cons_append, List.nil_append] at hw
    have hw := Sat.flat (X := [_, _]) (hw.xP (A := stars [pt q (.cells [Value.pointer (some ⟨m, 0, none⟩)].toArray 42 (0, 0)), MdAt m p s]))
    dsimp only [List.append, List.cons_append, List.nil_append] at hw
    have hw := marks_add ((marks_nil (hw.xP (A := pt bf (.deferred (some []))))).pick .at1)
    refine g_inBlock (g_seq (g_seq ?_))
    refine g_region ?_
    refine rl_v rfl rfl rfl (by exact sat_cell hw (by (repeat first | with_reducible exact xH | apply xT); first | done | fail) rfl) (v_load T.scal_3 rfl) ?_
    refine rl_v rfl rfl rfl (by exact sat_cell hw (by (repeat first | with_reducible exact xH | apply xT); first | done | fail) rfl) (v_load T.scal_3 rfl) ?_
    refine rl_v rfl rfl rfl (by exact sat_cell hw (by (repeat first | with_reducible exact xH | apply xT); first | done | fail) rfl) (v_load T.scal_46 rfl) ?_
    refine xV rfl rfl rfl (v_lenSlice T.sl_46_57_3 rfl) ?_
    refine xV rfl rfl rfl (v_min rfl rfl) ?_
    refine xV rfl rfl rfl (v_neqF rfl rfl (by omega)) ?_
    refine rl_nil (g_le (xK (xS rfl (xS rfl (xS rfl (xS rfl (xS rfl (Fr.le_refl _))))))) ?_)
    refine g_cond_false rfl ?_
    refine g_skip (g_seq ?_)
    refine g_region ?_
    refine rl_k rfl (k_store hw T.scal_3 rfl rfl rfl (by (repeat first | with_reducible exact xH | apply xT); first | done | fail) rfl (by simp only [List.set, Int.reduceToNat, Nat.reduceMul, Nat.reduceAdd]; rfl) (fun w hw => ?_))
    refine rl_nil (g_le (Fr.le_refl _) ?_)
    refine g_seq (g_seq ?_)
    refine g_region ?_
    refine rl_v rfl rfl rfl (by exact sat_cell hw (by (repeat first | with_reducible exact xH | apply xT); first | done | fail) rfl) (v_load T.scal_59 rfl) ?_
    refine rl_nil (g_le (xK (Fr.le_refl _)) ?_)
    refine g_block ?_
    have hw1 := Sat.unflat (X := [_, _]) (hw.xQ : Sat E w ([pt q (.cells [Value.pointer (some ⟨m, 0, none⟩)].toArray 42 (0, 0)), MdAt m p s] ++ (marks [bf] :: pt bk4_0 (.cells [Value.int .i64 0].toArray 3 (0, 0)) :: pt bk1_2 (.cells [Value.func (.func 51) #[] #[.pointer (some ⟨q, 0, none⟩)]].toArray 59 (0, 0)) :: pt bk0_0 (.cells [Value.slice a s.past.length c].toArray 46 (0, 0)) :: pt bk0_1 (.cells [Value.int .i64 0].toArray 3 (0, 0)) :: pt bk0_2 (.cells [Value.bool false].toArray 4 (0, 0)) :: OwnSl 57 3 ((.slice a s.past.length c)) (s.past : List Wr).length ((s.past : List Wr).flatMap wrCells) :: L)))
    have hw2 := Sat.unflat (X := [_, _, _, _, _, _]) ((by rw [show ((0 : Nat) : Int) = 0 from rfl]; exact hw1.xQ) : Sat E w ([pt bk4_0 (.cells [Value.int .i64 ((0 : Nat) : Int)].toArray 3 (0, 0)), pt bk1_2 (.cells [Value.func (.func 51) #[] #[.pointer (some ⟨q, 0, none⟩)]].toArray 59 (0, 0)), pt bk0_0 (.cells [Value.slice a s.past.length c].toArray 46 (0, 0)), pt bk0_1 (.cells [Value.int .i64 0].toArray 3 (0, 0)), pt bk0_2 (.cells [Value.bool false].toArray 4 (0, 0)), OwnSl 57 3 ((.slice a s.past.length c)) (s.past : List Wr).length ((s.past : List Wr).flatMap wrCells)] ++ (stars [pt q (.cells [Value.pointer (some ⟨m, 0, none⟩)].toArray 42 (0, 0)), MdAt m p s] :: marks [bf] :: L)))
    refine g_rangeFuncB (I := fun i => stars [pt bk4_0 (.cells [Value.int .i64 ((i : Nat) : Int)].toArray 3 (0, 0)), pt bk1_2 (.cells [Value.func (.func 51) #[] #[.pointer (some ⟨q, 0, none⟩)]].toArray 59 (0, 0)), pt bk0_0 (.cells [Value.slice a s.past.length c].toArray 46 (0, 0)), pt bk0_1 (.cells [Value.int .i64 0].toArray 3 (0, 0)), pt bk0_2 (.cells [Value.bool false].toArray 4 (0, 0)), OwnSl 57 3 ((.slice a s.past.length c)) (s.past : List Wr).length ((s.past : List Wr).flatMap wrCells)]) (J := fun c => pu False Xe.emp) (ps := [29]) Try.func51 rfl rfl rfl (past_iterB (m := m) (p := p) (s := s) (by omega) q) (fun args ha => by obtain ⟨x, _, rfl⟩ := List.mem_map.1 ha; rfl) rfl hw2 ?_ ?_ ?_
    · skip
      rintro fn l rec i args M' w hst hx hw
      rw [List.getElem?_map] at hx
      obtain ⟨x, hxi, rfl⟩ := Option.map_eq_some_iff.1 hx
      have hw := Sat.flat (X := [_, _, _, _, _, _]) hw
      dsimp only [List.append, List.cons_append, List.nil_append] at hw
      have hlt : i < s.past.length := (List.getElem?_eq_some_iff.1 hxi).1
      have hsub := subAt_flat (f := wrCells) (sz := 3) (fun _ => rfl) hxi
      rw [show 0 + i * 3 = 0 + (i : Int).toNat * 3 by omega] at hsub
      dsimp only [wrCells] at hsub
      obtain ⟨g, rfl⟩ := ha (by omega)
      have h0 : s.past[0]? = some s.past[0] := List.getElem?_eq_getElem (by omega)
      generalize s.past[0] = y at h0
      have hsub0 := subAt_flat (f := wrCells) (sz := 3) (fun _ => rfl) h0
      dsimp only [wrCells] at hsub0
      dsimp only [zipF]
      refine g_region ?_
      refine rl_k rfl (k_alloc hw T.zero_57 rfl rfl (fun bk12_0 w hw => ?_))
      refine rl_k rfl (k_storeWhole hw T.agg_57_3 rfl rfl (by simp [Value.oneCell']) rfl (by (repeat first | with_reducible exact xH | apply xT); first | done | fail) rfl (fun w hw => ?_))
      refine rl_nil (g_le (xK (Fr.le_refl _)) ?_)
      have hw := hw.xP (A := pt l (.loop rec))
      refine g_beginRound hw hst (fun w hw => ?_)
      refine g_block (g_seq (g_seq ?_))
      refine g_drawRN ord_f43_r13_M12r (by kernel_rfl) T.mixed hw (fun w hw => ?_)
      refine rs_v 0 rfl rfl rfl rfl (OpV.mono (v_load T.scal_3 rfl) (fun w hw => by exact sat_cell hw (by (repeat first | with_reducible exact xH | apply xT); first | done | fail) rfl)) (by exact hw) ?_
      refine rs_kv 1 rfl rfl rfl rfl (by exact sat_cell hw (by (repeat first | with_reducible exact xH | apply xT); first | done | fail) rfl) (v_load T.scal_46 rfl) ?_
      refine rs_kv 2 rfl rfl rfl rfl (S' := fun _ => True) trivial (v_lenSlice T.sl_46_57_3 rfl) ?_
      refine rs_kv 3 rfl rfl rfl rfl (S' := fun _ => True) trivial (v_geqF rfl rfl (by omega)) ?_
      refine rs_kv 4 rfl rfl rfl rfl (S' := fun _ => True) trivial (v_move rfl) ?_
      refine rs_split (s := 34) rfl (fun g13_4 => ?_) (fun g13_4 => ?_)
      · try with_reducible exact ft_elim g13_4
        all_goals
          try replace g13_4 := of_decide_eq_true g13_4
          refine rs_voff 5 rfl (met_off rfl rfl rfl rfl rfl) rfl rfl (by first | exact hw | exact Sat.sub hw (by (repeat (first | with_reducible exact Sub.refl _ | exact Sub.nil _ | (apply Sub.cons; focus ((repeat (first | with_reducible exact Pick.here _ | apply Pick.there)); (first | done | fail))) | with_reducible apply Sub.drop)); first | done | fail)) ?_
          refine rs_voff 6 rfl (met_off rfl rfl rfl rfl rfl) rfl rfl (by first | exact hw | exact Sat.sub hw (by (repeat (first | with_reducible exact Sub.refl _ | exact Sub.nil _ | (apply Sub.cons; focus ((repeat (first | with_reducible exact Pick.here _ | apply Pick.there)); (first | done | fail))) | with_reducible apply Sub.drop)); first | done | fail)) ?_
          refine rs_koff 7 rfl (met_off rfl rfl rfl rfl rfl) rfl rfl ?_
          refine rs_koff 8 rfl (met_off rfl rfl rfl rfl rfl) rfl rfl ?_
          refine rs_koff 9 rfl (met_off rfl rfl rfl rfl rfl) rfl rfl ?_
          refine rs_koff 10 rfl (met_off rfl rfl rfl rfl rfl) rfl rfl ?_
          first | (refine rs_kv 11 rfl rfl rfl rfl (S' := fun _ => True) trivial (v_pick_true rfl rfl) ?_) | (refine rs_kv 11 rfl rfl rfl rfl (S' := fun _ => True) trivial (v_pick_false rfl rfl) ?_) | (refine rs_kv 11 rfl rfl rfl rfl (S' := fun _ => True) trivial (v_pick rfl rfl rfl) ?_)
          refine rs_done (g_le (xK (xS rfl (xS rfl (xS rfl (xS rfl (xS rfl (xS rfl (xS rfl (xS rfl (xS rfl (xS rfl (xS rfl (xS rfl (Fr.le_refl _)))))))))))))) ?_)
          refine g_cond_false rfl ?_
          refine g_skip (g_seq (g_seq ?_))
          refine g_region ?_
          refine rl_v rfl rfl rfl (by first | exact sat_cell hw (by (repeat first | with_reducible exact xH | apply xT); first | done | fail) rfl | exact own_cell hw (by (repeat first | with_reducible exact xH | apply xT); first | done | fail) (by first | rfl | assumption) | exact ro_at0 hw (by (repeat first | with_reducible exact xH | apply xT); first | done | fail) (by assumption) rfl | exact ro_at hw (by (repeat first | with_reducible exact xH | apply xT); first | done | fail) (by assumption) rfl | exact own_at0 hw (by (repeat first | with_reducible exact xH | apply xT); first | done | fail) (by assumption) rfl | exact own_at hw (by (repeat first | with_reducible exact xH | apply xT); first | done | fail) (by assumption) rfl | exact old_cell hw (by (repeat first | with_reducible exact xH | apply xT); first | done | fail) (by assumption) | assumption) (v_load T.scal_59 rfl) ?_
          refine rl_nil (g_le (xK (Fr.le_refl _)) ?_)
          refine g_block ?_
          have hw1 := Sat.unflat (X := [_, _, _, _, _, _, _]) (hw.xQ : Sat E w ([pt bk4_0 (.cells [Value.int .i64 ((i : Nat) : Int)].toArray 3 (0, 0)), pt bk1_2 (.cells [Value.func (.func 51) #[] #[.pointer (some ⟨q, 0, none⟩)]].toArray 59 (0, 0)), pt bk0_0 (.cells [Value.slice (some ⟨g, 0, none⟩) s.past.length c].toArray 46 (0, 0)), pt bk0_1 (.cells [Value.int .i64 0].toArray 3 (0, 0)), pt bk0_2 (.cells [Value.bool false].toArray 4 (0, 0)), OwnSl 57 3 ((.slice (some ⟨g, 0, none⟩) s.past.length c)) (s.past : List Wr).length ((s.past : List Wr).flatMap wrCells), pt bk12_0 (.cells [Value.int .i64 x.1, .int .i64 x.2.1, .string x.2.2].toArray 57 (0, 0))] ++ (stars [pt q (.cells [Value.pointer (some ⟨m, 0, none⟩)].toArray 42 (0, 0)), MdAt m p s] :: pt l (.loop { rec with state := .busy }) :: M')))
          have hw2 : Sat E w (pu ((0 : Nat) = 0) (stars [pt bk4_0 (.cells [Value.int .i64 ((i : Nat) : Int)].toArray 3 (0, 0)), pt bk1_2 (.cells [Value.func (.func 51) #[] #[.pointer (some ⟨q, 0, none⟩)]].toArray 59 (0, 0)), pt bk0_0 (.cells [Value.slice (some ⟨g, 0, none⟩) s.past.length c].toArray 46 (0, 0)), pt bk0_1 (.cells [Value.int .i64 0].toArray 3 (0, 0)), pt bk0_2 (.cells [Value.bool false].toArray 4 (0, 0)), OwnSl 57 3 ((.slice (some ⟨g, 0, none⟩) s.past.length c)) (s.past : List Wr).length ((s.past : List Wr).flatMap wrCells), pt bk12_0 (.cells [Value.int .i64 x.1, .int .i64 x.2.1, .string x.2.2].toArray 57 (0, 0))]) :: stars [pt q (.cells [Value.pointer (some ⟨m, 0, none⟩)].toArray 42 (0, 0)), MdAt m p s] :: pt l (.loop { rec with state := .busy }) :: M') := Sat.mk_pu rfl hw1
          refine g_rangeFuncN (I := fun j => pu (j = 0) (stars [pt bk4_0 (.cells [Value.int .i64 ((i : Nat) : Int)].toArray 3 (0, 0)), pt bk1_2 (.cells [Value.func (.func 51) #[] #[.pointer (some ⟨q, 0, none⟩)]].toArray 59 (0, 0)), pt bk0_0 (.cells [Value.slice (some ⟨g, 0, none⟩) s.past.length c].toArray 46 (0, 0)), pt bk0_1 (.cells [Value.int .i64 0].toArray 3 (0, 0)), pt bk0_2 (.cells [Value.bool false].toArray 4 (0, 0)), OwnSl 57 3 ((.slice (some ⟨g, 0, none⟩) s.past.length c)) (s.past : List Wr).length ((s.past : List Wr).flatMap wrCells), pt bk12_0 (.cells [Value.int .i64 x.1, .int .i64 x.2.1, .string x.2.2].toArray 57 (0, 0))])) (J := fun c' => pu (c' = .exit 4) (stars [pt bk4_0 (.cells [Value.int .i64 ((i : Nat) : Int)].toArray 3 (0, 0)), pt bk1_2 (.cells [Value.func (.func 51) #[] #[.pointer (some ⟨q, 0, none⟩)]].toArray 59 (0, 0)), pt bk0_0 (.cells [Value.slice (some ⟨g, 0, none⟩) s.past.length c].toArray 46 (0, 0)), pt bk0_1 (.cells [Value.int .i64 0].toArray 3 (0, 0)), pt bk0_2 (.cells [Value.bool false].toArray 4 (0, 0)), OwnSl 57 3 ((.slice (some ⟨g, 0, none⟩) s.past.length c)) (s.past : List Wr).length ((s.past : List Wr).flatMap wrCells), pt bk12_0 (.cells [Value.int .i64 x.1, .int .i64 x.2.1, .string x.2.2].toArray 57 (0, 0))])) (ps := [43]) Try.func51 rfl rfl rfl (past_iterB (m := m) (p := p) (s := s) (by omega) q) (fun args ha => by obtain ⟨x, _, rfl⟩ := List.mem_map.1 ha; rfl) rfl hw2 ?_ ?_ ?_
          · skip
            rintro fn l rec j args M' w hst hxj hw
            rw [List.getElem?_map] at hxj
            obtain ⟨x2, hx2, rfl⟩ := Option.map_eq_some_iff.1 hxj
            obtain ⟨hj0, hw2⟩ := hw.pu
            subst hj0
            obtain rfl := Option.some.inj (hx2.symm.trans h0)
            have hw := Sat.flat (X := [_, _, _, _, _, _, _]) hw2
            dsimp only [List.append, List.cons_append, List.nil_append] at hw
            dsimp only [zipF]
            refine g_region ?_
            refine rl_k rfl (k_alloc hw T.zero_57 rfl rfl (fun bk16_0 w hw => ?_))
            first | (refine rl_k rfl (k_storeWhole hw T.agg_57_3 rfl rfl (by simp [Value.oneCell']) rfl (by (repeat first | with_reducible exact xH | apply xT); first | done | fail) rfl (fun w hw => ?_))) | (refine rl_k rfl (k_storeAgg hw T.agg_57_3 rfl rfl (by simp [Value.oneCell']) rfl (by (repeat first | with_reducible exact xH | apply xT); first | done | fail) rfl rfl (fun w hw => ?_))) | (refine rl_k rfl (k_storeOwnAgg hw T.agg_57_3 rfl rfl (by simp [Value.oneCell']) rfl (by (repeat first | with_reducible exact xH | apply xT); first | done | fail) (by assumption) (by omega) (fun w hw => ?_)))
            refine rl_nil (g_le (xK (Fr.le_refl _)) ?_)
            have hw := hw.xP (A := pt l (.loop rec))
            refine g_beginRound hw hst (fun w hw => ?_)
            refine g_block (g_seq (g_seq ?_))
            refine g_drawRN ord_f43_r17_M12r (by kernel_rfl) T.mixed hw (fun w hw => ?_)
            refine rs_v 0 rfl rfl rfl rfl (OpV.mono (v_loadAgg (vs := [_, _, _]) T.agg_57_3 rfl rfl) (fun w hw => by first | exact sat_cells hw (by (repeat first | with_reducible exact xH | apply xT); first | done | fail) ⟨rfl, rfl, rfl, trivial⟩ | exact ro_ats hw (by (repeat first | with_reducible exact xH | apply xT); first | done | fail) (by assumption) | exact own_cells hw (by (repeat first | with_reducible exact xH | apply xT); first | done | fail) (by assumption) | exact old_cells hw (by (repeat first | with_reducible exact xH | apply xT); first | done | fail) (by assumption))) (by first | exact hw | exact Sat.sub hw (by (repeat (first | with_reducible exact Sub.refl _ | exact Sub.nil _ | (apply Sub.cons; focus ((repeat (first | with_reducible exact Pick.here _ | apply Pick.there)); (first | done | fail))) | with_reducible apply Sub.drop)); first | done | fail)) ?_
            refine rs_kv 1 rfl rfl rfl rfl (by first | exact sat_cell hw (by (repeat first | with_reducible exact xH | apply xT); first | done | fail) rfl | exact own_cell hw (by (repeat first | with_reducible exact xH | apply xT); first | done | fail) (by first | rfl | assumption) | exact ro_at0 hw (by (repeat first | with_reducible exact xH | apply xT); first | done | fail) (by assumption) rfl | exact ro_at hw (by (repeat first | with_reducible exact xH | apply xT); first | done | fail) (by assumption) rfl | exact own_at0 hw (by (repeat first | with_reducible exact xH | apply xT); first | done | fail) (by assumption) rfl | exact own_at hw (by (repeat first | with_reducible exact xH | apply xT); first | done | fail) (by assumption) rfl | exact old_cell hw (by (repeat first | with_reducible exact xH | apply xT); first | done | fail) (by assumption) | assumption) (v_load T.scal_46 rfl) ?_
            refine rs_kv 2 rfl rfl rfl rfl (S' := fun _ => True) trivial (v_indexAddr T.sl_46_57_3 rfl rfl (by omega) (by omega)) ?_
            refine rs_kv 3 rfl rfl rfl rfl (by first | exact sat_cells hw (by (repeat first | with_reducible exact xH | apply xT); first | done | fail) ⟨rfl, rfl, rfl, trivial⟩ | exact ro_ats hw (by (repeat first | with_reducible exact xH | apply xT); first | done | fail) (by assumption) | exact own_cells hw (by (repeat first | with_reducible exact xH | apply xT); first | done | fail) (by assumption) | exact old_cells hw (by (repeat first | with_reducible exact xH | apply xT); first | done | fail) (by assumption)) (v_loadAgg (vs := [_, _, _]) T.agg_57_3 rfl rfl) ?_
            refine rs_kv 4 rfl rfl rfl rfl (S' := fun _ => True) trivial (v_neqAgg T.cmp_57_iis rfl rfl rfl rfl (by first | exact eq_Raw _ _ | exact eq_wr | rfl)) ?_
            refine rs_done (g_le (xK (xS rfl (xS rfl (xS rfl (xS rfl (Fr.le_refl _)))))) ?_)
            refine g_cond_false rfl ?_
            refine g_skip ?_
            refine g_leaveExit rfl ?_
            refine Or.inr ⟨_, rfl, ?_⟩
            exact Sat.mk_pu rfl (Sat.unflat (X := [_, _, _, _, _, _, _]) (hw.xQ))
          · skip
            rintro w hw
            have h9 := hw.pu.1
            rw [List.length_map] at h9
            omega
          · skip
            rintro c0 w hw
            obtain ⟨hc0, hw2⟩ := hw.pu
            subst hc0
            have hw := Sat.flat (X := [_, _, _, _, _, _, _]) hw2
            dsimp only [List.append, List.cons_append, List.nil_append] at hw
            refine g_exit rfl ?_
            refine g_region ?_
            refine rl_v rfl rfl rfl (by first | exact sat_cell hw (by (repeat first | with_reducible exact xH | apply xT); first | done | fail) rfl | exact own_cell hw (by (repeat first | with_reducible exact xH | apply xT); first | done | fail) (by first | rfl | assumption) | exact ro_at0 hw (by (repeat first | with_reducible exact xH | apply xT); first | done | fail) (by assumption) rfl | exact ro_at hw (by (repeat first | with_reducible exact xH | apply xT); first | done | fail) (by assumption) rfl | exact own_at0 hw (by (repeat first | with_reducible exact xH | apply xT); first | done | fail) (by assumption) rfl | exact own_at hw (by (repeat first | with_reducible exact xH | apply xT); first | done | fail) (by assumption) rfl | exact old_cell hw (by (repeat first | with_reducible exact xH | apply xT); first | done | fail) (by assumption) | assumption) (v_load T.scal_3 rfl) ?_
            first | (refine xV rfl rfl rfl (v_add rfl rfl (by omega)) ?_) | (refine xV rfl rfl rfl (v_addW rfl rfl) ?_)
            first | (refine rl_k rfl (k_storeOwn hw T.scal_3 rfl rfl rfl (by (repeat first | with_reducible exact xH | apply xT); first | done | fail) (by assumption) (fun w hw => ?_))) | (refine rl_k rfl (k_store hw T.scal_3 rfl rfl rfl (by (repeat first | with_reducible exact xH | apply xT); first | done | fail) rfl (by first | (simp only [List.set, Int.reduceToNat, Nat.reduceMul, Nat.reduceAdd]; rfl) | rfl) (fun w hw => ?_)))
            refine rl_nil (g_le (xS rfl (xS rfl (Fr.le_refl _))) ?_)
            refine g_inBlock ?_
            refine g_endR ?_
            refine Or.inl ⟨rfl, ?_⟩
            exact Sat.unflat (X := [_, _, _, _, _, _]) ((by rw [show (((i + 1 : Nat) : Int)) = (i : Int) + 1 by omega]; exact hw.xQ) : Sat E _ ([pt bk4_0 (.cells [Value.int .i64 ((i + 1 : Nat) : Int)].toArray 3 (0, 0)), pt bk1_2 (.cells [Value.func (.func 51) #[] #[.pointer (some ⟨q, 0, none⟩)]].toArray 59 (0, 0)), pt bk0_0 (.cells [Value.slice (some ⟨g, 0, none⟩) s.past.length c].toArray 46 (0, 0)), pt bk0_1 (.cells [Value.int .i64 0].toArray 3 (0, 0)), pt bk0_2 (.cells [Value.bool false].toArray 4 (0, 0)), OwnSl 57 3 ((.slice (some ⟨g, 0, none⟩) s.past.length c)) (s.past : List Wr).length ((s.past : List Wr).flatMap wrCells)] ++ (pt l (.loop { rec with state := .busy }) :: stars [pt q (.cells [Value.pointer (some ⟨m, 0, none⟩)].toArray 42 (0, 0)), MdAt m p s] :: M')))
      · try with_reducible exact tf_elim g13_4
        all_goals
          try replace g13_4 := of_decide_eq_false g13_4
          refine rs_vg 5 rfl (met_on rfl rfl rfl rfl) rfl rfl (OpV.mono (v_loadAgg (vs := [_, _, _]) T.agg_57_3 rfl rfl) (fun w hw => by exact sat_cells hw (by (repeat first | with_reducible exact xH | apply xT); first | done | fail) ⟨rfl, rfl, rfl, trivial⟩)) (by exact hw) ?_
          refine rs_vg 6 rfl (met_on rfl rfl rfl rfl) rfl rfl (OpV.mono (v_load T.scal_46 rfl) (fun w hw => by exact sat_cell hw (by (repeat first | with_reducible exact xH | apply xT); first | done | fail) rfl)) (by exact hw) ?_
          refine rs_kvg 7 rfl (met_on rfl rfl rfl rfl) rfl rfl (by exact sat_cell hw (by (repeat first | with_reducible exact xH | apply xT); first | done | fail) rfl) (v_load T.scal_3 rfl) ?_
          refine rs_kvg 8 rfl (met_on rfl rfl rfl rfl) rfl rfl (S' := fun _ => True) trivial (v_indexAddr T.sl_46_57_3 rfl rfl (by omega) (by omega)) ?_
          refine rs_kvg 9 rfl (met_on rfl rfl rfl rfl) rfl rfl (by exact own_cells hw (by (repeat first | with_reducible exact xH | apply xT); first | done | fail) (by assumption)) (v_loadAgg (vs := [_, _, _]) T.agg_57_3 rfl rfl) ?_
          refine rs_kvg 10 rfl (met_on rfl rfl rfl rfl) rfl rfl (S' := fun _ => True) trivial (v_neqAgg T.cmp_57_iis rfl rfl rfl rfl (by exact eq_wr)) ?_
          refine rs_kv 11 rfl rfl rfl rfl (S' := fun _ => True) trivial (v_pick_false rfl rfl) ?_
          refine rs_done (g_le (xK (xS rfl (xS rfl (xS rfl (xS rfl (xS rfl (xS rfl (xS rfl (xS rfl (xS rfl (xS rfl (xS rfl (xS rfl (Fr.le_refl _)))))))))))))) ?_)
          refine g_cond_false rfl ?_
          refine g_skip (g_seq (g_seq ?_))
          refine g_region ?_
          refine rl_v rfl rfl rfl (by exact sat_cell hw (by (repeat first | with_reducible exact xH | apply xT); first | done | fail) rfl) (v_load T.scal_59 rfl) ?_
          refine rl_nil (g_le (xK (Fr.le_refl _)) ?_)
          refine g_block ?_
          have hw1 := Sat.unflat (X := [_, _, _, _, _, _, _]) (hw.xQ : Sat E w ([pt bk4_0 (.cells [Value.int .i64 ((i : Nat) : Int)].toArray 3 (0, 0)), pt bk1_2 (.cells [Value.func (.func 51) #[] #[.pointer (some ⟨q, 0, none⟩)]].toArray 59 (0, 0)), pt bk0_0 (.cells [Value.slice (some ⟨g, 0, none⟩) s.past.length c].toArray 46 (0, 0)), pt bk0_1 (.cells [Value.int .i64 0].toArray 3 (0, 0)), pt bk0_2 (.cells [Value.bool false].toArray 4 (0, 0)), OwnSl 57 3 ((.slice (some ⟨g, 0, none⟩) s.past.length c)) (s.past : List Wr).length ((s.past : List Wr).flatMap wrCells), pt bk12_0 (.cells [Value.int .i64 x.1, .int .i64 x.2.1, .string x.2.2].toArray 57 (0, 0))] ++ (stars [pt q (.cells [Value.pointer (some ⟨m, 0, none⟩)].toArray 42 (0, 0)), MdAt m p s] :: pt l (.loop { rec with state := .busy }) :: M')))
          have hw2 : Sat E w (pu ((0 : Nat) = 0) (stars [pt bk4_0 (.cells [Value.int .i64 ((i : Nat) : Int)].toArray 3 (0, 0)), pt bk1_2 (.cells [Value.func (.func 51) #[] #[.pointer (some ⟨q, 0, none⟩)]].toArray 59 (0, 0)), pt bk0_0 (.cells [Value.slice (some ⟨g, 0, none⟩) s.past.length c].toArray 46 (0, 0)), pt bk0_1 (.cells [Value.int .i64 0].toArray 3 (0, 0)), pt bk0_2 (.cells [Value.bool false].toArray 4 (0, 0)), OwnSl 57 3 ((.slice (some ⟨g, 0, none⟩) s.past.length c)) (s.past : List Wr).length ((s.past : List Wr).flatMap wrCells), pt bk12_0 (.cells [Value.int .i64 x.1, .int .i64 x.2.1, .string x.2.2].toArray 57 (0, 0))]) :: stars [pt q (.cells [Value.pointer (some ⟨m, 0, none⟩)].toArray 42 (0, 0)), MdAt m p s] :: pt l (.loop { rec with state := .busy }) :: M') := Sat.mk_pu rfl hw1
          refine g_rangeFuncN (I := fun j => pu (j = 0) (stars [pt bk4_0 (.cells [Value.int .i64 ((i : Nat) : Int)].toArray 3 (0, 0)), pt bk1_2 (.cells [Value.func (.func 51) #[] #[.pointer (some ⟨q, 0, none⟩)]].toArray 59 (0, 0)), pt bk0_0 (.cells [Value.slice (some ⟨g, 0, none⟩) s.past.length c].toArray 46 (0, 0)), pt bk0_1 (.cells [Value.int .i64 0].toArray 3 (0, 0)), pt bk0_2 (.cells [Value.bool false].toArray 4 (0, 0)), OwnSl 57 3 ((.slice (some ⟨g, 0, none⟩) s.past.length c)) (s.past : List Wr).length ((s.past : List Wr).flatMap wrCells), pt bk12_0 (.cells [Value.int .i64 x.1, .int .i64 x.2.1, .string x.2.2].toArray 57 (0, 0))])) (J := fun c' => pu (c' = .exit 4) (stars [pt bk4_0 (.cells [Value.int .i64 ((i : Nat) : Int)].toArray 3 (0, 0)), pt bk1_2 (.cells [Value.func (.func 51) #[] #[.pointer (some ⟨q, 0, none⟩)]].toArray 59 (0, 0)), pt bk0_0 (.cells [Value.slice (some ⟨g, 0, none⟩) s.past.length c].toArray 46 (0, 0)), pt bk0_1 (.cells [Value.int .i64 0].toArray 3 (0, 0)), pt bk0_2 (.cells [Value.bool false].toArray 4 (0, 0)), OwnSl 57 3 ((.slice (some ⟨g, 0, none⟩) s.past.length c)) (s.past : List Wr).length ((s.past : List Wr).flatMap wrCells), pt bk12_0 (.cells [Value.int .i64 x.1, .int .i64 x.2.1, .string x.2.2].toArray 57 (0, 0))])) (ps := [43]) Try.func51 rfl rfl rfl (past_iterB (m := m) (p := p) (s := s) (by omega) q) (fun args ha => by obtain ⟨x, _, rfl⟩ := List.mem_map.1 ha; rfl) rfl hw2 ?_ ?_ ?_
          · skip
            rintro fn l rec j args M' w hst hxj hw
            rw [List.getElem?_map] at hxj
            obtain ⟨x2, hx2, rfl⟩ := Option.map_eq_some_iff.1 hxj
            obtain ⟨hj0, hw2⟩ := hw.pu
            subst hj0
            obtain rfl := Option.some.inj (hx2.symm.trans h0)
            have hw := Sat.flat (X := [_, _, _, _, _, _, _]) hw2
            dsimp only [List.append, List.cons_append, List.nil_append] at hw
            dsimp only [zipF]
            refine g_region ?_
            refine rl_k rfl (k_alloc hw T.zero_57 rfl rfl (fun bk16_0 w hw => ?_))
            refine rl_k rfl (k_storeWhole hw T.agg_57_3 rfl rfl (by simp [Value.oneCell']) rfl (by (repeat first | with_reducible exact xH | apply xT); first | done | fail) rfl (fun w hw => ?_))
            refine rl_nil (g_le (xK (Fr.le_refl _)) ?_)
            have hw := hw.xP (A := pt l (.loop rec))
            refine g_beginRound hw hst (fun w hw => ?_)
            refine g_block (g_seq (g_seq ?_))
            refine g_drawRN ord_f43_r17_M12r (by kernel_rfl) T.mixed hw (fun w hw => ?_)
            refine rs_v 0 rfl rfl rfl rfl (OpV.mono (v_loadAgg (vs := [_, _, _]) T.agg_57_3 rfl rfl) (fun w hw => by exact sat_cells hw (by (repeat first | with_reducible exact xH | apply xT); first | done | fail) ⟨rfl, rfl, rfl, trivial⟩)) (by exact hw) ?_
            refine rs_kv 1 rfl rfl rfl rfl (by exact sat_cell hw (by (repeat first | with_reducible exact xH | apply xT); first | done | fail) rfl) (v_load T.scal_46 rfl) ?_
            refine rs_kv 2 rfl rfl rfl rfl (S' := fun _ => True) trivial (v_indexAddr T.sl_46_57_3 rfl rfl (by omega) (by omega)) ?_
            refine rs_kv 3 rfl rfl rfl rfl (by exact own_cells hw (by (repeat first | with_reducible exact xH | apply xT); first | done | fail) (by assumption)) (v_loadAgg (vs := [_, _, _]) T.agg_57_3 rfl rfl) ?_
            refine rs_kv 4 rfl rfl rfl rfl (S' := fun _ => True) trivial (v_neqAgg T.cmp_57_iis rfl rfl rfl rfl (by exact eq_wr)) ?_
            refine rs_done (g_le (xK (xS rfl (xS rfl (xS rfl (xS rfl (Fr.le_refl _)))))) ?_)
            refine g_cond_false rfl ?_
            refine g_skip ?_
            refine g_leaveExit rfl ?_
            refine Or.inr ⟨_, rfl, ?_⟩
            exact Sat.mk_pu rfl (Sat.unflat (X := [_, _, _, _, _, _, _]) (hw.xQ))
          · skip
            rintro w hw
            have h9 := hw.pu.1
            rw [List.length_map] at h9
            omega
          · skip
            rintro c0 w hw
            obtain ⟨hc0, hw2⟩ := hw.pu
            subst hc0
            have hw := Sat.flat (X := [_, _, _, _, _, _, _]) hw2
            dsimp only [List.append, List.cons_append, List.nil_append] at hw
            refine g_exit rfl ?_
            refine g_region ?_
            refine rl_v rfl rfl rfl (by exact sat_cell hw (by (repeat first | with_reducible exact xH | apply xT); first | done | fail) rfl) (v_load T.scal_3 rfl) ?_
            refine xV rfl rfl rfl (v_add rfl rfl (by omega)) ?_
            refine rl_k rfl (k_store hw T.scal_3 rfl rfl rfl (by (repeat first | with_reducible exact xH | apply xT); first | done | fail) rfl (by simp only [List.set, Int.reduceToNat, Nat.reduceMul, Nat.reduceAdd]; rfl) (fun w hw => ?_))
            refine rl_nil (g_le (xS rfl (xS rfl (Fr.le_refl _))) ?_)
            refine g_inBlock ?_
            refine g_endR ?_
            refine Or.inl ⟨rfl, ?_⟩
            exact Sat.unflat (X := [_, _, _, _, _, _]) ((by rw [show (((i + 1 : Nat) : Int)) = (i : Int) + 1 by omega]; exact hw.xQ) : Sat E _ ([pt bk4_0 (.cells [Value.int .i64 ((i + 1 : Nat) : Int)].toArray 3 (0, 0)), pt bk1_2 (.cells [Value.func (.func 51) #[] #[.pointer (some ⟨q, 0, none⟩)]].toArray 59 (0, 0)), pt bk0_0 (.cells [Value.slice (some ⟨g, 0, none⟩) s.past.length c].toArray 46 (0, 0)), pt bk0_1 (.cells [Value.int .i64 0].toArray 3 (0, 0)), pt bk0_2 (.cells [Value.bool false].toArray 4 (0, 0)), OwnSl 57 3 ((.slice (some ⟨g, 0, none⟩) s.past.length c)) (s.past : List Wr).length ((s.past : List Wr).flatMap wrCells)] ++ (pt l (.loop { rec with state := .busy }) :: stars [pt q (.cells [Value.pointer (some ⟨m, 0, none⟩)].toArray 42 (0, 0)), MdAt m p s] :: M')))
    · skip
      rintro bf2 w hw
      have hw := Sat.flat (X := [_, _, _, _, _, _]) hw
      dsimp only [List.append, List.cons_append, List.nil_append] at hw
      have hw := Sat.flat (X := [_, _]) (hw.xP (A := stars [pt q (.cells [Value.pointer (some ⟨m, 0, none⟩)].toArray 42 (0, 0)), MdAt m p s]))
      dsimp only [List.append, List.cons_append, List.nil_append] at hw
      rw [List.length_map] at hw
      have hw := marks_add ((hw.xP (A := marks [bf])).xP (A := pt bf2 (.deferred (some []))))
      refine g_inBlock (g_seq ?_)
      refine g_region ?_
      refine rl_v rfl rfl rfl (by exact sat_cell hw (by (repeat first | with_reducible exact xH | apply xT); first | done | fail) rfl) (v_load T.scal_3 rfl) ?_
      refine rl_v rfl rfl rfl (by exact sat_cell hw (by (repeat first | with_reducible exact xH | apply xT); first | done | fail) rfl) (v_load T.scal_46 rfl) ?_
      refine xV rfl rfl rfl (v_lenSlice T.sl_46_57_3 rfl) ?_
      refine xV rfl rfl rfl (v_eqlT rfl rfl (by omega)) ?_
      refine rl_k rfl (k_store hw T.scal_4 rfl rfl rfl (by (repeat first | with_reducible exact xH | apply xT); first | done | fail) rfl (by simp only [List.set, Int.reduceToNat, Nat.reduceMul, Nat.reduceAdd]; rfl) (fun w hw => ?_))
      refine rl_nil (g_le (xS rfl (xS rfl (xS rfl (xS rfl (Fr.le_refl _))))) ?_)
      refine g_retMC (bs := [bf2, bf]) Try.func43 rfl hw (by (repeat first | with_reducible exact xH | apply xT); first | done | fail) rfl (fun w hw => holds_scal T.scal_4 (by exact sat_cell hw (by (repeat first | with_reducible exact xH | apply xT); first | done | fail) rfl)) (fun w hw => ?_)
      exact ⟨by simp, hw.xQ⟩
    · skip
      rintro c0 bf2 w hw
      exact absurd hw.pu.1 id
  · skip
    rintro c0 bf w hw
    obtain ⟨hc0, hw2⟩ := hw.pu
    subst hc0
    have hw := Sat.flat (X := [_, _]) hw2
    dsimp only [List.append, List.cons_append, List.nil_append] at hw
    have hw := Sat.flat (X := [_, _]) (hw.xP (A := stars [pt q (.cells [Value.pointer (some ⟨m, 0, none⟩)].toArray 42 (0, 0)), MdAt m p s]))
    dsimp only [List.append, List.cons_append, List.nil_append] at hw
    have hw := marks_add ((marks_nil (hw.xP (A := pt bf (.deferred (some []))))).pick .at1)
    refine g_exit rfl (g_seq (g_seq ?_))
    refine g_region ?_
    refine rl_v rfl rfl rfl (by exact sat_cell hw (by (repeat first | with_reducible exact xH | apply xT); first | done | fail) rfl) (v_load T.scal_3 rfl) ?_
    refine rl_v rfl rfl rfl (by exact sat_cell hw (by (repeat first | with_reducible exact xH | apply xT); first | done | fail) rfl) (v_load T.scal_3 rfl) ?_
    refine rl_v rfl rfl rfl (by exact sat_cell hw (by (repeat first | with_reducible exact xH | apply xT); first | done | fail) rfl) (v_load T.scal_46 rfl) ?_
    refine xV rfl rfl rfl (v_lenSlice T.sl_46_57_3 rfl) ?_
    refine xV rfl rfl rfl (v_min rfl rfl) ?_
    refine xV rfl rfl rfl (v_neqF rfl rfl (by omega)) ?_
    refine rl_nil (g_le (xK (xS rfl (xS rfl (xS rfl (xS rfl (xS rfl (Fr.le_refl _))))))) ?_)
    refine g_cond_false rfl ?_
    refine g_skip (g_seq ?_)
    refine g_region ?_
    refine rl_k rfl (k_store hw T.scal_3 rfl rfl rfl (by (repeat first | with_reducible exact xH | apply xT); first | done | fail) rfl (by simp only [List.set, Int.reduceToNat, Nat.reduceMul, Nat.reduceAdd]; rfl) (fun w hw => ?_))
    refine rl_nil (g_le (Fr.le_refl _) ?_)
    refine g_seq (g_seq ?_)
    refine g_region ?_
    refine rl_v rfl rfl rfl (by exact sat_cell hw (by (repeat first | with_reducible exact xH | apply xT); first | done | fail) rfl) (v_load T.scal_59 rfl) ?_
    refine rl_nil (g_le (xK (Fr.le_refl _)) ?_)
    refine g_block ?_
    have hw1 := Sat.unflat (X := [_, _]) (hw.xQ : Sat E w ([pt q (.cells [Value.pointer (some ⟨m, 0, none⟩)].toArray 42 (0, 0)), MdAt m p s] ++ (marks [bf] :: pt bk4_0 (.cells [Value.int .i64 0].toArray 3 (0, 0)) :: pt bk1_2 (.cells [Value.func (.func 51) #[] #[.pointer (some ⟨q, 0, none⟩)]].toArray 59 (0, 0)) :: pt bk0_0 (.cells [Value.slice a s.past.length c].toArray 46 (0, 0)) :: pt bk0_1 (.cells [Value.int .i64 0].toArray 3 (0, 0)) :: pt bk0_2 (.cells [Value.bool false].toArray 4 (0, 0)) :: OwnSl 57 3 ((.slice a s.past.length c)) (s.past : List Wr).length ((s.past : List Wr).flatMap wrCells) :: L)))
    have hw2 := Sat.unflat (X := [_, _, _, _, _, _]) ((by rw [show ((0 : Nat) : Int) = 0 from rfl]; exact hw1.xQ) : Sat E w ([pt bk4_0 (.cells [Value.int .i64 ((0 : Nat) : Int)].toArray 3 (0, 0)), pt bk1_2 (.cells [Value.func (.func 51) #[] #[.pointer (some ⟨q, 0, none⟩)]].toArray 59 (0, 0)), pt bk0_0 (.cells [Value.slice a s.past.length c].toArray 46 (0, 0)), pt bk0_1 (.cells [Value.int .i64 0].toArray 3 (0, 0)), pt bk0_2 (.cells [Value.bool false].toArray 4 (0, 0)), OwnSl 57 3 ((.slice a s.past.length c)) (s.past : List Wr).length ((s.past : List Wr).flatMap wrCells)] ++ (stars [pt q (.cells [Value.pointer (some ⟨m, 0, none⟩)].toArray 42 (0, 0)), MdAt m p s] :: marks [bf] :: L)))
    refine g_rangeFuncB (I := fun i => stars [pt bk4_0 (.cells [Value.int .i64 ((i : Nat) : Int)].toArray 3 (0, 0)), pt bk1_2 (.cells [Value.func (.func 51) #[] #[.pointer (some ⟨q, 0, none⟩)]].toArray 59 (0, 0)), pt bk0_0 (.cells [Value.slice a s.past.length c].toArray 46 (0, 0)), pt bk0_1 (.cells [Value.int .i64 0].toArray 3 (0, 0)), pt bk0_2 (.cells [Value.bool false].toArray 4 (0, 0)), OwnSl 57 3 ((.slice a s.past.length c)) (s.past : List Wr).length ((s.past : List Wr).flatMap wrCells)]) (J := fun c => pu False Xe.emp) (ps := [29]) Try.func51 rfl rfl rfl (past_iterB (m := m) (p := p) (s := s) (by omega) q) (fun args ha => by obtain ⟨x, _, rfl⟩ := List.mem_map.1 ha; rfl) rfl hw2 ?_ ?_ ?_
    · skip
      rintro fn l rec i args M' w hst hx hw
      rw [List.getElem?_map] at hx
      obtain ⟨x, hxi, rfl⟩ := Option.map_eq_some_iff.1 hx
      have hw := Sat.flat (X := [_, _, _, _, _, _]) hw
      dsimp only [List.append, List.cons_append, List.nil_append] at hw
      have hlt : i < s.past.length := (List.getElem?_eq_some_iff.1 hxi).1
      have hsub := subAt_flat (f := wrCells) (sz := 3) (fun _ => rfl) hxi
      rw [show 0 + i * 3 = 0 + (i : Int).toNat * 3 by omega] at hsub
      dsimp only [wrCells] at hsub
      obtain ⟨g, rfl⟩ := ha (by omega)
      have h0 : s.past[0]? = some s.past[0] := List.getElem?_eq_getElem (by omega)
      generalize s.past[0] = y at h0
      have hsub0 := subAt_flat (f := wrCells) (sz := 3) (fun _ => rfl) h0
      dsimp only [wrCells] at hsub0
      dsimp only [zipF]
      refine g_region ?_
      refine rl_k rfl (k_alloc hw T.zero_57 rfl rfl (fun bk12_0 w hw => ?_))
      refine rl_k rfl (k_storeWhole hw T.agg_57_3 rfl rfl (by simp [Value.oneCell']) rfl (by (repeat first | with_reducible exact xH | apply xT); first | done | fail) rfl (fun w hw => ?_))
      refine rl_nil (g_le (xK (Fr.le_refl _)) ?_)
      have hw := hw.xP (A := pt l (.loop rec))
      refine g_beginRound hw hst (fun w hw => ?_)
      refine g_block (g_seq (g_seq ?_))
      refine g_drawRN ord_f43_r13_M12r (by kernel_rfl) T.mixed hw (fun w hw => ?_)
      refine rs_v 0 rfl rfl rfl rfl (OpV.mono (v_load T.scal_3 rfl) (fun w hw => by exact sat_cell hw (by (repeat first | with_reducible exact xH | apply xT); first | done | fail) rfl)) (by exact hw) ?_
      refine rs_kv 1 rfl rfl rfl rfl (by exact sat_cell hw (by (repeat first | with_reducible exact xH | apply xT); first | done | fail) rfl) (v_load T.scal_46 rfl) ?_
      refine rs_kv 2 rfl rfl rfl rfl (S' := fun _ => True) trivial (v_lenSlice T.sl_46_57_3 rfl) ?_
      refine rs_kv 3 rfl rfl rfl rfl (S' := fun _ => True) trivial (v_geqF rfl rfl (by omega)) ?_
      refine rs_kv 4 rfl rfl rfl rfl (S' := fun _ => True) trivial (v_move rfl) ?_
      refine rs_split (s := 34) rfl (fun g13_4 => ?_) (fun g13_4 => ?_)
      · try with_reducible exact ft_elim g13_4
        all_goals
          try replace g13_4 := of_decide_eq_true g13_4
          refine rs_voff 5 rfl (met_off rfl rfl rfl rfl rfl) rfl rfl (by first | exact hw | exact Sat.sub hw (by (repeat (first | with_reducible exact Sub.refl _ | exact Sub.nil _ | (apply Sub.cons; focus ((repeat (first | with_reducible exact Pick.here _ | apply Pick.there)); (first | done | fail))) | with_reducible apply Sub.drop)); first | done | fail)) ?_
          refine rs_voff 6 rfl (met_off rfl rfl rfl rfl rfl) rfl rfl (by first | exact hw | exact Sat.sub hw (by (repeat (first | with_reducible exact Sub.refl _ | exact Sub.nil _ | (apply Sub.cons; focus ((repeat (first | with_reducible exact Pick.here _ | apply Pick.there)); (first | done | fail))) | with_reducible apply Sub.drop)); first | done | fail)) ?_
          refine rs_koff 7 rfl (met_off rfl rfl rfl rfl rfl) rfl rfl ?_
          refine rs_koff 8 rfl (met_off rfl rfl rfl rfl rfl) rfl rfl ?_
          refine rs_koff 9 rfl (met_off rfl rfl rfl rfl rfl) rfl rfl ?_
          refine rs_koff 10 rfl (met_off rfl rfl rfl rfl rfl) rfl rfl ?_
          first | (refine rs_kv 11 rfl rfl rfl rfl (S' := fun _ => True) trivial (v_pick_true rfl rfl) ?_) | (refine rs_kv 11 rfl rfl rfl rfl (S' := fun _ => True) trivial (v_pick_false rfl rfl) ?_) | (refine rs_kv 11 rfl rfl rfl rfl (S' := fun _ => True) trivial (v_pick rfl rfl rfl) ?_)
          refine rs_done (g_le (xK (xS rfl (xS rfl (xS rfl (xS rfl (xS rfl (xS rfl (xS rfl (xS rfl (xS rfl (xS rfl (xS rfl (xS rfl (Fr.le_refl _)))))))))))))) ?_)
          refine g_cond_false rfl ?_
          refine g_skip (g_seq (g_seq ?_))
          refine g_region ?_
          refine rl_v rfl rfl rfl (by first | exact sat_cell hw (by (repeat first | with_reducible exact xH | apply xT); first | done | fail) rfl | exact own_cell hw (by (repeat first | with_reducible exact xH | apply xT); first | done | fail) (by first | rfl | assumption) | exact ro_at0 hw (by (repeat first | with_reducible exact xH | apply xT); first | done | fail) (by assumption) rfl | exact ro_at hw (by (repeat first | with_reducible exact xH | apply xT); first | done | fail) (by assumption) rfl | exact own_at0 hw (by (repeat first | with_reducible exact xH | apply xT); first | done | fail) (by assumption) rfl | exact own_at hw (by (repeat first | with_reducible exact xH | apply xT); first | done | fail) (by assumption) rfl | exact old_cell hw (by (repeat first | with_reducible exact xH | apply xT); first | done | fail) (by assumption) | assumption) (v_load T.scal_59 rfl) ?_
          refine rl_nil (g_le (xK (Fr.le_refl _)) ?_)
          refine g_block ?_
          have hw1 := Sat.unflat (X := [_, _, _, _, _, _, _]) (hw.xQ : Sat E w ([pt bk4_0 (.cells [Value.int .i64 ((i : Nat) : Int)].toArray 3 (0, 0)), pt bk1_2 (.cells [Value.func (.func 51) #[] #[.pointer (some ⟨q, 0, none⟩)]].toArray 59 (0, 0)), pt bk0_0 (.cells [Value.slice (some ⟨g, 0, none⟩) s.past.length c].toArray 46 (0, 0)), pt bk0_1 (.cells [Value.int .i64 0].toArray 3 (0, 0)), pt bk0_2 (.cells [Value.bool false].toArray 4 (0, 0)), OwnSl 57 3 ((.slice (some ⟨g, 0, none⟩) s.past.length c)) (s.past : List Wr).length ((s.past : List Wr).flatMap wrCells), pt bk12_0 (.cells [Value.int .i64 x.1, .int .i64 x.2.1, .string x.2.2].toArray 57 (0, 0))] ++ (stars [pt q (.cells [Value.pointer (some ⟨m, 0, none⟩)].toArray 42 (0, 0)), MdAt m p s] :: pt l (.loop { rec with state := .busy }) :: M')))
          have hw2 : Sat E w (pu ((0 : Nat) = 0) (stars [pt bk4_0 (.cells [Value.int .i64 ((i : Nat) : Int)].toArray 3 (0, 0)), pt bk1_2 (.cells [Value.func (.func 51) #[] #[.pointer (some ⟨q, 0, none⟩)]].toArray 59 (0, 0)), pt bk0_0 (.cells [Value.slice (some ⟨g, 0, none⟩) s.past.length c].toArray 46 (0, 0)), pt bk0_1 (.cells [Value.int .i64 0].toArray 3 (0, 0)), pt bk0_2 (.cells [Value.bool false].toArray 4 (0, 0)), OwnSl 57 3 ((.slice (some ⟨g, 0, none⟩) s.past.length c)) (s.past : List Wr).length ((s.past : List Wr).flatMap wrCells), pt bk12_0 (.cells [Value.int .i64 x.1, .int .i64 x.2.1, .string x.2.2].toArray 57 (0, 0))]) :: stars [pt q (.cells [Value.pointer (some ⟨m, 0, none⟩)].toArray 42 (0, 0)), MdAt m p s] :: pt l (.loop { rec with state := .busy }) :: M') := Sat.mk_pu rfl hw1
          refine g_rangeFuncN (I := fun j => pu (j = 0) (stars [pt bk4_0 (.cells [Value.int .i64 ((i : Nat) : Int)].toArray 3 (0, 0)), pt bk1_2 (.cells [Value.func (.func 51) #[] #[.pointer (some ⟨q, 0, none⟩)]].toArray 59 (0, 0)), pt bk0_0 (.cells [Value.slice (some ⟨g, 0, none⟩) s.past.length c].toArray 46 (0, 0)), pt bk0_1 (.cells [Value.int .i64 0].toArray 3 (0, 0)), pt bk0_2 (.cells [Value.bool false].toArray 4 (0, 0)), OwnSl 57 3 ((.slice (some ⟨g, 0, none⟩) s.past.length c)) (s.past : List Wr).length ((s.past : List Wr).flatMap wrCells), pt bk12_0 (.cells [Value.int .i64 x.1, .int .i64 x.2.1, .string x.2.2].toArray 57 (0, 0))])) (J := fun c' => pu (c' = .exit 4) (stars [pt bk4_0 (.cells [Value.int .i64 ((i : Nat) : Int)].toArray 3 (0, 0)), pt bk1_2 (.cells [Value.func (.func 51) #[] #[.pointer (some ⟨q, 0, none⟩)]].toArray 59 (0, 0)), pt bk0_0 (.cells [Value.slice (some ⟨g, 0, none⟩) s.past.length c].toArray 46 (0, 0)), pt bk0_1 (.cells [Value.int .i64 0].toArray 3 (0, 0)), pt bk0_2 (.cells [Value.bool false].toArray 4 (0, 0)), OwnSl 57 3 ((.slice (some ⟨g, 0, none⟩) s.past.length c)) (s.past : List Wr).length ((s.past : List Wr).flatMap wrCells), pt bk12_0 (.cells [Value.int .i64 x.1, .int .i64 x.2.1, .string x.2.2].toArray 57 (0, 0))])) (ps := [43]) Try.func51 rfl rfl rfl (past_iterB (m := m) (p := p) (s := s) (by omega) q) (fun args ha => by obtain ⟨x, _, rfl⟩ := List.mem_map.1 ha; rfl) rfl hw2 ?_ ?_ ?_
          · skip
            rintro fn l rec j args M' w hst hxj hw
            rw [List.getElem?_map] at hxj
            obtain ⟨x2, hx2, rfl⟩ := Option.map_eq_some_iff.1 hxj
            obtain ⟨hj0, hw2⟩ := hw.pu
            subst hj0
            obtain rfl := Option.some.inj (hx2.symm.trans h0)
            have hw := Sat.flat (X := [_, _, _, _, _, _, _]) hw2
            dsimp only [List.append, List.cons_append, List.nil_append] at hw
            dsimp only [zipF]
            refine g_region ?_
            refine rl_k rfl (k_alloc hw T.zero_57 rfl rfl (fun bk16_0 w hw => ?_))
            first | (refine rl_k rfl (k_storeWhole hw T.agg_57_3 rfl rfl (by simp [Value.oneCell']) rfl (by (repeat first | with_reducible exact xH | apply xT); first | done | fail) rfl (fun w hw => ?_))) | (refine rl_k rfl (k_storeAgg hw T.agg_57_3 rfl rfl (by simp [Value.oneCell']) rfl (by (repeat first | with_reducible exact xH | apply xT); first | done | fail) rfl rfl (fun w hw => ?_))) | (refine rl_k rfl (k_storeOwnAgg hw T.agg_57_3 rfl rfl (by simp [Value.oneCell']) rfl (by (repeat first | with_reducible exact xH | apply xT); first | done | fail) (by assumption) (by omega) (fun w hw => ?_)))
            refine rl_nil (g_le (xK (Fr.le_refl _)) ?_)
            have hw := hw.xP (A := pt l (.loop rec))
            refine g_beginRound hw hst (fun w hw => ?_)
            refine g_block (g_seq (g_seq ?_))
            refine g_drawRN ord_f43_r17_M12r (by kernel_rfl) T.mixed hw (fun w hw => ?_)
            refine rs_v 0 rfl rfl rfl rfl (OpV.mono (v_loadAgg (vs := [_, _, _]) T.agg_57_3 rfl rfl) (fun w hw => by first | exact sat_cells hw (by (repeat first | with_reducible exact xH | apply xT); first | done | fail) ⟨rfl, rfl, rfl, trivial⟩ | exact ro_ats hw (by (repeat first | with_reducible exact xH | apply xT); first | done | fail) (by assumption) | exact own_cells hw (by (repeat first | with_reducible exact xH | apply xT); first | done | fail) (by assumption) | exact old_cells hw (by (repeat first | with_reducible exact xH | apply xT); first | done | fail) (by assumption))) (by first | exact hw | exact Sat.sub hw (by (repeat (first | with_reducible exact Sub.refl _ | exact Sub.nil _ | (apply Sub.cons; focus ((repeat (first | with_reducible exact Pick.here _ | apply Pick.there)); (first | done | fail))) | with_reducible apply Sub.drop)); first | done | fail)) ?_
            refine rs_kv 1 rfl rfl rfl rfl (by first | exact sat_cell hw (by (repeat first | with_reducible exact xH | apply xT); first | done | fail) rfl | exact own_cell hw (by (repeat first | with_reducible exact xH | apply xT); first | done | fail) (by first | rfl | assumption) | exact ro_at0 hw (by (repeat first | with_reducible exact xH | apply xT); first | done | fail) (by assumption) rfl | exact ro_at hw (by (repeat first | with_reducible exact xH | apply xT); first | done | fail) (by assumption) rfl | exact own_at0 hw (by (repeat first | with_reducible exact xH | apply xT); first | done | fail) (by assumption) rfl | exact own_at hw (by (repeat first | with_reducible exact xH | apply xT); first | done | fail) (by assumption) rfl | exact old_cell hw (by (repeat first | with_reducible exact xH | apply xT); first | done | fail) (by assumption) | assumption) (v_load T.scal_46 rfl) ?_
            refine rs_kv 2 rfl rfl rfl rfl (S' := fun _ => True) trivial (v_indexAddr T.sl_46_57_3 rfl rfl (by omega) (by omega)) ?_
            refine rs_kv 3 rfl rfl rfl rfl (by first | exact sat_cells hw (by (repeat first | with_reducible exact xH | apply xT); first | done | fail) ⟨rfl, rfl, rfl, trivial⟩ | exact ro_ats hw (by (repeat first | with_reducible exact xH | apply xT); first | done | fail) (by assumption) | exact own_cells hw (by (repeat first | with_reducible exact xH | apply xT); first | done | fail) (by assumption) | exact old_cells hw (by (repeat first | with_reducible exact xH | apply xT); first | done | fail) (by assumption)) (v_loadAgg (vs := [_, _, _]) T.agg_57_3 rfl rfl) ?_
            refine rs_kv 4 rfl rfl rfl rfl (S' := fun _ => True) trivial (v_neqAgg T.cmp_57_iis rfl rfl rfl rfl (by first | exact eq_Raw _ _ | exact eq_wr | rfl)) ?_
            refine rs_done (g_le (xK (xS rfl (xS rfl (xS rfl (xS rfl (Fr.le_refl _)))))) ?_)
            refine g_cond_false rfl ?_
            refine g_skip ?_
            refine g_leaveExit rfl ?_
            refine Or.inr ⟨_, rfl, ?_⟩
            exact Sat.mk_pu rfl (Sat.unflat (X := [_, _, _, _, _, _, _]) (hw.xQ))
          · skip
            rintro w hw
            have h9 := hw.pu.1
            rw [List.length_map] at h9
            omega
          · skip
            rintro c0 w hw
            obtain ⟨hc0, hw2⟩ := hw.pu
            subst hc0
            have hw := Sat.flat (X := [_, _, _, _, _, _, _]) hw2
            dsimp only [List.append, List.cons_append, List.nil_append] at hw
            refine g_exit rfl ?_
            refine g_region ?_
            refine rl_v rfl rfl rfl (by first | exact sat_cell hw (by (repeat first | with_reducible exact xH | apply xT); first | done | fail) rfl | exact own_cell hw (by (repeat first | with_reducible exact xH | apply xT); first | done | fail) (by first | rfl | assumption) | exact ro_at0 hw (by (repeat first | with_reducible exact xH | apply xT); first | done | fail) (by assumption) rfl | exact ro_at hw (by (repeat first | with_reducible exact xH | apply xT); first | done | fail) (by assumption) rfl | exact own_at0 hw (by (repeat first | with_reducible exact xH | apply xT); first | done | fail) (by assumption) rfl | exact own_at hw (by (repeat first | with_reducible exact xH | apply xT); first | done | fail) (by assumption) rfl | exact old_cell hw (by (repeat first | with_reducible exact xH | apply xT); first | done | fail) (by assumption) | assumption) (v_load T.scal_3 rfl) ?_
            first | (refine xV rfl rfl rfl (v_add rfl rfl (by omega)) ?_) | (refine xV rfl rfl rfl (v_addW rfl rfl) ?_)
            first | (refine rl_k rfl (k_storeOwn hw T.scal_3 rfl rfl rfl (by (repeat first | with_reducible exact xH | apply xT); first | done | fail) (by assumption) (fun w hw => ?_))) | (refine rl_k rfl (k_store hw T.scal_3 rfl rfl rfl (by (repeat first | with_reducible exact xH | apply xT); first | done | fail) rfl (by first | (simp only [List.set, Int.reduceToNat, Nat.reduceMul, Nat.reduceAdd]; rfl) | rfl) (fun w hw => ?_)))
            refine rl_nil (g_le (xS rfl (xS rfl (Fr.le_refl _))) ?_)
            refine g_inBlock ?_
            refine g_endR ?_
            refine Or.inl ⟨rfl, ?_⟩
            exact Sat.unflat (X := [_, _, _, _, _, _]) ((by rw [show (((i + 1 : Nat) : Int)) = (i : Int) + 1 by omega]; exact hw.xQ) : Sat E _ ([pt bk4_0 (.cells [Value.int .i64 ((i + 1 : Nat) : Int)].toArray 3 (0, 0)), pt bk1_2 (.cells [Value.func (.func 51) #[] #[.pointer (some ⟨q, 0, none⟩)]].toArray 59 (0, 0)), pt bk0_0 (.cells [Value.slice (some ⟨g, 0, none⟩) s.past.length c].toArray 46 (0, 0)), pt bk0_1 (.cells [Value.int .i64 0].toArray 3 (0, 0)), pt bk0_2 (.cells [Value.bool false].toArray 4 (0, 0)), OwnSl 57 3 ((.slice (some ⟨g, 0, none⟩) s.past.length c)) (s.past : List Wr).length ((s.past : List Wr).flatMap wrCells)] ++ (pt l (.loop { rec with state := .busy }) :: stars [pt q (.cells [Value.pointer (some ⟨m, 0, none⟩)].toArray 42 (0, 0)), MdAt m p s] :: M')))
      · try with_reducible exact tf_elim g13_4
        all_goals
          try replace g13_4 := of_decide_eq_false g13_4
          refine rs_vg 5 rfl (met_on rfl rfl rfl rfl) rfl rfl (OpV.mono (v_loadAgg (vs := [_, _, _]) T.agg_57_3 rfl rfl) (fun w hw => by exact sat_cells hw (by (repeat first | with_reducible exact xH | apply xT); first | done | fail) ⟨rfl, rfl, rfl, trivial⟩)) (by exact hw) ?_
          refine rs_vg 6 rfl (met_on rfl rfl rfl rfl) rfl rfl (OpV.mono (v_load T.scal_46 rfl) (fun w hw => by exact sat_cell hw (by (repeat first | with_reducible exact xH | apply xT); first | done | fail) rfl)) (by exact hw) ?_
          refine rs_kvg 7 rfl (met_on rfl rfl rfl rfl) rfl rfl (by exact sat_cell hw (by (repeat first | with_reducible exact xH | apply xT); first | done | fail) rfl) (v_load T.scal_3 rfl) ?_
          refine rs_kvg 8 rfl (met_on rfl rfl rfl rfl) rfl rfl (S' := fun _ => True) trivial (v_indexAddr T.sl_46_57_3 rfl rfl (by omega) (by omega)) ?_
          refine rs_kvg 9 rfl (met_on rfl rfl rfl rfl) rfl rfl (by exact own_cells hw (by (repeat first | with_reducible exact xH | apply xT); first | done | fail) (by assumption)) (v_loadAgg (vs := [_, _, _]) T.agg_57_3 rfl rfl) ?_
          refine rs_kvg 10 rfl (met_on rfl rfl rfl rfl) rfl rfl (S' := fun _ => True) trivial (v_neqAgg T.cmp_57_iis rfl rfl rfl rfl (by exact eq_wr)) ?_
          refine rs_kv 11 rfl rfl rfl rfl (S' := fun _ => True) trivial (v_pick_false rfl rfl) ?_
          refine rs_done (g_le (xK (xS rfl (xS rfl (xS rfl (xS rfl (xS rfl (xS rfl (xS rfl (xS rfl (xS rfl (xS rfl (xS rfl (xS rfl (Fr.le_refl _)))))))))))))) ?_)
          refine g_cond_false rfl ?_
          refine g_skip (g_seq (g_seq ?_))
          refine g_region ?_
          refine rl_v rfl rfl rfl (by exact sat_cell hw (by (repeat first | with_reducible exact xH | apply xT); first | done | fail) rfl) (v_load T.scal_59 rfl) ?_
          refine rl_nil (g_le (xK (Fr.le_refl _)) ?_)
          refine g_block ?_
          have hw1 := Sat.unflat (X := [_, _, _, _, _, _, _]) (hw.xQ : Sat E w ([pt bk4_0 (.cells [Value.int .i64 ((i : Nat) : Int)].toArray 3 (0, 0)), pt bk1_2 (.cells [Value.func (.func 51) #[] #[.pointer (some ⟨q, 0, none⟩)]].toArray 59 (0, 0)), pt bk0_0 (.cells [Value.slice (some ⟨g, 0, none⟩) s.past.length c].toArray 46 (0, 0)), pt bk0_1 (.cells [Value.int .i64 0].toArray 3 (0, 0)), pt bk0_2 (.cells [Value.bool false].toArray 4 (0, 0)), OwnSl 57 3 ((.slice (some ⟨g, 0, none⟩) s.past.length c)) (s.past : List Wr).length ((s.past : List Wr).flatMap wrCells), pt bk12_0 (.cells [Value.int .i64 x.1, .int .i64 x.2.1, .string x.2.2].toArray 57 (0, 0))] ++ (stars [pt q (.cells [Value.pointer (some ⟨m, 0, none⟩)].toArray 42 (0, 0)), MdAt m p s] :: pt l (.loop { rec with state := .busy }) :: M')))
          have hw2 : Sat E w (pu ((0 : Nat) = 0) (stars [pt bk4_0 (.cells [Value.int .i64 ((i : Nat) : Int)].toArray 3 (0, 0)), pt bk1_2 (.cells [Value.func (.func 51) #[] #[.pointer (some ⟨q, 0, none⟩)]].toArray 59 (0, 0)), pt bk0_0 (.cells [Value.slice (some ⟨g, 0, none⟩) s.past.length c].toArray 46 (0, 0)), pt bk0_1 (.cells [Value.int .i64 0].toArray 3 (0, 0)), pt bk0_2 (.cells [Value.bool false].toArray 4 (0, 0)), OwnSl 57 3 ((.slice (some ⟨g, 0, none⟩) s.past.length c)) (s.past : List Wr).length ((s.past : List Wr).flatMap wrCells), pt bk12_0 (.cells [Value.int .i64 x.1, .int .i64 x.2.1, .string x.2.2].toArray 57 (0, 0))]) :: stars [pt q (.cells [Value.pointer (some ⟨m, 0, none⟩)].toArray 42 (0, 0)), MdAt m p s] :: pt l (.loop { rec with state := .busy }) :: M') := Sat.mk_pu rfl hw1
          refine g_rangeFuncN (I := fun j => pu (j = 0) (stars [pt bk4_0 (.cells [Value.int .i64 ((i : Nat) : Int)].toArray 3 (0, 0)), pt bk1_2 (.cells [Value.func (.func 51) #[] #[.pointer (some ⟨q, 0, none⟩)]].toArray 59 (0, 0)), pt bk0_0 (.cells [Value.slice (some ⟨g, 0, none⟩) s.past.length c].toArray 46 (0, 0)), pt bk0_1 (.cells [Value.int .i64 0].toArray 3 (0, 0)), pt bk0_2 (.cells [Value.bool false].toArray 4 (0, 0)), OwnSl 57 3 ((.slice (some ⟨g, 0, none⟩) s.past.length c)) (s.past : List Wr).length ((s.past : List Wr).flatMap wrCells), pt bk12_0 (.cells [Value.int .i64 x.1, .int .i64 x.2.1, .string x.2.2].toArray 57 (0, 0))])) (J := fun c' => pu (c' = .exit 4) (stars [pt bk4_0 (.cells [Value.int .i64 ((i : Nat) : Int)].toArray 3 (0, 0)), pt bk1_2 (.cells [Value.func (.func 51) #[] #[.pointer (some ⟨q, 0, none⟩)]].toArray 59 (0, 0)), pt bk0_0 (.cells [Value.slice (some ⟨g, 0, none⟩) s.past.length c].toArray 46 (0, 0)), pt bk0_1 (.cells [Value.int .i64 0].toArray 3 (0, 0)), pt bk0_2 (.cells [Value.bool false].toArray 4 (0, 0)), OwnSl 57 3 ((.slice (some ⟨g, 0, none⟩) s.past.length c)) (s.past : List Wr).length ((s.past : List Wr).flatMap wrCells), pt bk12_0 (.cells [Value.int .i64 x.1, .int .i64 x.2.1, .string x.2.2].toArray 57 (0, 0))])) (ps := [43]) Try.func51 rfl rfl rfl (past_iterB (m := m) (p := p) (s := s) (by omega) q) (fun args ha => by obtain ⟨x, _, rfl⟩ := List.mem_map.1 ha; rfl) rfl hw2 ?_ ?_ ?_
          · skip
            rintro fn l rec j args M' w hst hxj hw
            rw [List.getElem?_map] at hxj
            obtain ⟨x2, hx2, rfl⟩ := Option.map_eq_some_iff.1 hxj
            obtain ⟨hj0, hw2⟩ := hw.pu
            subst hj0
            obtain rfl := Option.some.inj (hx2.symm.trans h0)
            have hw := Sat.flat (X := [_, _, _, _, _, _, _]) hw2
            dsimp only [List.append, List.cons_append, List.nil_append] at hw
            dsimp only [zipF]
            refine g_region ?_
            refine rl_k rfl (k_alloc hw T.zero_57 rfl rfl (fun bk16_0 w hw => ?_))
            refine rl_k rfl (k_storeWhole hw T.agg_57_3 rfl rfl (by simp [Value.oneCell']) rfl (by (repeat first | with_reducible exact xH | apply xT); first | done | fail) rfl (fun w hw => ?_))
            refine rl_nil (g_le (xK (Fr.le_refl _)) ?_)
            have hw := hw.xP (A := pt l (.loop rec))
            refine g_beginRound hw hst (fun w hw => ?_)
            refine g_block (g_seq (g_seq ?_))
            refine g_drawRN ord_f43_r17_M12r (by kernel_rfl) T.mixed hw (fun w hw => ?_)
            refine rs_v 0 rfl rfl rfl rfl (OpV.mono (v_loadAgg (vs := [_, _, _]) T.agg_57_3 rfl rfl) (fun w hw => by exact sat_cells hw (by (repeat first | with_reducible exact xH | apply xT); first | done | fail) ⟨rfl, rfl, rfl, trivial⟩)) (by exact hw) ?_
            refine rs_kv 1 rfl rfl rfl rfl (by exact sat_cell hw (by (repeat first | with_reducible exact xH | apply xT); first | done | fail) rfl) (v_load T.scal_46 rfl) ?_
            refine rs_kv 2 rfl rfl rfl rfl (S' := fun _ => True) trivial (v_indexAddr T.sl_46_57_3 rfl rfl (by omega) (by omega)) ?_
            refine rs_kv 3 rfl rfl rfl rfl (by exact own_cells hw (by (repeat first | with_reducible exact xH | apply xT); first | done | fail) (by assumption)) (v_loadAgg (vs := [_, _, _]) T.agg_57_3 rfl rfl) ?_
            refine rs_kv 4 rfl rfl rfl rfl (S' := fun _ => True) trivial (v_neqAgg T.cmp_57_iis rfl rfl rfl rfl (by exact eq_wr)) ?_
            refine rs_done (g_le (xK (xS rfl (xS rfl (xS rfl (xS rfl (Fr.le_refl _)))))) ?_)
            refine g_cond_false rfl ?_
            refine g_skip ?_
            refine g_leaveExit rfl ?_
            refine Or.inr ⟨_, rfl, ?_⟩
            exact Sat.mk_pu rfl (Sat.unflat (X := [_, _, _, _, _, _, _]) (hw.xQ))
          · skip
            rintro w hw
            have h9 := hw.pu.1
            rw [List.length_map] at h9
            omega
          · skip
            rintro c0 w hw
            obtain ⟨hc0, hw2⟩ := hw.pu
            subst hc0
            have hw := Sat.flat (X := [_, _, _, _, _, _, _]) hw2
            dsimp only [List.append, List.cons_append, List.nil_append] at hw
            refine g_exit rfl ?_
            refine g_region ?_
            refine rl_v rfl rfl rfl (by exact sat_cell hw (by (repeat first | with_reducible exact xH | apply xT); first | done | fail) rfl) (v_load T.scal_3 rfl) ?_
            refine xV rfl rfl rfl (v_add rfl rfl (by omega)) ?_
            refine rl_k rfl (k_store hw T.scal_3 rfl rfl rfl (by (repeat first | with_reducible exact xH | apply xT); first | done | fail) rfl (by simp only [List.set, Int.reduceToNat, Nat.reduceMul, Nat.reduceAdd]; rfl) (fun w hw => ?_))
            refine rl_nil (g_le (xS rfl (xS rfl (Fr.le_refl _))) ?_)
            refine g_inBlock ?_
            refine g_endR ?_
            refine Or.inl ⟨rfl, ?_⟩
            exact Sat.unflat (X := [_, _, _, _, _, _]) ((by rw [show (((i + 1 : Nat) : Int)) = (i : Int) + 1 by omega]; exact hw.xQ) : Sat E _ ([pt bk4_0 (.cells [Value.int .i64 ((i + 1 : Nat) : Int)].toArray 3 (0, 0)), pt bk1_2 (.cells [Value.func (.func 51) #[] #[.pointer (some ⟨q, 0, none⟩)]].toArray 59 (0, 0)), pt bk0_0 (.cells [Value.slice (some ⟨g, 0, none⟩) s.past.length c].toArray 46 (0, 0)), pt bk0_1 (.cells [Value.int .i64 0].toArray 3 (0, 0)), pt bk0_2 (.cells [Value.bool false].toArray 4 (0, 0)), OwnSl 57 3 ((.slice (some ⟨g, 0, none⟩) s.past.length c)) (s.past : List Wr).length ((s.past : List Wr).flatMap wrCells)] ++ (pt l (.loop { rec with state := .busy }) :: stars [pt q (.cells [Value.pointer (some ⟨m, 0, none⟩)].toArray 42 (0, 0)), MdAt m p s] :: M')))
    · skip
      rintro bf2 w hw
      have hw := Sat.flat (X := [_, _, _, _, _, _]) hw
      dsimp only [List.append, List.cons_append, List.nil_append] at hw
      have hw := Sat.flat (X := [_, _]) (hw.xP (A := stars [pt q (.cells [Value.pointer (some ⟨m, 0, none⟩)].toArray 42 (0, 0)), MdAt m p s]))
      dsimp only [List.append, List.cons_append, List.nil_append] at hw
      rw [List.length_map] at hw
      have hw := marks_add ((hw.xP (A := marks [bf])).xP (A := pt bf2 (.deferred (some []))))
      refine g_inBlock (g_seq ?_)
      refine g_region ?_
      refine rl_v rfl rfl rfl (by exact sat_cell hw (by (repeat first | with_reducible exact xH | apply xT); first | done | fail) rfl) (v_load T.scal_3 rfl) ?_
      refine rl_v rfl rfl rfl (by exact sat_cell hw (by (repeat first | with_reducible exact xH | apply xT); first | done | fail) rfl) (v_load T.scal_46 rfl) ?_
      refine xV rfl rfl rfl (v_lenSlice T.sl_46_57_3 rfl) ?_
      refine xV rfl rfl rfl (v_eqlT rfl rfl (by omega)) ?_
      refine rl_k rfl (k_store hw T.scal_4 rfl rfl rfl (by (repeat first | with_reducible exact xH | apply xT); first | done | fail) rfl (by simp only [List.set, Int.reduceToNat, Nat.reduceMul, Nat.reduceAdd]; rfl) (fun w hw => ?_))
      refine rl_nil (g_le (xS rfl (xS rfl (xS rfl (xS rfl (Fr.le_refl _))))) ?_)
      refine g_retMC (bs := [bf2, bf]) Try.func43 rfl hw (by (repeat first | with_reducible exact xH | apply xT); first | done | fail) rfl (fun w hw => holds_scal T.scal_4 (by exact sat_cell hw (by (repeat first | with_reducible exact xH | apply xT); first | done | fail) rfl)) (fun w hw => ?_)
      exact ⟨by simp, hw.xQ⟩
    · skip
      rintro c0 bf2 w hw
      exact absurd hw.pu.1 id
end Go.Proofs.Ytdebodbkggbjeaa
