/-
  The log (layer 14): the library's iterators over places: Values, AppendSeq, Collect, SortedFunc.
-/
import Derived.Test.YtipdklbedpkobaaS14g
namespace Go.Proofs.Ytipdklbedpkobaa
set_option maxRecDepth 8000
set_option linter.unusedSimpArgs false
set_option linter.unusedVariables false
open Go Xe Go.Lib
theorem values_calls {E : Env} {w : World} {L : List As} (a : Option Addr) (n c : Nat) (hw : Sat E w L) :
    Calls Try.prog 69 #[.slice a n c] w fun e w' => ∃ q, e = .returned (.func (.func 81) #[] #[.pointer (some ⟨q, 0, none⟩)]) ∧ Sat E w' (pt q (.cells [Value.slice a n c].toArray 70 (0, 0)) :: L) := by
  refine calls_of_g (n := 4) Try.func69 rfl rfl rfl ?_
  change G _ _ _ _ _ [(0, _)] _
  refine g_seq ?_
  refine g_region ?_
  refine rl_k rfl (k_box hw rfl rfl rfl (fun bk0_0 w hw => ?_))
  refine xV rfl rfl rfl (v_assign rfl) ?_
  refine rl_nil (g_le (xK (xK (Fr.le_refl _))) ?_)
  refine g_seq ?_
  refine g_region ?_
  refine xV rfl rfl rfl (v_makeFunc rfl rfl) ?_
  refine xV rfl rfl rfl (v_assign rfl) ?_
  refine rl_nil (g_le (xK (xS rfl (Fr.le_refl _))) ?_)
  refine g_ret1 Try.func69 rfl rfl ?_
  exact ⟨_, rfl, hw⟩
theorem values_iter {E : Env} {A : As} {v : Value} {xs : List Pl} (hS : SrcA A v xs) (q : Nat) :
    IterC Try.prog E 81 [.pointer (some ⟨q, 0, none⟩)] (xs.map fun x => [.agg x.cells.toArray]) (stars [pt q (.cells [v].toArray 70 (0, 0)), A]) (stars [pt q (.cells [v].toArray 70 (0, 0)), A]) := by
  obtain ⟨a, c, rfl, hn, hat⟩ := hS
  intro yl I M w hround hw
  have hw := Sat.flat (X := [_, _]) (hw.pick .at1)
  dsimp only [List.append, List.cons_append, List.nil_append] at hw
  refine calls_of_g (n := 16) Try.func81 rfl rfl rfl ?_
  change G _ _ _ _ _ [(0, _), (1, _)] _
  refine g_seq ?_
  refine g_region ?_
  refine rl_v rfl rfl rfl (by exact sat_cell hw (by (repeat first | with_reducible exact xH | apply xT); first | done | fail) rfl) (v_load T.scal_70 rfl) ?_
  refine xV rfl rfl rfl (v_lenSlice T.sl_70_58_3 rfl) ?_
  refine xV rfl rfl rfl (v_move rfl) ?_
  refine rl_nil (g_le (xK (xK (xK (Fr.le_refl _)))) ?_)
  refine g_block ?_
  refine g_loopC (σ := Nat) (fun C x => (7, .int .i64 (x : Nat)) :: C) [(0, _), (5, _), (6, _)] (by repeat (first | exact Fr.le_nil _ | refine Fr.le_cons rfl ?_)) (fun z w => z ≤ xs.length ∧ Sat E w (I z :: pt q (.cells [Value.slice a xs.length c].toArray 70 (0, 0)) :: A :: M)) (fun z => xs.length - z) ?_ 0 (by repeat (first | exact Fr.le_nil _ | refine Fr.le_cons rfl ?_)) ⟨by simp, hw.xQ⟩
  rintro i w ⟨hi, hw⟩ ih
  refine g_seq ?_
  refine g_region ?_
  refine xV rfl rfl rfl (v_lss rfl rfl) ?_
  refine rl_nil (g_le (xK (Fr.le_refl _)) ?_)
  refine g_seq ?_
  refine g_cond rfl (fun h1 => ?_) (fun h1 => ?_)
  · try with_reducible exact ft_elim h1
    all_goals
      try replace h1 := of_decide_eq_true h1
      refine g_skip (g_seq (g_block (g_seq ?_)))
      have hlt : i < xs.length := by omega
      have hx : xs[i]? = some xs[i] := List.getElem?_eq_getElem hlt
      generalize xs[i] = x at hx
      obtain ⟨b, o, rfl, hcx⟩ := hat i x hx
      rw [show i * 3 = (i : Int).toNat * 3 by omega] at hcx
      refine g_region ?_
      refine xV rfl rfl rfl (v_indexAddr T.sl_70_58_3 rfl rfl (by omega) (by omega)) ?_
      refine rl_v rfl rfl rfl (by exact hcx _ _ _ (hw.xP)) (v_loadAgg (vs := [_, _, _]) T.agg_58_3 rfl rfl) ?_
      refine rl_k rfl (k_alloc hw T.zero_58 rfl rfl (fun bk2_2 w hw => ?_))
      refine rl_k rfl (k_storeWhole hw T.agg_58_3 rfl rfl (by simp [Value.oneCell']) rfl (by (repeat first | with_reducible exact xH | apply xT); first | done | fail) rfl (fun w hw => ?_))
      refine rl_nil (g_le (xK (xK (xK (Fr.le_refl _)))) ?_)
      refine g_seq ?_
      refine g_region ?_
      refine xV rfl rfl rfl (v_move rfl) ?_
      refine rl_v rfl rfl rfl (by exact sat_cells hw (by (repeat first | with_reducible exact xH | apply xT); first | done | fail) ⟨rfl, rfl, rfl, trivial⟩) (v_loadAgg (vs := [_, _, _]) T.agg_58_3 rfl rfl) ?_
      refine rl_yield rfl rfl rfl (YCalls.mono (hround i _ (pt bk2_2 (.cells x.cells.toArray 58 (0, 0)) :: pt q (.cells [Value.slice (some ⟨b, o, none⟩) xs.length c].toArray 70 (0, 0)) :: A :: M) _ (by rw [List.getElem?_map, hx]; rfl) (hw.xQ)) ?_)
      rintro _ w ⟨rfl, hw⟩
      refine ⟨_, rfl, ?_⟩
      refine xV rfl rfl rfl (v_not rfl) ?_
      refine rl_nil (g_le (xK (xK (xK (xK (Fr.le_refl _))))) ?_)
      refine g_cond_false rfl ?_
      refine g_skip (g_inBlock ?_)
      refine g_region ?_
      refine xV rfl rfl rfl (v_add rfl rfl (by omega)) ?_
      refine xV rfl rfl rfl (v_move rfl) ?_
      refine rl_nil (g_le (xK (xK (Fr.le_refl _))) ?_)
      exact g_le (by repeat (first | exact Fr.le_nil _ | refine Fr.le_cons rfl ?_)) (ih (i + 1) w ⟨by omega, hw.xQ⟩ (by omega))
  · try with_reducible exact tf_elim h1
    all_goals
      try replace h1 := of_decide_eq_false h1
      refine g_exit rfl ?_
      refine g_end0 Try.func81 rfl ?_
      refine ⟨⟨_, rfl⟩, ?_⟩
      obtain rfl : i = xs.length := by omega
      rw [List.length_map]
      exact (Sat.unflat (X := [_, _]) (hw.xQ : Sat E w ([pt q (.cells [Value.slice a xs.length c].toArray 70 (0, 0)), A] ++ (I xs.length :: M)))).pick .at1
theorem appendSeq_calls {E : Env} {w : World} {L : List As} {gf : FuncId} {fn : Func} {lb : List Value} {xs : List Pl} {Own Own' : As} (hfn : Try.prog.funcs[gf]? = some fn) (hname : (fn.name == "runtime.NumGoroutine") = false) (hb : fn.body.isSome = true)
    (hit : IterC Try.prog E gf lb (xs.map fun x => [.agg x.cells.toArray]) Own Own') (hn : xs.length * 24 ≤ 140737488355328) (hw : Sat E w (Own :: L)) :
    Calls Try.prog 83 #[.slice none 0 0, .func (.func gf) #[] lb.toArray] w fun e w' => ∃ v, e = .returned v ∧ Sat E w' (OwnSl 58 3 v xs.length (xs.flatMap Pl.cells) :: Own' :: L) := by
  have hcl : ∀ ys : List Pl, (ys.flatMap Pl.cells).length = ys.length * 3 := fun ys => by
    induction ys with
    | nil => rfl
    | cons y ys ih => simp only [List.flatMap_cons, List.length_append, ih, List.length_cons, List.length_nil]; omega
  refine calls_of_g (n := 13) Try.func83 rfl rfl rfl ?_
  change G _ _ _ _ _ [(0, _), (1, _)] _
  refine g_seq ?_
  refine g_region ?_
  refine rl_k rfl (k_box hw rfl rfl rfl (fun bk0_0 w hw => ?_))
  refine xV rfl rfl rfl (v_assign rfl) ?_
  refine rl_nil (g_le (xK (xK (Fr.le_refl _))) ?_)
  refine g_seq (g_seq ?_)
  refine g_region ?_
  refine xV rfl rfl rfl (v_move rfl) ?_
  refine rl_nil (g_le (xK (Fr.le_refl _)) ?_)
  refine g_block ?_
  have hwI : Sat E w ((Xe.ex fun v => stars [pt bk0_0 (.cells [v].toArray 70 (0, 0)), OwnSl 58 3 v 0 ((xs.take 0).flatMap Pl.cells)]) :: Own :: L) := Sat.mk_ex (.slice none 0 0) (Sat.unflat (X := [_, _]) (by rw [List.take_zero, List.flatMap_nil]; exact (hw.own_nil 58 3).xQ))
  refine g_rangeFunc (I := fun i => Xe.ex fun v => stars [pt bk0_0 (.cells [v].toArray 70 (0, 0)), OwnSl 58 3 v i ((xs.take i).flatMap Pl.cells)]) (Own := Own) (Own' := Own') (ps := [7]) (L := L) hfn hname hb rfl hit (fun args ha => by obtain ⟨x, _, rfl⟩ := List.mem_map.1 ha; rfl) rfl hwI ?_ ?_
  · skip
    rintro fn l rec i args M w hst hx hw
    rw [List.getElem?_map] at hx
    obtain ⟨x, hxi, rfl⟩ := Option.map_eq_some_iff.1 hx
    obtain ⟨v, hw⟩ := hw.ex
    have hw := Sat.flat (X := [_, _]) hw
    dsimp only [List.append, List.cons_append, List.nil_append] at hw
    have hlt : i < xs.length := (List.getElem?_eq_some_iff.1 hxi).1
    have htk : (xs.take i).length = i := by rw [List.length_take]; omega
    have hlen := hcl (xs.take i)
    rw [htk] at hlen
    dsimp only [zipF]
    refine g_region ?_
    refine rl_k rfl (k_alloc hw T.zero_58 rfl rfl (fun bk2_0 w hw => ?_))
    refine rl_k rfl (k_storeWhole hw T.agg_58_3 rfl rfl (by simp [Value.oneCell']) rfl (by (repeat first | with_reducible exact xH | apply xT); first | done | fail) rfl (fun w hw => ?_))
    refine rl_nil (g_le (xK (Fr.le_refl _)) ?_)
    have hw := hw.xP (A := pt l (.loop rec))
    refine g_beginRound hw hst (fun w hw => ?_)
    refine g_block ?_
    obtain ⟨va, vc, rfl, _, _, _⟩ := (hw.xP (A := OwnSl 58 3 v i ((xs.take i).flatMap Pl.cells))).own_shape
    refine g_region ?_
    refine rl_v rfl rfl rfl (by exact sat_cell hw (by (repeat first | with_reducible exact xH | apply xT); first | done | fail) rfl) (v_load T.scal_70 rfl) ?_
    refine rl_v rfl rfl rfl (by exact sat_cells hw (by (repeat first | with_reducible exact xH | apply xT); first | done | fail) ⟨rfl, rfl, rfl, trivial⟩) (v_loadAgg (vs := [_, _, _]) T.agg_58_3 rfl rfl) ?_
    refine rl_k rfl (k_buildSlice (cells := [_, _, _]) hw T.sl_70_58_3 T.zero_58 rfl rfl rfl rfl rfl rfl (fun bk3_2 w hw => ?_))
    refine rl_k rfl (k_append (news := [_, _, _]) hw T.sl_70_58_3 T.zero_58 T.bytes_58_24 rfl (by decide) rfl rfl (by (repeat first | with_reducible exact xH | apply xT); first | done | fail) rfl (by exact sat_cells hw (by (repeat first | with_reducible exact xH | apply xT); first | done | fail) ⟨rfl, rfl, rfl, trivial⟩) (by simp [Value.oneCell']) (by omega) (by simp only [maxLen]; omega) rfl (fun vv3_3 w hw hnil => ?_))
    obtain ⟨va2, vc2, rfl, _, _, _⟩ := hw.own_shape
    refine rl_k rfl (k_store hw T.scal_70 rfl rfl rfl (by (repeat first | with_reducible exact xH | apply xT); first | done | fail) rfl (by simp only [List.set, Int.reduceToNat, Nat.reduceMul, Nat.reduceAdd]; rfl) (fun w hw => ?_))
    refine rl_nil (g_le (xS rfl (xS rfl (xS rfl (xS rfl (Fr.le_refl _))))) ?_)
    refine g_inBlock ?_
    refine g_endR ?_
    refine Sat.mk_ex (.slice va2 (i + 1) vc2) (Sat.unflat (X := [_, _]) ?_)
    rw [List.take_add_one, hxi, List.flatMap_append, Option.toList_some, List.flatMap_singleton]
    exact hw.xQ
  · skip
    rintro bf w hw
    obtain ⟨v, hw⟩ := hw.ex
    have hw := Sat.flat (X := [_, _]) hw
    dsimp only [List.append, List.cons_append, List.nil_append] at hw
    have hw := marks_add ((marks_nil (hw.xP (A := pt bf (.deferred (some []))))).pick .at1)
    rw [List.length_map, List.take_length] at hw
    refine g_inBlock (g_seq ?_)
    refine g_region ?_
    refine rl_v rfl rfl rfl (by exact sat_cell hw (by (repeat first | with_reducible exact xH | apply xT); first | done | fail) rfl) (v_load T.scal_70 rfl) ?_
    refine xV rfl rfl rfl (v_assign rfl) ?_
    refine rl_nil (g_le (xK (xS rfl (Fr.le_refl _))) ?_)
    refine g_retM1 (bs := [bf]) Try.func83 rfl hw (by (repeat first | with_reducible exact xH | apply xT); first | done | fail) rfl (fun w hw => ?_)
    exact ⟨v, rfl, hw.xQ⟩
theorem collect_calls {E : Env} {w : World} {L : List As} {gf : FuncId} {fn : Func} {lb : List Value} {xs : List Pl} {Own Own' : As} (hfn : Try.prog.funcs[gf]? = some fn) (hname : (fn.name == "runtime.NumGoroutine") = false) (hb : fn.body.isSome = true)
    (hit : IterC Try.prog E gf lb (xs.map fun x => [.agg x.cells.toArray]) Own Own') (hn : xs.length * 24 ≤ 140737488355328) (hw : Sat E w (Own :: L)) :
    Calls Try.prog 79 #[.func (.func gf) #[] lb.toArray] w fun e w' => ∃ v, e = .returned v ∧ Sat E w' (OwnSl 58 3 v xs.length (xs.flatMap Pl.cells) :: Own' :: L) := by
  refine calls_of_g (n := 5) Try.func79 rfl rfl rfl ?_
  change G _ _ _ _ _ [(0, _)] _
  refine g_seq ?_
  refine g_region ?_
  refine xV rfl rfl rfl (v_assign rfl) ?_
  refine rl_nil (g_le (xK (Fr.le_refl _)) ?_)
  refine g_seq ?_
  refine g_region ?_
  refine xV rfl rfl rfl (v_move rfl) ?_
  refine rl_k rfl (k_callf Try.func83 rfl rfl rfl rfl ?_)
  refine Calls.mono (appendSeq_calls hfn hname hb hit hn hw) ?_
  rintro _ w ⟨v, rfl, hw⟩
  refine ⟨_, rfl, ?_⟩
  refine xV rfl rfl rfl (v_assign rfl) ?_
  refine rl_nil (g_le (xK (xS rfl (xS rfl (Fr.le_refl _)))) ?_)
  refine g_ret1 Try.func79 rfl rfl ?_
  exact ⟨_, rfl, hw⟩
theorem sorted_calls {E : Env} {w : World} {L : List As} {gf : FuncId} {fn : Func} {lb : List Value} {xs : List Pl} {Own Own' : As} (hfn : Try.prog.funcs[gf]? = some fn) (hname : (fn.name == "runtime.NumGoroutine") = false) (hb : fn.body.isSome = true)
    (hit : IterC Try.prog E gf lb (xs.map fun x => [.agg x.cells.toArray]) Own Own') (hn : xs.length * 24 ≤ 140737488355328) (hw : Sat E w (Own :: L)) :
    Calls Try.prog 68 #[.func (.func gf) #[] lb.toArray, .func (.func 70) #[] #[]] w fun e w' => ∃ v, e = .returned v ∧ ∃ ys : List Pl, ys.Perm xs ∧ ys.Pairwise (fun x y => Go.Proofs.ltOf cfP y x = false) ∧ Sat E w' (OwnSl 58 3 v xs.length (ys.flatMap Pl.cells) :: Own' :: L) := by
  refine calls_of_g (n := 12) Try.func68 rfl rfl rfl ?_
  change G _ _ _ _ _ [(0, _), (1, _)] _
  refine g_seq ?_
  refine g_region ?_
  refine xV rfl rfl rfl (v_assign rfl) ?_
  refine rl_nil (g_le (xK (Fr.le_refl _)) ?_)
  refine g_seq ?_
  refine g_region ?_
  refine xV rfl rfl rfl (v_move rfl) ?_
  refine rl_k rfl (k_callf Try.func79 rfl rfl rfl rfl ?_)
  refine Calls.mono (collect_calls hfn hname hb hit hn hw) ?_
  rintro _ w ⟨v, rfl, hw⟩
  refine ⟨_, rfl, ?_⟩
  refine xV rfl rfl rfl (v_assign rfl) ?_
  refine rl_nil (g_le (xK (xS rfl (xS rfl (Fr.le_refl _)))) ?_)
  refine g_seq ?_
  refine g_region ?_
  refine xV rfl rfl rfl (v_move rfl) ?_
  refine xV rfl rfl rfl (v_move rfl) ?_
  refine rl_k rfl (k_callf Try.func80 rfl rfl rfl rfl ?_)
  refine Calls.mono (sort_sat sortP sortP_agg sortP_size (fun _ => rfl) (fun x u hu => by simp only [Pl.cells, List.mem_cons, List.not_mem_nil, or_false] at hu; rcases hu with rfl | rfl | rfl <;> rfl) swoP (enters_of Try.func70 rfl rfl) (fun E w M x y hw => cmpP_calls x y hw) hw (by omega)) ?_
  rintro _ w ⟨rfl, ys, hys, hso, hw⟩
  refine ⟨_, rfl, ?_⟩
  refine rl_nil (g_le (xS rfl (xS rfl (xS rfl (Fr.le_refl _)))) ?_)
  refine g_seq ?_
  refine g_region ?_
  refine xV rfl rfl rfl (v_move rfl) ?_
  refine xV rfl rfl rfl (v_assign rfl) ?_
  refine rl_nil (g_le (xK (xS rfl (Fr.le_refl _))) ?_)
  refine g_ret1 Try.func68 rfl rfl ?_
  exact ⟨_, rfl, ys, hys, hso, hw⟩
end Go.Proofs.Ytipdklbedpkobaa
