/-
  The laws' helpers lows and shaped: a tree is as it must be.
-/
import Derived.Test.YtmbngahboaljpaaH10
namespace Go.Proofs.Ytmbngahboaljpaa
set_option maxRecDepth 8000
set_option linter.unusedSimpArgs false
set_option linter.unusedVariables false
open Go Xe
theorem seen_head : ∀ (h : Nat) (d : Int) (r : Rf) (u : Un h), ∃ rest, seenU h d r u = ⟨d, r, nodeU h u⟩ :: rest
  | 0, _, _, _ => ⟨[], rfl⟩
  | _ + 1, _, _, _ => ⟨_, rfl⟩
theorem seen_succ (h : Nat) (d : Int) (r : Rf) (ts : List (Tn h)) : seenU (h + 1) d r ts = ⟨d, r, nodeU (h + 1) ts⟩ :: ts.flatMap fun t => seenU h (d + 1) t.1 t.2 := rfl
theorem node_succ (h : Nat) (ts : List (Tn h)) : nodeU (h + 1) ts = ⟨false, [], ts.map (kidU h)⟩ := rfl
theorem seen_deepU : ∀ (h : Nat) (d : Int) (r : Rf) (u : Un h), ∀ x ∈ seenU h d r u, x.deep ≤ d + h
  | 0, d, r, (es : List En), x, hx => by simp only [seenU, List.mem_singleton] at hx; subst hx; simp
  | h + 1, d, r, (ts : List (Tn h)), x, hx => by
    rcases List.mem_cons.1 hx with rfl | hx
    · simp only; omega
    · obtain ⟨t, _, hx⟩ := List.mem_flatMap.1 hx
      have := seen_deepU h (d + 1) t.1 t.2 x hx
      omega
theorem seen_leaf_deep : ∀ (h : Nat) (d : Int) (r : Rf) (u : Un h), okU h u → (h = 0 ∨ 0 < szU h u) → ∃ x ∈ seenU h d r u, x.deep = d + h
  | 0, d, r, (es : List En), _, _ => ⟨⟨d, r, nodeU 0 es⟩, by simp [seenU], by simp⟩
  | h + 1, d, r, (ts : List (Tn h)), hok, h0 => by
    match ts, hok, h0 with
    | [], _, h0 => rcases h0 with h0 | h0; omega; simp [szU] at h0
    | t :: ts, hok, _ =>
      obtain ⟨h3, _, h5⟩ := hok t (by simp)
      obtain ⟨x, hx, hd⟩ := seen_leaf_deep h (d + 1) t.1 t.2 h5 (.inr (by omega))
      exact ⟨x, List.mem_cons_of_mem _ (List.mem_flatMap.2 ⟨t, by simp, hx⟩), by omega⟩
/-- Least names rise. -/
theorem lows_rise {h : Nat} {ts : List (Tn h)} (hok : okU (h + 1) ts) (hs : Sorted (entsU (h + 1) ts)) {i : Nat} {a b : Tn h} (ha : ts[i]? = some a) (hb : ts[i + 1]? = some b) : sl (lowU h a.2) (lowU h b.2) = true := by
  obtain ⟨h1, rfl⟩ := List.getElem?_eq_some_iff.1 ha
  obtain ⟨h2, rfl⟩ := List.getElem?_eq_some_iff.1 hb
  have ha3 := hok ts[i] (List.getElem_mem h1)
  have hb3 := hok ts[i + 1] (List.getElem_mem h2)
  obtain ⟨e, es, he, hle⟩ := low_head (show 0 < szU h ts[i].2 by omega) ha3.2.2
  obtain ⟨f, fs, hf, hlf⟩ := low_head (show 0 < szU h ts[i + 1].2 by omega) hb3.2.2
  have e1 : ts = ts.take i ++ (ts[i] :: ts[i + 1] :: ts.drop (i + 2)) := by
    (conv => lhs; rw [← List.take_append_drop i ts, List.drop_eq_getElem_cons h1, List.drop_eq_getElem_cons h2])
  have e2 : entsU (h + 1) ts = ((ts.take i).flatMap fun t => entsU h t.2) ++ (entsU h ts[i].2 ++ (entsU h ts[i + 1].2 ++ (ts.drop (i + 2)).flatMap fun t => entsU h t.2)) := by
    show (ts.flatMap fun t => entsU h t.2) = _
    (conv => lhs; rw [e1, List.flatMap_append, List.flatMap_cons, List.flatMap_cons])
  rw [e2] at hs
  have h9 := (Sorted.app.1 (Sorted.app.1 hs).2.1).2.2 e (by rw [he]; simp) f (by rw [hf]; simp)
  rw [hle, hlf]; exact h9
theorem kid_sorted {h : Nat} {ts : List (Tn h)} (hs : Sorted (entsU (h + 1) ts)) {i : Nat} {a : Tn h} (ha : ts[i]? = some a) : Sorted (entsU h a.2) := by
  obtain ⟨h1, rfl⟩ := List.getElem?_eq_some_iff.1 ha
  have e2 := flat_split (f := fun t : Tn h => entsU h t.2) h1
  have hs : Sorted (ts.flatMap fun t => entsU h t.2) := hs
  rw [e2] at hs
  exact (Sorted.app.1 (Sorted.app.1 hs).2.1).1
theorem seen_split {h : Nat} {d : Int} {ts : List (Tn h)} {i : Nat} {t : Tn h} (ha : ts[i]? = some t) : (ts.flatMap fun t => seenU h d t.1 t.2) = ((ts.take i).flatMap fun t => seenU h d t.1 t.2) ++ (seenU h d t.1 t.2 ++ (ts.drop (i + 1)).flatMap fun t => seenU h d t.1 t.2) := by
  obtain ⟨h1, rfl⟩ := List.getElem?_eq_some_iff.1 ha
  exact flat_split (f := fun t : Tn h => seenU h d t.1 t.2) h1
theorem ord_f51_r7_H13 : orderOfB Try.f51 7 [] (.a 0 (.a 1 (.a 2 (.a 3 (.a 5 (.k 4 (.k 6 (.k 7 (.k 8 (.k 9 (.k 10 (.k 11 (.k 12 (.k 13 (.k 14 (.k 15 (.k 16 (.k 17 (.k 18 (.k 19 (.k 20 (.k 21 (.k 22 (.k 23 (.a 24 (.a 30 (.a 31 (.k 25 (.k 26 (.k 27 (.k 28 (.k 29 (.k 32 .done))))))))))))))))))))))))))))))))) = true := by kernel_rfl
theorem ord_f51_r14_H13 : orderOfB Try.f51 14 [] (.a 0 (.k 1 (.k 2 (.k 3 (.k 4 (.a 5 (.a 6 (.a 7 (.a 8 (.a 10 (.v 9 (.k 11 (.k 12 (.k 13 (.k 14 (.a 15 (.a 16 (.a 17 (.a 18 (.a 20 (.v 19 (.k 21 (.k 22 (.k 23 (.k 24 (.k 25 (.k 26 (.k 27 (.k 28 (.a 29 (.a 31 (.a 32 (.a 36 (.v 30 (.a 33 (.a 34 (.v 35 (.k 37 (.k 38 (.k 39 (.k 40 .done))))))))))))))))))))))))))))))))))))))))) = true := by kernel_rfl
set_option maxHeartbeats 4000000 in
theorem lows_calls : ∀ (hh : Nat) {u : Un hh} {d : Int} {r : Rf} {pre post now : List Sn}, okU hh u → Sorted (entsU hh u) → szU hh u ≤ 4 → (d = 1 ∨ 2 ≤ szU hh u) → (hh = 0 ∨ 2 ≤ szU hh u) → 1 ≤ d → d + hh ≤ 20 → now = pre ++ (seenU hh d r u ++ post) →
    ∀ {E : Env} {w : World} {L : List As} {g : Hp} {la : Option Addr} {ln lc : Nat}, (rdSl 96 8 rdSn) g [.slice la ln lc] now → Sat E w (RO g :: L) →
    Calls Try.prog 51 #[.slice la ln lc, .int .i64 (pre.length : Nat), .int .i64 (d + hh)] w fun v w' => v = .returned (.tuple #[.string (lowU hh u), .int .i64 (pre.length + (seenU hh d r u).length : Nat), .bool true]) ∧ Sat E w' (RO g :: L) := by
  intro hh
  induction hh
  case zero =>
    intro u d r pre post now _ _ hsz htwo _ hd0 hd1 hnow E w L g la ln lc hrd hw
    obtain ⟨es, rfl⟩ : ∃ es : List En, es = u := ⟨u, rfl⟩
    replace hsz : es.length ≤ 4 := hsz
    replace htwo : d = 1 ∨ 2 ≤ es.length := htwo
    obtain ⟨rfl, hnb, hnc, hnm, gn⟩ := rdSl_get hrd
    simp only [reachBytes] at hnb
    simp only [maxLen] at hnm
    have hx : now[pre.length]? = some ⟨d, r, ⟨true, es, []⟩⟩ := by rw [hnow, List.getElem?_append_right (Nat.le_refl _), Nat.sub_self]; rfl
    have hlt := (List.getElem?_eq_some_iff.1 hx).1
    obtain ⟨b5, o5, y, ycs, rfl, hy, hat5, hl5, hrdy⟩ := gn (pre.length : Nat) (by omega) (by omega)
    rw [Int.toNat_natCast] at hy hat5
    rw [hx] at hy
    obtain rfl := Option.some.inj hy
    obtain ⟨ya, yn, yc, yk, ykn, ykc, rfl, hndy⟩ := sn_told hrdy
    dsimp only at hat5 hndy
    obtain ⟨n0, n1, n2, hq9, _, hqe, hqk⟩ := id hndy
    simp only [List.cons.injEq, and_true] at hq9
    obtain ⟨_, rfl, rfl⟩ := hq9
    dsimp only at hqe hqk
    obtain ⟨rfl, _, _, _, ge⟩ := rdSl_get hqe
    obtain ⟨rfl, _, _, _, _⟩ := rdSl_get hqk
    have h1 : (seenU 0 d r es).length = 1 := rfl
    rw [h1]
    clear h1 hx hnow gn
    simp only [List.length_nil] at *
    refine calls_of_g (n := 159) Try.func51 rfl rfl rfl ?_
    change G _ _ _ _ _ [(0, _), (1, _), (2, _)] _
    refine g_seq ?_
    refine g_region ?_
    refine xV rfl rfl rfl (v_assign rfl) ?_
    refine xV rfl rfl rfl (v_assign rfl) ?_
    refine xV rfl rfl rfl (v_assign rfl) ?_
    refine rl_nil (g_le (xK (xK (xK (Fr.le_refl _)))) ?_)
    refine g_seq ?_
    refine g_region ?_
    refine xV rfl rfl rfl (v_move rfl) ?_
    refine xV rfl rfl rfl (v_move rfl) ?_
    refine xV rfl rfl rfl (v_indexAddr T.sl_57_61_8 rfl rfl (by omega) (by omega)) ?_
    refine rl_v rfl rfl rfl (by exact ro_ats hw (by (repeat first | with_reducible exact xH | apply xT); first | done | fail) (by assumption)) (v_loadAgg (vs := [_, _, _, _, _, _, _, _]) T.agg_61_8 rfl rfl) ?_
    refine rl_k rfl (k_alloc hw T.zero_61 rfl rfl (fun bk1_4 w hw => ?_))
    refine rl_k rfl (k_storeWhole hw T.agg_61_8 rfl rfl (by simp [Value.oneCell']) rfl (by (repeat first | with_reducible exact xH | apply xT); first | done | fail) rfl (fun w hw => ?_))
    refine rl_nil (g_le (xK (xS rfl (xS rfl (xS rfl (xS rfl (Fr.le_refl _)))))) ?_)
    refine g_seq ?_
    refine g_region ?_
    refine xV rfl rfl rfl (v_fieldAddr0 T.fld_61_2_5 rfl) ?_
    refine rl_v rfl rfl rfl (by exact sat_cells hw (by (repeat first | with_reducible exact xH | apply xT); first | done | fail) ⟨rfl, rfl, rfl, trivial⟩) (v_loadAgg (vs := [_, _, _]) T.agg_32_3 rfl rfl) ?_
    refine rl_k rfl (k_alloc hw T.zero_32 rfl rfl (fun bk2_2 w hw => ?_))
    refine rl_k rfl (k_storeWhole hw T.agg_32_3 rfl rfl (by simp [Value.oneCell']) rfl (by (repeat first | with_reducible exact xH | apply xT); first | done | fail) rfl (fun w hw => ?_))
    refine rl_nil (g_le (xK (xS rfl (xS rfl (Fr.le_refl _)))) ?_)
    refine g_seq (g_seq ?_)
    refine g_region ?_
    refine xV rfl rfl rfl (v_fieldAddr0 T.fld_32_0_0 rfl) ?_
    refine rl_v rfl rfl rfl (by exact sat_cell hw (by (repeat first | with_reducible exact xH | apply xT); first | done | fail) rfl) (v_load T.scal_4 rfl) ?_
    refine rl_nil (g_le (xK (xS rfl (Fr.le_refl _))) ?_)
    refine g_cond_true rfl ?_
    refine g_seq ?_
    refine g_region ?_
    refine xV rfl rfl rfl (v_assign rfl) ?_
    refine rl_nil (g_le (xK (Fr.le_refl _)) ?_)
    refine g_seq (g_seq ?_)
    refine g_region ?_
    refine xV rfl rfl rfl (v_fieldAddr0 T.fld_32_1_1 rfl) ?_
    refine rl_v rfl rfl rfl (by exact sat_cell hw (by (repeat first | with_reducible exact xH | apply xT); first | done | fail) rfl) (v_load T.scal_29 rfl) ?_
    refine xV rfl rfl rfl (v_lenSlice T.sl_29_49_2 rfl) ?_
    refine xV rfl rfl rfl (v_gtr rfl rfl) ?_
    refine rl_nil (g_le (xK (xS rfl (xS rfl (xS rfl (Fr.le_refl _))))) ?_)
    refine g_cutc (σ := Unit) (fun C x => (11, .string (lowU 0 es)) :: C) [(0, _), (1, _), (2, _), (6, _), (7, _), (8, _), (9, _), (10, _)] (by repeat (first | exact Fr.le_nil _ | refine Fr.le_cons rfl ?_)) (fun z w => Sat E w (pt bk1_4 (.cells [.int .i64 d, .int .u64 r.key, .int .i64 r.seg, .int .i64 r.off, .int .i64 r.len, .bool true, .slice ya es.length yc, .slice yk 0 ykc].toArray 61 (0, 0)) :: pt bk2_2 (.cells [.bool true, .slice ya es.length yc, .slice yk 0 ykc].toArray 32 (0, 0)) :: RO g :: L)) ?_ ?_
    · skip
      rintro ⟨⟩ w hw
      all_goals
        refine g_seq ?_
        refine g_drawA ord_f51_r7_H13 (by kernel_rfl) T.mixed hw (fun w hw => ?_)
        refine rs_a 0 rfl rfl rfl rfl (v_move rfl) ?_
        refine rs_a 1 rfl rfl rfl rfl (v_move rfl) ?_
        refine rs_a 2 rfl rfl rfl rfl (v_add rfl rfl (by omega)) ?_
        refine rs_a 3 rfl rfl rfl rfl (v_fieldAddr0 T.fld_61_0_0 rfl) ?_
        refine rs_a 5 rfl rfl rfl rfl (v_move rfl) ?_
        refine rs_kv 4 rfl rfl rfl rfl (by exact sat_cell hw (by (repeat first | with_reducible exact xH | apply xT); first | done | fail) rfl) (v_load T.scal_3 rfl) ?_
        refine rs_kv 6 rfl rfl rfl rfl (S' := fun _ => True) trivial (v_eqlT rfl rfl (by omega)) ?_
        refine rs_kv 7 rfl rfl rfl rfl (S' := fun _ => True) trivial (v_move rfl) ?_
        refine rs_split (s := 42) rfl (fun g7_7 => ?_) (fun g7_7 => ?_)
        · try with_reducible exact ft_elim g7_7
          all_goals
            try replace g7_7 := of_decide_eq_true g7_7
            refine rs_kvg 8 rfl (met_on rfl rfl rfl rfl) rfl rfl (S' := fun _ => True) trivial (v_fieldAddr0 T.fld_32_2_2 rfl) ?_
            refine rs_kvg 9 rfl (met_on rfl rfl rfl rfl) rfl rfl (by exact sat_cell hw (by (repeat first | with_reducible exact xH | apply xT); first | done | fail) rfl) (v_load T.scal_30 rfl) ?_
            refine rs_kvg 10 rfl (met_on rfl rfl rfl rfl) rfl rfl (S' := fun _ => True) trivial (v_lenSlice T.sl_30_70_5 rfl) ?_
            refine rs_kvg 11 rfl (met_on rfl rfl rfl rfl) rfl rfl (S' := fun _ => True) trivial (v_eqlT rfl rfl (by omega)) ?_
            refine rs_kv 12 rfl rfl rfl rfl (S' := fun _ => True) trivial (v_pick_true rfl rfl) ?_
            refine rs_kv 13 rfl rfl rfl rfl (S' := fun _ => True) trivial (v_move rfl) ?_
            refine rs_split (s := 48) rfl (fun g7_13 => ?_) (fun g7_13 => ?_)
            · try with_reducible exact ft_elim g7_13
              all_goals
                try replace g7_13 := of_decide_eq_true g7_13
                refine rs_kvg 14 rfl (met_on rfl rfl rfl rfl) rfl rfl (S' := fun _ => True) trivial (v_fieldAddr0 T.fld_32_1_1 rfl) ?_
                refine rs_kvg 15 rfl (met_on rfl rfl rfl rfl) rfl rfl (by exact sat_cell hw (by (repeat first | with_reducible exact xH | apply xT); first | done | fail) rfl) (v_load T.scal_29 rfl) ?_
                refine rs_kvg 16 rfl (met_on rfl rfl rfl rfl) rfl rfl (S' := fun _ => True) trivial (v_lenSlice T.sl_29_49_2 rfl) ?_
                refine rs_kvg 17 rfl (met_on rfl rfl rfl rfl) rfl rfl (S' := fun _ => True) trivial (v_leqT rfl rfl (by omega)) ?_
                refine rs_kv 18 rfl rfl rfl rfl (S' := fun _ => True) trivial (v_pick_true rfl rfl) ?_
                refine rs_kv 19 rfl rfl rfl rfl (S' := fun _ => True) trivial (v_move rfl) ?_
                refine rs_split (s := 54) rfl (fun g7_19 => ?_) (fun g7_19 => ?_)
                · try with_reducible exact ft_elim g7_19
                  all_goals
                    try replace g7_19 := of_decide_eq_true g7_19
                    refine rs_kvg 20 rfl (met_on rfl rfl rfl rfl) rfl rfl (S' := fun _ => True) trivial (v_fieldAddr0 T.fld_61_0_0 rfl) ?_
                    refine rs_kvg 21 rfl (met_on rfl rfl rfl rfl) rfl rfl (by exact sat_cell hw (by (repeat first | with_reducible exact xH | apply xT); first | done | fail) rfl) (v_load T.scal_3 rfl) ?_
                    refine rs_kvg 22 rfl (met_on rfl rfl rfl rfl) rfl rfl (S' := fun _ => True) trivial (v_eql rfl rfl) ?_
                    refine rs_kvg 23 rfl (met_on rfl rfl rfl rfl) rfl rfl (S' := fun _ => True) trivial (v_move rfl) ?_
                    refine rs_split (s := 58) rfl (fun g7_23 => ?_) (fun g7_23 => ?_)
                    · try with_reducible exact ft_elim g7_23
                      all_goals
                        try replace g7_23 := of_decide_eq_true g7_23
                        refine rs_aoff 24 rfl (met_off rfl rfl rfl rfl rfl) rfl rfl ?_
                        refine rs_a 30 rfl rfl rfl rfl (v_assign rfl) ?_
                        refine rs_a 31 rfl rfl rfl rfl (v_assign rfl) ?_
                        refine rs_koff 25 rfl (met_off rfl rfl rfl rfl rfl) rfl rfl ?_
                        refine rs_koff 26 rfl (met_off rfl rfl rfl rfl rfl) rfl rfl ?_
                        refine rs_koff 27 rfl (met_off rfl rfl rfl rfl rfl) rfl rfl ?_
                        refine rs_kvg 28 rfl (met_on rfl rfl rfl rfl) rfl rfl (S' := fun _ => True) trivial (v_pick_true rfl rfl) ?_
                        refine rs_kv 29 rfl rfl rfl rfl (S' := fun _ => True) trivial (v_pick_true rfl rfl) ?_
                        refine rs_kv 32 rfl rfl rfl rfl (S' := fun _ => True) trivial (v_assign rfl) ?_
                        refine rs_done (g_le (xK (xS rfl (xS rfl (xS rfl (xS rfl (xS rfl (xK (xK (xS rfl (xS rfl (xS rfl (xS rfl (xS rfl (xS rfl (xS rfl (xS rfl (xS rfl (xS rfl (xS rfl (xS rfl (xS rfl (xS rfl (xS rfl (xS rfl (xS rfl (xS rfl (xS rfl (xS rfl (xS rfl (xS rfl (xS rfl (xS rfl (xS rfl (xS rfl (xS rfl (xS rfl (xS rfl (Fr.le_refl _)))))))))))))))))))))))))))))))))))))) ?_)
                        refine g_ret3 Try.func51 rfl rfl rfl rfl ?_
                        exact ⟨by simp, hw.xQ⟩
                    · try with_reducible exact tf_elim g7_23
                      all_goals
                        try replace g7_23 := of_decide_eq_false g7_23
                        refine rs_ag 24 rfl (met_on rfl rfl rfl rfl) rfl rfl (v_fieldAddr0 T.fld_32_1_1 rfl) ?_
                        refine rs_a 30 rfl rfl rfl rfl (v_assign rfl) ?_
                        refine rs_a 31 rfl rfl rfl rfl (v_assign rfl) ?_
                        refine rs_kvg 25 rfl (met_on rfl rfl rfl rfl) rfl rfl (by exact sat_cell hw (by (repeat first | with_reducible exact xH | apply xT); first | done | fail) rfl) (v_load T.scal_29 rfl) ?_
                        refine rs_kvg 26 rfl (met_on rfl rfl rfl rfl) rfl rfl (S' := fun _ => True) trivial (v_lenSlice T.sl_29_49_2 rfl) ?_
                        refine rs_kvg 27 rfl (met_on rfl rfl rfl rfl) rfl rfl (S' := fun _ => True) trivial (v_geqT rfl rfl (by omega)) ?_
                        refine rs_kvg 28 rfl (met_on rfl rfl rfl rfl) rfl rfl (S' := fun _ => True) trivial (v_pick_false rfl rfl) ?_
                        refine rs_kv 29 rfl rfl rfl rfl (S' := fun _ => True) trivial (v_pick_true rfl rfl) ?_
                        refine rs_kv 32 rfl rfl rfl rfl (S' := fun _ => True) trivial (v_assign rfl) ?_
                        refine rs_done (g_le (xK (xS rfl (xS rfl (xS rfl (xS rfl (xS rfl (xK (xK (xS rfl (xS rfl (xS rfl (xS rfl (xS rfl (xS rfl (xS rfl (xS rfl (xS rfl (xS rfl (xS rfl (xS rfl (xS rfl (xS rfl (xS rfl (xS rfl (xS rfl (xS rfl (xS rfl (xS rfl (xS rfl (xS rfl (xS rfl (xS rfl (xS rfl (xS rfl (xS rfl (xS rfl (xS rfl (Fr.le_refl _)))))))))))))))))))))))))))))))))))))) ?_)
                        refine g_ret3 Try.func51 rfl rfl rfl rfl ?_
                        exact ⟨by simp, hw.xQ⟩
                · try with_reducible exact tf_elim g7_19
                  all_goals
                    try replace g7_19 := of_decide_eq_false g7_19
                    refine rs_koff 20 rfl (met_off rfl rfl rfl rfl rfl) rfl rfl ?_
                    refine rs_koff 21 rfl (met_off rfl rfl rfl rfl rfl) rfl rfl ?_
                    refine rs_koff 22 rfl (met_off rfl rfl rfl rfl rfl) rfl rfl ?_
                    refine rs_koff 23 rfl (met_off rfl rfl rfl rfl rfl) rfl rfl ?_
                    refine rs_aoff 24 rfl (met_gone rfl rfl rfl rfl) rfl rfl ?_
                    refine rs_a 30 rfl rfl rfl rfl (v_assign rfl) ?_
                    refine rs_a 31 rfl rfl rfl rfl (v_assign rfl) ?_
                    refine rs_koff 25 rfl (met_gone rfl rfl rfl rfl) rfl rfl ?_
                    refine rs_koff 26 rfl (met_gone rfl rfl rfl rfl) rfl rfl ?_
                    refine rs_koff 27 rfl (met_gone rfl rfl rfl rfl) rfl rfl ?_
                    refine rs_koff 28 rfl (met_off rfl rfl rfl rfl rfl) rfl rfl ?_
                    first | (refine rs_kv 29 rfl rfl rfl rfl (S' := fun _ => True) trivial (v_pick_true rfl rfl) ?_) | (refine rs_kv 29 rfl rfl rfl rfl (S' := fun _ => True) trivial (v_pick_false rfl rfl) ?_) | (refine rs_kv 29 rfl rfl rfl rfl (S' := fun _ => True) trivial (v_pick rfl rfl rfl) ?_)
                    refine rs_kv 32 rfl rfl rfl rfl (S' := fun _ => True) trivial (v_assign rfl) ?_
                    refine rs_done (g_le (xK (xS rfl (xS rfl (xS rfl (xS rfl (xS rfl (xK (xK (xS rfl (xS rfl (xS rfl (xS rfl (xS rfl (xS rfl (xS rfl (xS rfl (xS rfl (xS rfl (xS rfl (xS rfl (xS rfl (xS rfl (xS rfl (xS rfl (xS rfl (xS rfl (xS rfl (xS rfl (xS rfl (xS rfl (xS rfl (xS rfl (xS rfl (xS rfl (xS rfl (xS rfl (Fr.le_refl _))))))))))))))))))))))))))))))))))))) ?_)
                    refine g_ret3 Try.func51 rfl rfl rfl rfl ?_
                    exact ⟨by simp, hw.xQ⟩
            · try with_reducible exact tf_elim g7_13
              all_goals
                try replace g7_13 := of_decide_eq_false g7_13
                refine rs_koff 14 rfl (met_off rfl rfl rfl rfl rfl) rfl rfl ?_
                refine rs_koff 15 rfl (met_off rfl rfl rfl rfl rfl) rfl rfl ?_
                refine rs_koff 16 rfl (met_off rfl rfl rfl rfl rfl) rfl rfl ?_
                refine rs_koff 17 rfl (met_off rfl rfl rfl rfl rfl) rfl rfl ?_
                first | (refine rs_kv 18 rfl rfl rfl rfl (S' := fun _ => True) trivial (v_pick_true rfl rfl) ?_) | (refine rs_kv 18 rfl rfl rfl rfl (S' := fun _ => True) trivial (v_pick_false rfl rfl) ?_) | (refine rs_kv 18 rfl rfl rfl rfl (S' := fun _ => True) trivial (v_pick rfl rfl rfl) ?_)
                refine rs_kv 19 rfl rfl rfl rfl (S' := fun _ => True) trivial (v_move rfl) ?_
                refine rs_koff 20 rfl (met_off rfl rfl rfl rfl rfl) rfl rfl ?_
                refine rs_koff 21 rfl (met_off rfl rfl rfl rfl rfl) rfl rfl ?_
                refine rs_koff 22 rfl (met_off rfl rfl rfl rfl rfl) rfl rfl ?_
                refine rs_koff 23 rfl (met_off rfl rfl rfl rfl rfl) rfl rfl ?_
                refine rs_aoff 24 rfl (met_gone rfl rfl rfl rfl) rfl rfl ?_
                refine rs_a 30 rfl rfl rfl rfl (v_assign rfl) ?_
                refine rs_a 31 rfl rfl rfl rfl (v_assign rfl) ?_
                refine rs_koff 25 rfl (met_gone rfl rfl rfl rfl) rfl rfl ?_
                refine rs_koff 26 rfl (met_gone rfl rfl rfl rfl) rfl rfl ?_
                refine rs_koff 27 rfl (met_gone rfl rfl rfl rfl) rfl rfl ?_
                refine rs_koff 28 rfl (met_off rfl rfl rfl rfl rfl) rfl rfl ?_
                first | (refine rs_kv 29 rfl rfl rfl rfl (S' := fun _ => True) trivial (v_pick_true rfl rfl) ?_) | (refine rs_kv 29 rfl rfl rfl rfl (S' := fun _ => True) trivial (v_pick_false rfl rfl) ?_) | (refine rs_kv 29 rfl rfl rfl rfl (S' := fun _ => True) trivial (v_pick rfl rfl rfl) ?_)
                refine rs_kv 32 rfl rfl rfl rfl (S' := fun _ => True) trivial (v_assign rfl) ?_
                refine rs_done (g_le (xK (xS rfl (xS rfl (xS rfl (xS rfl (xS rfl (xK (xK (xS rfl (xS rfl (xS rfl (xS rfl (xS rfl (xS rfl (xS rfl (xS rfl (xS rfl (xS rfl (xS rfl (xS rfl (xS rfl (xS rfl (xS rfl (xS rfl (xS rfl (xS rfl (xS rfl (xS rfl (xS rfl (xS rfl (xS rfl (xS rfl (xS rfl (xS rfl (xS rfl (Fr.le_refl _)))))))))))))))))))))))))))))))))))) ?_)
                refine g_ret3 Try.func51 rfl rfl rfl rfl ?_
                exact ⟨by simp, hw.xQ⟩
        · try with_reducible exact tf_elim g7_7
          all_goals
            try replace g7_7 := of_decide_eq_false g7_7
            refine rs_koff 8 rfl (met_off rfl rfl rfl rfl rfl) rfl rfl ?_
            refine rs_koff 9 rfl (met_off rfl rfl rfl rfl rfl) rfl rfl ?_
            refine rs_koff 10 rfl (met_off rfl rfl rfl rfl rfl) rfl rfl ?_
            refine rs_koff 11 rfl (met_off rfl rfl rfl rfl rfl) rfl rfl ?_
            first | (refine rs_kv 12 rfl rfl rfl rfl (S' := fun _ => True) trivial (v_pick_true rfl rfl) ?_) | (refine rs_kv 12 rfl rfl rfl rfl (S' := fun _ => True) trivial (v_pick_false rfl rfl) ?_) | (refine rs_kv 12 rfl rfl rfl rfl (S' := fun _ => True) trivial (v_pick rfl rfl rfl) ?_)
            refine rs_kv 13 rfl rfl rfl rfl (S' := fun _ => True) trivial (v_move rfl) ?_
            refine rs_koff 14 rfl (met_off rfl rfl rfl rfl rfl) rfl rfl ?_
            refine rs_koff 15 rfl (met_off rfl rfl rfl rfl rfl) rfl rfl ?_
            refine rs_koff 16 rfl (met_off rfl rfl rfl rfl rfl) rfl rfl ?_
            refine rs_koff 17 rfl (met_off rfl rfl rfl rfl rfl) rfl rfl ?_
            first | (refine rs_kv 18 rfl rfl rfl rfl (S' := fun _ => True) trivial (v_pick_true rfl rfl) ?_) | (refine rs_kv 18 rfl rfl rfl rfl (S' := fun _ => True) trivial (v_pick_false rfl rfl) ?_) | (refine rs_kv 18 rfl rfl rfl rfl (S' := fun _ => True) trivial (v_pick rfl rfl rfl) ?_)
            refine rs_kv 19 rfl rfl rfl rfl (S' := fun _ => True) trivial (v_move rfl) ?_
            refine rs_koff 20 rfl (met_off rfl rfl rfl rfl rfl) rfl rfl ?_
            refine rs_koff 21 rfl (met_off rfl rfl rfl rfl rfl) rfl rfl ?_
            refine rs_koff 22 rfl (met_off rfl rfl rfl rfl rfl) rfl rfl ?_
            refine rs_koff 23 rfl (met_off rfl rfl rfl rfl rfl) rfl rfl ?_
            refine rs_aoff 24 rfl (met_gone rfl rfl rfl rfl) rfl rfl ?_
            refine rs_a 30 rfl rfl rfl rfl (v_assign rfl) ?_
            refine rs_a 31 rfl rfl rfl rfl (v_assign rfl) ?_
            refine rs_koff 25 rfl (met_gone rfl rfl rfl rfl) rfl rfl ?_
            refine rs_koff 26 rfl (met_gone rfl rfl rfl rfl) rfl rfl ?_
            refine rs_koff 27 rfl (met_gone rfl rfl rfl rfl) rfl rfl ?_
            refine rs_koff 28 rfl (met_off rfl rfl rfl rfl rfl) rfl rfl ?_
            first | (refine rs_kv 29 rfl rfl rfl rfl (S' := fun _ => True) trivial (v_pick_true rfl rfl) ?_) | (refine rs_kv 29 rfl rfl rfl rfl (S' := fun _ => True) trivial (v_pick_false rfl rfl) ?_) | (refine rs_kv 29 rfl rfl rfl rfl (S' := fun _ => True) trivial (v_pick rfl rfl rfl) ?_)
            refine rs_kv 32 rfl rfl rfl rfl (S' := fun _ => True) trivial (v_assign rfl) ?_
            refine rs_done (g_le (xK (xS rfl (xS rfl (xS rfl (xS rfl (xS rfl (xK (xK (xS rfl (xS rfl (xS rfl (xS rfl (xS rfl (xS rfl (xS rfl (xS rfl (xS rfl (xS rfl (xS rfl (xS rfl (xS rfl (xS rfl (xS rfl (xS rfl (xS rfl (xS rfl (xS rfl (xS rfl (xS rfl (xS rfl (xS rfl (xS rfl (xS rfl (xS rfl (Fr.le_refl _))))))))))))))))))))))))))))))))))) ?_)
            refine g_ret3 Try.func51 rfl rfl rfl rfl ?_
            exact ⟨by simp, hw.xQ⟩
    · intro joinc2
      refine g_cond rfl (fun h2 => ?_) (fun h2 => ?_)
      · try with_reducible exact ft_elim h2
        all_goals
          try replace h2 := of_decide_eq_true h2
          obtain ⟨b6, o6, e, ecs, rfl, he, hat6, hl6, hrde⟩ := ge 0 (by omega) (by omega)
          obtain ⟨c0, c1, rfl, ⟨h0, w0⟩, hv⟩ := hrde
          simp only [List.cons.injEq, and_true] at h0
          subst h0
          have hle : e.name = lowU 0 es := by cases es with | nil => simp at he | cons x xs => (simp at he; subst he; rfl)
          rw [hle] at hat6
          refine g_region ?_
          refine xV rfl rfl rfl (v_fieldAddr0 T.fld_32_1_1 rfl) ?_
          refine rl_v rfl rfl rfl (by exact sat_cell hw (by (repeat first | with_reducible exact xH | apply xT); first | done | fail) rfl) (v_load T.scal_29 rfl) ?_
          refine xV rfl rfl rfl (v_indexAddr T.sl_29_49_2 rfl rfl (by omega) (by omega)) ?_
          refine xV rfl rfl rfl (v_fieldAddr T.fld_49_0_0 rfl) ?_
          refine rl_v rfl rfl rfl (by exact ro_at0 hw (by (repeat first | with_reducible exact xH | apply xT); first | done | fail) (by assumption) rfl) (v_load T.scal_9 rfl) ?_
          refine xV rfl rfl rfl (v_assign rfl) ?_
          refine rl_nil (g_le (xK (xS rfl (xS rfl (xS rfl (xS rfl (xS rfl (Fr.le_refl _))))))) ?_)
          refine joinc2 () w _ ?_ ?_
          exact (by repeat (first | exact Fr.le_nil _ | refine Fr.le_cons rfl ?_))
          exact (hw.xQ)
      · try with_reducible exact tf_elim h2
        all_goals
          try replace h2 := of_decide_eq_false h2
          refine g_skip ?_
          have hle : lowU 0 es = ⟨#[]⟩ := by cases es with | nil => rfl | cons x xs => (simp only [List.length_cons] at h2; omega)
          refine joinc2 () w _ ?_ ?_
          rw [hle]
          exact (by repeat (first | exact Fr.le_nil _ | refine Fr.le_cons rfl ?_))
          exact (hw.xQ)
  case succ hh ih =>
    intro u d r pre post now hok hsr hsz htwo htwo2 hd0 hd1 hnow E w L g la ln lc hrd hw
    obtain ⟨ts, rfl⟩ : ∃ ts : List (Tn hh), ts = u := ⟨u, rfl⟩
    replace hsz : ts.length ≤ 4 := hsz
    have h2t : 2 ≤ ts.length := htwo2.elim (fun h => by omega) id
    clear htwo htwo2
    have hsc := seen_succ hh d r ts
    obtain ⟨rfl, hnb, hnc, hnm, gn⟩ := rdSl_get hrd
    simp only [reachBytes] at hnb
    simp only [maxLen] at hnm
    have hx : now[pre.length]? = some ⟨d, r, ⟨false, [], ts.map (kidU hh)⟩⟩ := by rw [hnow, List.getElem?_append_right (Nat.le_refl _), Nat.sub_self]; rfl
    have hlt := (List.getElem?_eq_some_iff.1 hx).1
    obtain ⟨b5, o5, y, ycs, rfl, hy, hat5, hl5, hrdy⟩ := gn (pre.length : Nat) (by omega) (by omega)
    rw [Int.toNat_natCast] at hy hat5
    rw [hx] at hy
    obtain rfl := Option.some.inj hy
    obtain ⟨ya, yn, yc, yk, ykn, ykc, rfl, hndy⟩ := sn_told hrdy
    dsimp only at hat5 hndy
    obtain ⟨n0, n1, n2, hq9, _, hqe, hqk⟩ := id hndy
    simp only [List.cons.injEq, and_true] at hq9
    obtain ⟨_, rfl, rfl⟩ := hq9
    dsimp only at hqe hqk
    obtain ⟨rfl, _, _, _, ge⟩ := rdSl_get hqe
    obtain ⟨rfl, _, _, _, gk⟩ := rdSl_get hqk
    simp only [List.length_nil, List.length_map] at *
    have hcast : d + ((hh + 1 : Nat) : Int) = (d + 1) + (hh : Int) := by omega
    rw [hcast]
    generalize hfl : (ts.flatMap fun t => seenU hh (d + 1) t.1 t.2) = flat at hsc
    rw [hsc, List.length_cons]
    rw [hsc] at hnow
    refine calls_of_g (n := 159) Try.func51 rfl rfl rfl ?_
    change G _ _ _ _ _ [(0, _), (1, _), (2, _)] _
    refine g_seq ?_
    refine g_region ?_
    refine xV rfl rfl rfl (v_assign rfl) ?_
    refine xV rfl rfl rfl (v_assign rfl) ?_
    refine xV rfl rfl rfl (v_assign rfl) ?_
    refine rl_nil (g_le (xK (xK (xK (Fr.le_refl _)))) ?_)
    refine g_seq ?_
    refine g_region ?_
    refine xV rfl rfl rfl (v_move rfl) ?_
    refine xV rfl rfl rfl (v_move rfl) ?_
    refine xV rfl rfl rfl (v_indexAddr T.sl_57_61_8 rfl rfl (by omega) (by omega)) ?_
    refine rl_v rfl rfl rfl (by exact ro_ats hw (by (repeat first | with_reducible exact xH | apply xT); first | done | fail) (by assumption)) (v_loadAgg (vs := [_, _, _, _, _, _, _, _]) T.agg_61_8 rfl rfl) ?_
    refine rl_k rfl (k_alloc hw T.zero_61 rfl rfl (fun bk1_4 w hw => ?_))
    refine rl_k rfl (k_storeWhole hw T.agg_61_8 rfl rfl (by simp [Value.oneCell']) rfl (by (repeat first | with_reducible exact xH | apply xT); first | done | fail) rfl (fun w hw => ?_))
    refine rl_nil (g_le (xK (xS rfl (xS rfl (xS rfl (xS rfl (Fr.le_refl _)))))) ?_)
    refine g_seq ?_
    refine g_region ?_
    refine xV rfl rfl rfl (v_fieldAddr0 T.fld_61_2_5 rfl) ?_
    refine rl_v rfl rfl rfl (by exact sat_cells hw (by (repeat first | with_reducible exact xH | apply xT); first | done | fail) ⟨rfl, rfl, rfl, trivial⟩) (v_loadAgg (vs := [_, _, _]) T.agg_32_3 rfl rfl) ?_
    refine rl_k rfl (k_alloc hw T.zero_32 rfl rfl (fun bk2_2 w hw => ?_))
    refine rl_k rfl (k_storeWhole hw T.agg_32_3 rfl rfl (by simp [Value.oneCell']) rfl (by (repeat first | with_reducible exact xH | apply xT); first | done | fail) rfl (fun w hw => ?_))
    refine rl_nil (g_le (xK (xS rfl (xS rfl (Fr.le_refl _)))) ?_)
    refine g_seq (g_seq ?_)
    refine g_region ?_
    refine xV rfl rfl rfl (v_fieldAddr0 T.fld_32_0_0 rfl) ?_
    refine rl_v rfl rfl rfl (by exact sat_cell hw (by (repeat first | with_reducible exact xH | apply xT); first | done | fail) rfl) (v_load T.scal_4 rfl) ?_
    refine rl_nil (g_le (xK (xS rfl (Fr.le_refl _))) ?_)
    refine g_cond_false rfl ?_
    refine g_skip (g_seq (g_seq ?_))
    refine g_region ?_
    refine xV rfl rfl rfl (v_fieldAddr0 T.fld_32_2_2 rfl) ?_
    refine rl_v rfl rfl rfl (by exact sat_cell hw (by (repeat first | with_reducible exact xH | apply xT); first | done | fail) rfl) (v_load T.scal_30 rfl) ?_
    refine xV rfl rfl rfl (v_lenSlice T.sl_30_70_5 rfl) ?_
    refine xV rfl rfl rfl (v_lssF rfl rfl (by omega)) ?_
    refine xV rfl rfl rfl (v_move rfl) ?_
    refine rl_split (s := 69) rfl (fun g8_4 => ?_) (fun g8_4 => ?_)
    · try with_reducible exact ft_elim g8_4
      all_goals
        try replace g8_4 := of_decide_eq_true g8_4
        refine rl_off (met_off rfl rfl rfl rfl rfl) rfl rfl ?_
        refine rl_off (met_off rfl rfl rfl rfl rfl) rfl rfl ?_
        refine rl_off (met_off rfl rfl rfl rfl rfl) rfl rfl ?_
        refine rl_off (met_off rfl rfl rfl rfl rfl) rfl rfl ?_
        first | (refine xV rfl rfl rfl (v_pick_true rfl rfl) ?_) | (refine xV rfl rfl rfl (v_pick_false rfl rfl) ?_) | (refine xV rfl rfl rfl (v_pick rfl rfl rfl) ?_)
        refine xV rfl rfl rfl (v_move rfl) ?_
        refine rl_off (met_off rfl rfl rfl rfl rfl) rfl rfl ?_
        refine rl_off (met_off rfl rfl rfl rfl rfl) rfl rfl ?_
        refine rl_off (met_off rfl rfl rfl rfl rfl) rfl rfl ?_
        refine rl_off (met_off rfl rfl rfl rfl rfl) rfl rfl ?_
        first | (refine xV rfl rfl rfl (v_pick_true rfl rfl) ?_) | (refine xV rfl rfl rfl (v_pick_false rfl rfl) ?_) | (refine xV rfl rfl rfl (v_pick rfl rfl rfl) ?_)
        refine rl_nil (g_le (xK (xS rfl (xS rfl (xS rfl (xS rfl (xS rfl (xS rfl (xS rfl (xS rfl (xS rfl (xS rfl (xS rfl (xS rfl (xS rfl (xS rfl (xS rfl (xS rfl (Fr.le_refl _)))))))))))))))))) ?_)
        refine g_cond_false rfl ?_
        refine g_skip (g_seq ?_)
        refine g_region ?_
        refine xV rfl rfl rfl (v_move rfl) ?_
        first | (refine xV rfl rfl rfl (v_add rfl rfl (by omega)) ?_) | (refine xV rfl rfl rfl (v_addW rfl rfl) ?_)
        refine xV rfl rfl rfl (v_assign rfl) ?_
        refine rl_nil (g_le (xK (xS rfl (xS rfl (Fr.le_refl _)))) ?_)
        refine g_seq (g_seq ?_)
        refine g_region ?_
        first | (refine xV rfl rfl rfl (v_fieldAddr0 T.fld_32_2_2 rfl) ?_) | (refine xV rfl rfl rfl (v_fieldAddr T.fld_32_2_2 rfl) ?_)
        refine rl_v rfl rfl rfl (by first | exact sat_cell hw (by (repeat first | with_reducible exact xH | apply xT); first | done | fail) rfl | exact own_cell hw (by (repeat first | with_reducible exact xH | apply xT); first | done | fail) (by first | rfl | assumption) | exact ro_at0 hw (by (repeat first | with_reducible exact xH | apply xT); first | done | fail) (by assumption) rfl | exact ro_at hw (by (repeat first | with_reducible exact xH | apply xT); first | done | fail) (by assumption) rfl | exact own_at0 hw (by (repeat first | with_reducible exact xH | apply xT); first | done | fail) (by assumption) rfl | exact own_at hw (by (repeat first | with_reducible exact xH | apply xT); first | done | fail) (by assumption) rfl | exact old_cell hw (by (repeat first | with_reducible exact xH | apply xT); first | done | fail) (by assumption) | assumption) (v_load T.scal_30 rfl) ?_
        refine xV rfl rfl rfl (v_lenSlice T.sl_30_70_5 rfl) ?_
        refine xV rfl rfl rfl (v_move rfl) ?_
        refine rl_nil (g_le (xK (xK (xK (xS rfl (Fr.le_refl _))))) ?_)
        refine g_block ?_
        refine g_loopC (σ := Nat × Nat) (fun C x => (87, .int .i64 (x.1 : Nat)) :: (12, .int .i64 (x.2 : Nat)) :: C) [(0, _), (1, _), (2, _), (6, _), (7, _), (8, _), (9, _), (10, _), (85, _), (86, _)] (by repeat (first | exact Fr.le_nil _ | refine Fr.le_cons rfl ?_)) (fun z w => z.1 ≤ ts.length ∧ z.2 = pre.length + 1 + ((ts.take z.1).flatMap fun t => seenU hh (d + 1) t.1 t.2).length ∧ Sat E w (pt bk1_4 (.cells [.int .i64 d, .int .u64 r.key, .int .i64 r.seg, .int .i64 r.off, .int .i64 r.len, .bool false, .slice ya 0 yc, .slice yk ts.length ykc].toArray 61 (0, 0)) :: pt bk2_2 (.cells [.bool false, .slice ya 0 yc, .slice yk ts.length ykc].toArray 32 (0, 0)) :: RO g :: L)) (fun z => ts.length - z.1) ?_ (0, pre.length + 1) (by repeat (first | exact Fr.le_nil _ | refine Fr.le_cons rfl ?_)) ⟨by simp, by simp, hw.xQ⟩
        rintro ⟨i, nx⟩ w ⟨hi1, hnx, hw⟩ ih2
        dsimp only at hi1 hnx hw ih2 ⊢
        refine g_seq ?_
        refine g_region ?_
        first | (refine xV rfl rfl rfl (v_lssT rfl rfl (by omega)) ?_) | (refine xV rfl rfl rfl (v_lssF rfl rfl (by omega)) ?_) | (refine xV rfl rfl rfl (v_lss rfl rfl) ?_)
        refine rl_nil (g_le (xK (Fr.le_refl _)) ?_)
        refine g_seq ?_
        refine g_cond rfl (fun h4 => ?_) (fun h4 => ?_)
        · try with_reducible exact ft_elim h4
          all_goals
            try replace h4 := of_decide_eq_true h4
            refine g_skip (g_seq (g_block (g_seq ?_)))
            have hz := hw
            clear hw
            obtain ⟨t, ht⟩ : ∃ t, ts[i]? = some t := ⟨_, List.getElem?_eq_getElem (by omega)⟩
            have hsp := seen_split (d := d + 1) ht
            rw [hfl] at hsp
            obtain ⟨rest, hrest⟩ := seen_head hh (d + 1) t.1 t.2
            have hnw2 : now = (pre ++ ⟨d, r, nodeU (hh + 1) ts⟩ :: ((ts.take i).flatMap fun t => seenU hh (d + 1) t.1 t.2)) ++ (seenU hh (d + 1) t.1 t.2 ++ (((ts.drop (i + 1)).flatMap fun t => seenU hh (d + 1) t.1 t.2) ++ post)) := by rw [hnow, hsp]; simp only [List.append_assoc, List.cons_append]
            have hpl : (pre ++ ⟨d, r, nodeU (hh + 1) ts⟩ :: ((ts.take i).flatMap fun t => seenU hh (d + 1) t.1 t.2)).length = nx := by rw [hnx, List.length_append, List.length_cons]; omega
            have hzx : now[nx]? = some ⟨d + 1, t.1, nodeU hh t.2⟩ := by rw [hnw2, List.getElem?_append_right (by omega), hpl, Nat.sub_self, hrest]; rfl
            have hnlt := (List.getElem?_eq_some_iff.1 hzx).1
            obtain ⟨b4, o4, kd, ecs, rfl, hkd, hat4, hl4, rfl, hkok⟩ := gk (i : Nat) (by omega) (by omega)
            rw [Int.toNat_natCast] at hkd hat4
            rw [List.getElem?_map, ht] at hkd
            obtain rfl := Option.some.inj hkd
            dsimp only [kidU, Kd.cells] at hat4 hkok
            obtain ⟨b6, o6, z6, zcs, hz9, hzy, hat6, hl6, hrdz⟩ := gn (nx : Nat) (by omega) (by omega)
            simp only [Option.some.injEq, Addr.mk.injEq, and_true] at hz9
            obtain ⟨rfl, rfl⟩ := hz9
            rw [Int.toNat_natCast] at hzy hat6
            rw [hzx] at hzy
            obtain rfl := Option.some.inj hzy
            obtain ⟨za, zn, zc, zk, zkn, zkc, rfl, _⟩ := sn_told hrdz
            dsimp only at hat6
            have hatR : HAt g b5 (o5 + nx * 8 + 1) [.int .u64 t.1.key, .int .i64 t.1.seg, .int .i64 t.1.off, .int .i64 t.1.len] := hat6.sub 1 4
            have hw := hz
            refine g_region ?_
            refine xV rfl rfl rfl (v_move rfl) ?_
            refine xV rfl rfl rfl (v_indexAddr T.sl_30_70_5 rfl rfl (by omega) (by omega)) ?_
            refine rl_v rfl rfl rfl (by first | exact sat_cells hw (by (repeat first | with_reducible exact xH | apply xT); first | done | fail) ⟨rfl, rfl, rfl, rfl, rfl, trivial⟩ | exact ro_ats hw (by (repeat first | with_reducible exact xH | apply xT); first | done | fail) (by assumption) | exact own_cells hw (by (repeat first | with_reducible exact xH | apply xT); first | done | fail) (by assumption) | exact old_cells hw (by (repeat first | with_reducible exact xH | apply xT); first | done | fail) (by assumption)) (v_loadAgg (vs := [_, _, _, _, _]) T.agg_70_5 rfl rfl) ?_
            refine rl_k rfl (k_alloc hw T.zero_70 rfl rfl (fun bk13_3 w hw => ?_))
            refine xV rfl rfl rfl (v_assign rfl) ?_
            first | (refine rl_k rfl (k_storeWhole hw T.agg_70_5 rfl rfl (by simp [Value.oneCell']) rfl (by (repeat first | with_reducible exact xH | apply xT); first | done | fail) rfl (fun w hw => ?_))) | (refine rl_k rfl (k_storeAgg hw T.agg_70_5 rfl rfl (by simp [Value.oneCell']) rfl (by (repeat first | with_reducible exact xH | apply xT); first | done | fail) rfl rfl (fun w hw => ?_))) | (refine rl_k rfl (k_storeOwnAgg hw T.agg_70_5 rfl rfl (by simp [Value.oneCell']) rfl (by (repeat first | with_reducible exact xH | apply xT); first | done | fail) (by assumption) (by omega) (fun w hw => ?_)))
            refine rl_nil (g_le (xK (xK (xK (xK (xK (Fr.le_refl _)))))) ?_)
            refine g_seq (g_seq ?_)
            refine g_drawR ord_f51_r14_H13 (by kernel_rfl) T.mixed hw (fun w hw => ?_)
            refine rs_a 0 rfl rfl rfl rfl (v_move rfl) ?_
            refine rs_kv 1 rfl rfl rfl rfl (S' := fun _ => True) trivial (v_move rfl) ?_
            refine rs_kv 2 rfl rfl rfl rfl (S' := fun _ => True) trivial (v_lenSlice T.sl_57_61_8 rfl) ?_
            first | (refine rs_kv 3 rfl rfl rfl rfl (S' := fun _ => True) trivial (v_geqT rfl rfl (by omega)) ?_) | (refine rs_kv 3 rfl rfl rfl rfl (S' := fun _ => True) trivial (v_geqF rfl rfl (by omega)) ?_) | (refine rs_kv 3 rfl rfl rfl rfl (S' := fun _ => True) trivial (v_geq rfl rfl) ?_)
            refine rs_kv 4 rfl rfl rfl rfl (S' := fun _ => True) trivial (v_move rfl) ?_
            refine rs_split (s := 96) rfl (fun g14_4 => ?_) (fun g14_4 => ?_)
            · try with_reducible exact ft_elim g14_4
              all_goals
                try replace g14_4 := of_decide_eq_true g14_4
                refine rs_aoff 5 rfl (met_off rfl rfl rfl rfl rfl) rfl rfl ?_
                refine rs_aoff 6 rfl (met_off rfl rfl rfl rfl rfl) rfl rfl ?_
                refine rs_aoff 7 rfl (met_off rfl rfl rfl rfl rfl) rfl rfl ?_
                refine rs_aoff 8 rfl (met_off rfl rfl rfl rfl rfl) rfl rfl ?_
                refine rs_aoff 10 rfl (met_off rfl rfl rfl rfl rfl) rfl rfl ?_
                refine rs_voff 9 rfl (met_off rfl rfl rfl rfl rfl) rfl rfl (by first | exact hw | exact Sat.sub hw (by (repeat (first | with_reducible exact Sub.refl _ | exact Sub.nil _ | (apply Sub.cons; focus ((repeat (first | with_reducible exact Pick.here _ | apply Pick.there)); (first | done | fail))) | with_reducible apply Sub.drop)); first | done | fail)) ?_
                refine rs_koff 11 rfl (met_off rfl rfl rfl rfl rfl) rfl rfl ?_
                refine rs_koff 12 rfl (met_off rfl rfl rfl rfl rfl) rfl rfl ?_
                first | (refine rs_kv 13 rfl rfl rfl rfl (S' := fun _ => True) trivial (v_pick_true rfl rfl) ?_) | (refine rs_kv 13 rfl rfl rfl rfl (S' := fun _ => True) trivial (v_pick_false rfl rfl) ?_) | (refine rs_kv 13 rfl rfl rfl rfl (S' := fun _ => True) trivial (v_pick rfl rfl rfl) ?_)
                refine rs_kv 14 rfl rfl rfl rfl (S' := fun _ => True) trivial (v_move rfl) ?_
                refine rs_aoff 15 rfl (met_off rfl rfl rfl rfl rfl) rfl rfl ?_
                refine rs_aoff 16 rfl (met_off rfl rfl rfl rfl rfl) rfl rfl ?_
                refine rs_aoff 17 rfl (met_off rfl rfl rfl rfl rfl) rfl rfl ?_
                refine rs_aoff 18 rfl (met_off rfl rfl rfl rfl rfl) rfl rfl ?_
                refine rs_aoff 20 rfl (met_off rfl rfl rfl rfl rfl) rfl rfl ?_
                refine rs_voff 19 rfl (met_off rfl rfl rfl rfl rfl) rfl rfl (by first | exact hw | exact Sat.sub hw (by (repeat (first | with_reducible exact Sub.refl _ | exact Sub.nil _ | (apply Sub.cons; focus ((repeat (first | with_reducible exact Pick.here _ | apply Pick.there)); (first | done | fail))) | with_reducible apply Sub.drop)); first | done | fail)) ?_
                refine rs_koff 21 rfl (met_off rfl rfl rfl rfl rfl) rfl rfl ?_
                refine rs_koff 22 rfl (met_off rfl rfl rfl rfl rfl) rfl rfl ?_
                refine rs_koff 23 rfl (met_off rfl rfl rfl rfl rfl) rfl rfl ?_
                first | (refine rs_kv 24 rfl rfl rfl rfl (S' := fun _ => True) trivial (v_pick_true rfl rfl) ?_) | (refine rs_kv 24 rfl rfl rfl rfl (S' := fun _ => True) trivial (v_pick_false rfl rfl) ?_) | (refine rs_kv 24 rfl rfl rfl rfl (S' := fun _ => True) trivial (v_pick rfl rfl rfl) ?_)
                refine rs_kv 25 rfl rfl rfl rfl (S' := fun _ => True) trivial (v_move rfl) ?_
                refine rs_koff 26 rfl (met_off rfl rfl rfl rfl rfl) rfl rfl ?_
                refine rs_koff 27 rfl (met_off rfl rfl rfl rfl rfl) rfl rfl ?_
                refine rs_koff 28 rfl (met_off rfl rfl rfl rfl rfl) rfl rfl ?_
                refine rs_aoff 29 rfl (met_gone rfl rfl rfl rfl) rfl rfl ?_
                refine rs_aoff 31 rfl (met_gone rfl rfl rfl rfl) rfl rfl ?_
                refine rs_aoff 32 rfl (met_gone rfl rfl rfl rfl) rfl rfl ?_
                refine rs_aoff 36 rfl (met_gone rfl rfl rfl rfl) rfl rfl ?_
                refine rs_voff 30 rfl (met_gone rfl rfl rfl rfl) rfl rfl (by first | exact hw | exact Sat.sub hw (by (repeat (first | with_reducible exact Sub.refl _ | exact Sub.nil _ | (apply Sub.cons; focus ((repeat (first | with_reducible exact Pick.here _ | apply Pick.there)); (first | done | fail))) | with_reducible apply Sub.drop)); first | done | fail)) ?_
                refine rs_aoff 33 rfl (met_gone rfl rfl rfl rfl) rfl rfl ?_
                refine rs_aoff 34 rfl (met_gone rfl rfl rfl rfl) rfl rfl ?_
                refine rs_voff 35 rfl (met_gone rfl rfl rfl rfl) rfl rfl (by first | exact hw | exact Sat.sub hw (by (repeat (first | with_reducible exact Sub.refl _ | exact Sub.nil _ | (apply Sub.cons; focus ((repeat (first | with_reducible exact Pick.here _ | apply Pick.there)); (first | done | fail))) | with_reducible apply Sub.drop)); first | done | fail)) ?_
                refine rs_koff 37 rfl (met_gone rfl rfl rfl rfl) rfl rfl ?_
                refine rs_koff 38 rfl (met_gone rfl rfl rfl rfl) rfl rfl ?_
                refine rs_koff 39 rfl (met_off rfl rfl rfl rfl rfl) rfl rfl ?_
                first | (refine rs_kv 40 rfl rfl rfl rfl (S' := fun _ => True) trivial (v_pick_true rfl rfl) ?_) | (refine rs_kv 40 rfl rfl rfl rfl (S' := fun _ => True) trivial (v_pick_false rfl rfl) ?_) | (refine rs_kv 40 rfl rfl rfl rfl (S' := fun _ => True) trivial (v_pick rfl rfl rfl) ?_)
                refine rs_done (g_le (xK (xK (xK (xK (xK (xK (xK (xK (xK (xK (xK (xK (xK (xK (xK (xK (xK (xK (xK (xK (xK (xK (xK (xK (xK (xK (xK (xK (xK (xK (xK (xK (xK (xK (xK (xK (xK (xK (xK (xK (xK (xK (Fr.le_refl _))))))))))))))))))))))))))))))))))))))))))) ?_)
                refine g_cond_true rfl ?_
                refine g_seq ?_
                refine g_region ?_
                refine xV rfl rfl rfl (v_move rfl) ?_
                refine xV rfl rfl rfl (v_assign rfl) ?_
                refine xV rfl rfl rfl (v_assign rfl) ?_
                refine xV rfl rfl rfl (v_assign rfl) ?_
                refine rl_nil (g_le (xK (xK (xK (xK (Fr.le_refl _))))) ?_)
                refine g_ret3 Try.func51 rfl rfl rfl rfl ?_
                exact ⟨rfl, hw⟩
            · try with_reducible exact tf_elim g14_4
              all_goals
                try replace g14_4 := of_decide_eq_false g14_4
                refine rs_ag 5 rfl (met_on rfl rfl rfl rfl) rfl rfl (v_move rfl) ?_
                refine rs_ag 6 rfl (met_on rfl rfl rfl rfl) rfl rfl (v_move rfl) ?_
                refine rs_ag 7 rfl (met_on rfl rfl rfl rfl) rfl rfl (v_indexAddr T.sl_57_61_8 rfl rfl (by omega) (by omega)) ?_
                first | (refine rs_ag 8 rfl (met_on rfl rfl rfl rfl) rfl rfl (v_fieldAddr0 T.fld_61_1_1 rfl) ?_) | (refine rs_ag 8 rfl (met_on rfl rfl rfl rfl) rfl rfl (v_fieldAddr T.fld_61_1_1 rfl) ?_)
                first | (refine rs_ag 10 rfl (met_on rfl rfl rfl rfl) rfl rfl (v_fieldAddr0 T.fld_70_1_1 rfl) ?_) | (refine rs_ag 10 rfl (met_on rfl rfl rfl rfl) rfl rfl (v_fieldAddr T.fld_70_1_1 rfl) ?_)
                refine rs_vg 9 rfl (met_on rfl rfl rfl rfl) rfl rfl (OpV.mono (v_loadAgg (vs := [_, _, _, _]) T.agg_25_4 rfl rfl) (fun w hw => by first | exact sat_cells hw (by (repeat first | with_reducible exact xH | apply xT); first | done | fail) ⟨rfl, rfl, rfl, rfl, trivial⟩ | exact ro_ats hw (by (repeat first | with_reducible exact xH | apply xT); first | done | fail) (by assumption) | exact own_cells hw (by (repeat first | with_reducible exact xH | apply xT); first | done | fail) (by assumption) | exact old_cells hw (by (repeat first | with_reducible exact xH | apply xT); first | done | fail) (by assumption))) (by first | exact hw | exact Sat.sub hw (by (repeat (first | with_reducible exact Sub.refl _ | exact Sub.nil _ | (apply Sub.cons; focus ((repeat (first | with_reducible exact Pick.here _ | apply Pick.there)); (first | done | fail))) | with_reducible apply Sub.drop)); first | done | fail)) ?_
                refine rs_kvg 11 rfl (met_on rfl rfl rfl rfl) rfl rfl (by first | exact sat_cells hw (by (repeat first | with_reducible exact xH | apply xT); first | done | fail) ⟨rfl, rfl, rfl, rfl, trivial⟩ | exact ro_ats hw (by (repeat first | with_reducible exact xH | apply xT); first | done | fail) (by assumption) | exact own_cells hw (by (repeat first | with_reducible exact xH | apply xT); first | done | fail) (by assumption) | exact old_cells hw (by (repeat first | with_reducible exact xH | apply xT); first | done | fail) (by assumption)) (v_loadAgg (vs := [_, _, _, _]) T.agg_25_4 rfl rfl) ?_
                refine rs_kvg 12 rfl (met_on rfl rfl rfl rfl) rfl rfl (S' := fun _ => True) trivial (v_neqAgg T.cmp_25_iiii rfl rfl rfl rfl (by first | exact eq_Rf _ _ | rfl)) ?_
                first | (refine rs_kv 13 rfl rfl rfl rfl (S' := fun _ => True) trivial (v_pick_true rfl rfl) ?_) | (refine rs_kv 13 rfl rfl rfl rfl (S' := fun _ => True) trivial (v_pick_false rfl rfl) ?_) | (refine rs_kv 13 rfl rfl rfl rfl (S' := fun _ => True) trivial (v_pick rfl rfl rfl) ?_)
                refine rs_kv 14 rfl rfl rfl rfl (S' := fun _ => True) trivial (v_move rfl) ?_
                refine rs_split (s := 106) rfl (fun g14_14 => ?_) (fun g14_14 => ?_)
                · try with_reducible exact ft_elim g14_14
                  all_goals
                    try replace g14_14 := of_decide_eq_true g14_14
                    simp at g14_14
                · try with_reducible exact tf_elim g14_14
                  all_goals
                    try replace g14_14 := of_decide_eq_false g14_14
                    refine rs_ag 15 rfl (met_on rfl rfl rfl rfl) rfl rfl (v_move rfl) ?_
                    refine rs_ag 16 rfl (met_on rfl rfl rfl rfl) rfl rfl (v_move rfl) ?_
                    refine rs_ag 17 rfl (met_on rfl rfl rfl rfl) rfl rfl (v_indexAddr T.sl_57_61_8 rfl rfl (by omega) (by omega)) ?_
                    first | (refine rs_ag 18 rfl (met_on rfl rfl rfl rfl) rfl rfl (v_fieldAddr0 T.fld_61_0_0 rfl) ?_) | (refine rs_ag 18 rfl (met_on rfl rfl rfl rfl) rfl rfl (v_fieldAddr T.fld_61_0_0 rfl) ?_)
                    first | (refine rs_ag 20 rfl (met_on rfl rfl rfl rfl) rfl rfl (v_fieldAddr0 T.fld_61_0_0 rfl) ?_) | (refine rs_ag 20 rfl (met_on rfl rfl rfl rfl) rfl rfl (v_fieldAddr T.fld_61_0_0 rfl) ?_)
                    refine rs_vg 19 rfl (met_on rfl rfl rfl rfl) rfl rfl (OpV.mono (v_load T.scal_3 rfl) (fun w hw => by first | exact sat_cell hw (by (repeat first | with_reducible exact xH | apply xT); first | done | fail) rfl | exact own_cell hw (by (repeat first | with_reducible exact xH | apply xT); first | done | fail) (by first | rfl | assumption) | exact ro_at0 hw (by (repeat first | with_reducible exact xH | apply xT); first | done | fail) (by assumption) rfl | exact ro_at hw (by (repeat first | with_reducible exact xH | apply xT); first | done | fail) (by assumption) rfl | exact own_at0 hw (by (repeat first | with_reducible exact xH | apply xT); first | done | fail) (by assumption) rfl | exact own_at hw (by (repeat first | with_reducible exact xH | apply xT); first | done | fail) (by assumption) rfl | exact old_cell hw (by (repeat first | with_reducible exact xH | apply xT); first | done | fail) (by assumption) | assumption)) (by first | exact hw | exact Sat.sub hw (by (repeat (first | with_reducible exact Sub.refl _ | exact Sub.nil _ | (apply Sub.cons; focus ((repeat (first | with_reducible exact Pick.here _ | apply Pick.there)); (first | done | fail))) | with_reducible apply Sub.drop)); first | done | fail)) ?_
                    refine rs_kvg 21 rfl (met_on rfl rfl rfl rfl) rfl rfl (by first | exact sat_cell hw (by (repeat first | with_reducible exact xH | apply xT); first | done | fail) rfl | exact own_cell hw (by (repeat first | with_reducible exact xH | apply xT); first | done | fail) (by first | rfl | assumption) | exact ro_at0 hw (by (repeat first | with_reducible exact xH | apply xT); first | done | fail) (by assumption) rfl | exact ro_at hw (by (repeat first | with_reducible exact xH | apply xT); first | done | fail) (by assumption) rfl | exact own_at0 hw (by (repeat first | with_reducible exact xH | apply xT); first | done | fail) (by assumption) rfl | exact own_at hw (by (repeat first | with_reducible exact xH | apply xT); first | done | fail) (by assumption) rfl | exact old_cell hw (by (repeat first | with_reducible exact xH | apply xT); first | done | fail) (by assumption) | assumption) (v_load T.scal_3 rfl) ?_
                    first | (refine rs_kvg 22 rfl (met_on rfl rfl rfl rfl) rfl rfl (S' := fun _ => True) trivial (v_add rfl rfl (by omega)) ?_) | (refine rs_kvg 22 rfl (met_on rfl rfl rfl rfl) rfl rfl (S' := fun _ => True) trivial (v_addW rfl rfl) ?_)
                    first | (refine rs_kvg 23 rfl (met_on rfl rfl rfl rfl) rfl rfl (S' := fun _ => True) trivial (v_neqT rfl rfl (by omega)) ?_) | (refine rs_kvg 23 rfl (met_on rfl rfl rfl rfl) rfl rfl (S' := fun _ => True) trivial (v_neqF rfl rfl (by first | omega | rfl)) ?_) | (refine rs_kvg 23 rfl (met_on rfl rfl rfl rfl) rfl rfl (S' := fun _ => True) trivial (v_neq rfl rfl) ?_)
                    first | (refine rs_kv 24 rfl rfl rfl rfl (S' := fun _ => True) trivial (v_pick_true rfl rfl) ?_) | (refine rs_kv 24 rfl rfl rfl rfl (S' := fun _ => True) trivial (v_pick_false rfl rfl) ?_) | (refine rs_kv 24 rfl rfl rfl rfl (S' := fun _ => True) trivial (v_pick rfl rfl rfl) ?_)
                    refine rs_kv 25 rfl rfl rfl rfl (S' := fun _ => True) trivial (v_move rfl) ?_
                    refine rs_split (s := 117) rfl (fun g14_25 => ?_) (fun g14_25 => ?_)
                    · try with_reducible exact ft_elim g14_25
                      all_goals
                        try replace g14_25 := of_decide_eq_true g14_25
                        simp at g14_25
                    · try with_reducible exact tf_elim g14_25
                      all_goals
                        try replace g14_25 := of_decide_eq_false g14_25
                        refine rs_kvg 26 rfl (met_on rfl rfl rfl rfl) rfl rfl (S' := fun _ => True) trivial (v_move rfl) ?_
                        first | (refine rs_kvg 27 rfl (met_on rfl rfl rfl rfl) rfl rfl (S' := fun _ => True) trivial (v_gtrT rfl rfl (by omega)) ?_) | (refine rs_kvg 27 rfl (met_on rfl rfl rfl rfl) rfl rfl (S' := fun _ => True) trivial (v_gtrF rfl rfl (by omega)) ?_) | (refine rs_kvg 27 rfl (met_on rfl rfl rfl rfl) rfl rfl (S' := fun _ => True) trivial (v_gtr rfl rfl) ?_)
                        refine rs_kvg 28 rfl (met_on rfl rfl rfl rfl) rfl rfl (S' := fun _ => True) trivial (v_move rfl) ?_
                        refine rs_split (s := 120) rfl (fun g14_28 => ?_) (fun g14_28 => ?_)
                        · try with_reducible exact ft_elim g14_28
                          all_goals
                            try replace g14_28 := of_decide_eq_true g14_28
                            obtain ⟨a0, ha0⟩ : ∃ a0, ts[i - 1]? = some a0 := ⟨_, List.getElem?_eq_getElem (by omega)⟩
                            have hris := lows_rise hok hsr ha0 (by rw [show i - 1 + 1 = i by omega]; exact ht)
                            obtain ⟨b7, o7, k7, ecs7, hz8, hk7, hat7, hl7, rfl, _⟩ := gk ((i : Int) - 1) (by omega) (by omega)
                            simp only [Option.some.injEq, Addr.mk.injEq, and_true] at hz8
                            obtain ⟨rfl, rfl⟩ := hz8
                            rw [show ((i : Int) - 1).toNat = i - 1 by omega, List.getElem?_map, ha0] at hk7
                            obtain rfl := Option.some.inj hk7
                            dsimp only [kidU, Kd.cells] at hat7
                            first | (refine rs_ag 29 rfl (met_on rfl rfl rfl rfl) rfl rfl (v_fieldAddr0 T.fld_32_2_2 rfl) ?_) | (refine rs_ag 29 rfl (met_on rfl rfl rfl rfl) rfl rfl (v_fieldAddr T.fld_32_2_2 rfl) ?_)
                            refine rs_ag 31 rfl (met_on rfl rfl rfl rfl) rfl rfl (v_move rfl) ?_
                            first | (refine rs_ag 32 rfl (met_on rfl rfl rfl rfl) rfl rfl (v_sub rfl rfl (by omega)) ?_) | (refine rs_ag 32 rfl (met_on rfl rfl rfl rfl) rfl rfl (v_subW rfl rfl) ?_)
                            first | (refine rs_ag 36 rfl (met_on rfl rfl rfl rfl) rfl rfl (v_fieldAddr0 T.fld_70_0_0 rfl) ?_) | (refine rs_ag 36 rfl (met_on rfl rfl rfl rfl) rfl rfl (v_fieldAddr T.fld_70_0_0 rfl) ?_)
                            refine rs_vg 30 rfl (met_on rfl rfl rfl rfl) rfl rfl (OpV.mono (v_load T.scal_30 rfl) (fun w hw => by first | exact sat_cell hw (by (repeat first | with_reducible exact xH | apply xT); first | done | fail) rfl | exact own_cell hw (by (repeat first | with_reducible exact xH | apply xT); first | done | fail) (by first | rfl | assumption) | exact ro_at0 hw (by (repeat first | with_reducible exact xH | apply xT); first | done | fail) (by assumption) rfl | exact ro_at hw (by (repeat first | with_reducible exact xH | apply xT); first | done | fail) (by assumption) rfl | exact own_at0 hw (by (repeat first | with_reducible exact xH | apply xT); first | done | fail) (by assumption) rfl | exact own_at hw (by (repeat first | with_reducible exact xH | apply xT); first | done | fail) (by assumption) rfl | exact old_cell hw (by (repeat first | with_reducible exact xH | apply xT); first | done | fail) (by assumption) | assumption)) (by first | exact hw | exact Sat.sub hw (by (repeat (first | with_reducible exact Sub.refl _ | exact Sub.nil _ | (apply Sub.cons; focus ((repeat (first | with_reducible exact Pick.here _ | apply Pick.there)); (first | done | fail))) | with_reducible apply Sub.drop)); first | done | fail)) ?_
                            refine rs_ag 33 rfl (met_on rfl rfl rfl rfl) rfl rfl (v_indexAddr T.sl_30_70_5 rfl rfl (by omega) (by omega)) ?_
                            first | (refine rs_ag 34 rfl (met_on rfl rfl rfl rfl) rfl rfl (v_fieldAddr0 T.fld_70_0_0 rfl) ?_) | (refine rs_ag 34 rfl (met_on rfl rfl rfl rfl) rfl rfl (v_fieldAddr T.fld_70_0_0 rfl) ?_)
                            refine rs_vg 35 rfl (met_on rfl rfl rfl rfl) rfl rfl (OpV.mono (v_load T.scal_9 rfl) (fun w hw => by first | exact sat_cell hw (by (repeat first | with_reducible exact xH | apply xT); first | done | fail) rfl | exact own_cell hw (by (repeat first | with_reducible exact xH | apply xT); first | done | fail) (by first | rfl | assumption) | exact ro_at0 hw (by (repeat first | with_reducible exact xH | apply xT); first | done | fail) (by assumption) rfl | exact ro_at hw (by (repeat first | with_reducible exact xH | apply xT); first | done | fail) (by assumption) rfl | exact own_at0 hw (by (repeat first | with_reducible exact xH | apply xT); first | done | fail) (by assumption) rfl | exact own_at hw (by (repeat first | with_reducible exact xH | apply xT); first | done | fail) (by assumption) rfl | exact old_cell hw (by (repeat first | with_reducible exact xH | apply xT); first | done | fail) (by assumption) | assumption)) (by first | exact hw | exact Sat.sub hw (by (repeat (first | with_reducible exact Sub.refl _ | exact Sub.nil _ | (apply Sub.cons; focus ((repeat (first | with_reducible exact Pick.here _ | apply Pick.there)); (first | done | fail))) | with_reducible apply Sub.drop)); first | done | fail)) ?_
                            refine rs_kvg 37 rfl (met_on rfl rfl rfl rfl) rfl rfl (by first | exact sat_cell hw (by (repeat first | with_reducible exact xH | apply xT); first | done | fail) rfl | exact own_cell hw (by (repeat first | with_reducible exact xH | apply xT); first | done | fail) (by first | rfl | assumption) | exact ro_at0 hw (by (repeat first | with_reducible exact xH | apply xT); first | done | fail) (by assumption) rfl | exact ro_at hw (by (repeat first | with_reducible exact xH | apply xT); first | done | fail) (by assumption) rfl | exact own_at0 hw (by (repeat first | with_reducible exact xH | apply xT); first | done | fail) (by assumption) rfl | exact own_at hw (by (repeat first | with_reducible exact xH | apply xT); first | done | fail) (by assumption) rfl | exact old_cell hw (by (repeat first | with_reducible exact xH | apply xT); first | done | fail) (by assumption) | assumption) (v_load T.scal_9 rfl) ?_
                            refine rs_kvg 38 rfl (met_on rfl rfl rfl rfl) rfl rfl (S' := fun _ => True) trivial (v_geqStr rfl rfl) ?_
                            first | (refine rs_kvg 39 rfl (met_on rfl rfl rfl rfl) rfl rfl (S' := fun _ => True) trivial (v_pick_true rfl rfl) ?_) | (refine rs_kvg 39 rfl (met_on rfl rfl rfl rfl) rfl rfl (S' := fun _ => True) trivial (v_pick_false rfl rfl) ?_) | (refine rs_kvg 39 rfl (met_on rfl rfl rfl rfl) rfl rfl (S' := fun _ => True) trivial (v_pick rfl rfl rfl) ?_)
                            first | (refine rs_kv 40 rfl rfl rfl rfl (S' := fun _ => True) trivial (v_pick_true rfl rfl) ?_) | (refine rs_kv 40 rfl rfl rfl rfl (S' := fun _ => True) trivial (v_pick_false rfl rfl) ?_) | (refine rs_kv 40 rfl rfl rfl rfl (S' := fun _ => True) trivial (v_pick rfl rfl rfl) ?_)
                            refine rs_done (g_le (xK (xK (xK (xK (xK (xK (xK (xK (xK (xK (xK (xK (xK (xK (xK (xK (xK (xK (xK (xK (xK (xK (xK (xK (xK (xK (xK (xK (xK (xK (xK (xK (xK (xK (xK (xK (xK (xK (xK (xK (xK (xK (xK (xK (xK (Fr.le_refl _)))))))))))))))))))))))))))))))))))))))))))))) ?_)
                            refine g_cond rfl (fun h5 => ?_) (fun h5 => ?_)
                            · try with_reducible exact ft_elim h5
                              all_goals
                                try replace h5 := of_decide_eq_true h5
                                first | (simp [kidU, hris] at h5) | simp at h5
                            · try with_reducible exact tf_elim h5
                              all_goals
                                try replace h5 := of_decide_eq_false h5
                                refine g_skip (g_seq ?_)
                                refine g_region ?_
                                refine xV rfl rfl rfl (v_move rfl) ?_
                                refine xV rfl rfl rfl (v_move rfl) ?_
                                refine xV rfl rfl rfl (v_move rfl) ?_
                                refine rl_k rfl (k_callf Try.func51 rfl rfl rfl rfl ?_)
                                refine Calls.mono (hpl ▸ ih (u := t.2) (d := d + 1) (r := t.1) (hok t (List.mem_of_getElem? ht)).2.2 (kid_sorted hsr ht) (hok t (List.mem_of_getElem? ht)).2.1 (.inr (hok t (List.mem_of_getElem? ht)).1) (.inr (hok t (List.mem_of_getElem? ht)).1) (by omega) (by omega) hnw2 hrd (hw.xQ)) ?_
                                rintro _ w ⟨rfl, hw⟩
                                refine ⟨_, rfl, ?_⟩
                                refine xV rfl rfl rfl (v_move rfl) ?_
                                refine xV rfl rfl rfl (v_extract rfl rfl) ?_
                                refine xV rfl rfl rfl (v_extract rfl rfl) ?_
                                refine xV rfl rfl rfl (v_extract rfl rfl) ?_
                                refine xV rfl rfl rfl (v_assign rfl) ?_
                                refine xV rfl rfl rfl (v_assign rfl) ?_
                                refine xV rfl rfl rfl (v_assign rfl) ?_
                                refine rl_nil (g_le (xK (xK (xK (xK (xK (xK (xK (xK (xK (xK (xK (Fr.le_refl _)))))))))))) ?_)
                                refine g_seq (g_seq ?_)
                                refine g_region ?_
                                refine xV rfl rfl rfl (v_move rfl) ?_
                                refine xV rfl rfl rfl (v_not rfl) ?_
                                refine xV rfl rfl rfl (v_move rfl) ?_
                                first | (refine rl_vg (met_on rfl rfl rfl rfl) rfl rfl (S := fun _ => True) trivial (v_move rfl) ?_) | (refine rl_off (by first | exact met_off rfl rfl rfl rfl rfl | exact met_gone rfl rfl rfl rfl) rfl rfl ?_)
                                first | (refine rl_vg (met_on rfl rfl rfl rfl) rfl rfl (S := fun _ => True) trivial (v_fieldAddr0 T.fld_70_0_0 rfl) ?_) | (refine rl_vg (met_on rfl rfl rfl rfl) rfl rfl (S := fun _ => True) trivial (v_fieldAddr T.fld_70_0_0 rfl) ?_) | (refine rl_off (by first | exact met_off rfl rfl rfl rfl rfl | exact met_gone rfl rfl rfl rfl) rfl rfl ?_)
                                first | (refine rl_vg (met_on rfl rfl rfl rfl) rfl rfl (by first | exact sat_cell hw (by (repeat first | with_reducible exact xH | apply xT); first | done | fail) rfl | exact own_cell hw (by (repeat first | with_reducible exact xH | apply xT); first | done | fail) (by first | rfl | assumption) | exact ro_at0 hw (by (repeat first | with_reducible exact xH | apply xT); first | done | fail) (by assumption) rfl | exact ro_at hw (by (repeat first | with_reducible exact xH | apply xT); first | done | fail) (by assumption) rfl | exact own_at0 hw (by (repeat first | with_reducible exact xH | apply xT); first | done | fail) (by assumption) rfl | exact own_at hw (by (repeat first | with_reducible exact xH | apply xT); first | done | fail) (by assumption) rfl | exact old_cell hw (by (repeat first | with_reducible exact xH | apply xT); first | done | fail) (by assumption) | assumption) (v_load T.scal_9 rfl) ?_) | (refine rl_off (by first | exact met_off rfl rfl rfl rfl rfl | exact met_gone rfl rfl rfl rfl) rfl rfl ?_)
                                first | (refine rl_vg (met_on rfl rfl rfl rfl) rfl rfl (S := fun _ => True) trivial (v_neqStrF rfl rfl (by first | rfl | assumption)) ?_) | (refine rl_vg (met_on rfl rfl rfl rfl) rfl rfl (S := fun _ => True) trivial (v_neqStrT rfl rfl (by first | assumption | decide)) ?_) | (refine rl_vg (met_on rfl rfl rfl rfl) rfl rfl (S := fun _ => True) trivial (v_neqStr rfl rfl) ?_) | (refine rl_off (by first | exact met_off rfl rfl rfl rfl rfl | exact met_gone rfl rfl rfl rfl) rfl rfl ?_)
                                first | (refine xV rfl rfl rfl (v_pick_true rfl rfl) ?_) | (refine xV rfl rfl rfl (v_pick_false rfl rfl) ?_) | (refine xV rfl rfl rfl (v_pick rfl rfl rfl) ?_)
                                refine rl_nil (g_le (xK (xK (xK (xK (xK (xK (xK (xK (Fr.le_refl _))))))))) ?_)
                                refine g_cond_false rfl ?_
                                refine g_skip ?_
                                refine g_region ?_
                                refine xV rfl rfl rfl (v_move rfl) ?_
                                refine xV rfl rfl rfl (v_assign rfl) ?_
                                refine rl_nil (g_le (xK (xK (Fr.le_refl _))) ?_)
                                refine g_inBlock ?_
                                refine g_region ?_
                                first | (refine xV rfl rfl rfl (v_add rfl rfl (by omega)) ?_) | (refine xV rfl rfl rfl (v_addW rfl rfl) ?_)
                                refine xV rfl rfl rfl (v_move rfl) ?_
                                refine rl_nil (g_le (xK (xK (Fr.le_refl _))) ?_)
                                exact g_le (by repeat (first | exact Fr.le_nil _ | refine Fr.le_cons rfl ?_)) (ih2 (i + 1, nx + (seenU hh (d + 1) t.1 t.2).length) w ⟨by simp only; omega, by dsimp only; rw [List.take_add_one, ht, List.flatMap_append, List.length_append, hnx]; simp; omega, hw.xQ⟩ (by simp only; omega))
                        · try with_reducible exact tf_elim g14_28
                          all_goals
                            try replace g14_28 := of_decide_eq_false g14_28
                            refine rs_aoff 29 rfl (met_off rfl rfl rfl rfl rfl) rfl rfl ?_
                            refine rs_aoff 31 rfl (met_off rfl rfl rfl rfl rfl) rfl rfl ?_
                            refine rs_aoff 32 rfl (met_off rfl rfl rfl rfl rfl) rfl rfl ?_
                            refine rs_aoff 36 rfl (met_off rfl rfl rfl rfl rfl) rfl rfl ?_
                            refine rs_voff 30 rfl (met_off rfl rfl rfl rfl rfl) rfl rfl (by first | exact hw | exact Sat.sub hw (by (repeat (first | with_reducible exact Sub.refl _ | exact Sub.nil _ | (apply Sub.cons; focus ((repeat (first | with_reducible exact Pick.here _ | apply Pick.there)); (first | done | fail))) | with_reducible apply Sub.drop)); first | done | fail)) ?_
                            refine rs_aoff 33 rfl (met_off rfl rfl rfl rfl rfl) rfl rfl ?_
                            refine rs_aoff 34 rfl (met_off rfl rfl rfl rfl rfl) rfl rfl ?_
                            refine rs_voff 35 rfl (met_off rfl rfl rfl rfl rfl) rfl rfl (by first | exact hw | exact Sat.sub hw (by (repeat (first | with_reducible exact Sub.refl _ | exact Sub.nil _ | (apply Sub.cons; focus ((repeat (first | with_reducible exact Pick.here _ | apply Pick.there)); (first | done | fail))) | with_reducible apply Sub.drop)); first | done | fail)) ?_
                            refine rs_koff 37 rfl (met_off rfl rfl rfl rfl rfl) rfl rfl ?_
                            refine rs_koff 38 rfl (met_off rfl rfl rfl rfl rfl) rfl rfl ?_
                            first | (refine rs_kvg 39 rfl (met_on rfl rfl rfl rfl) rfl rfl (S' := fun _ => True) trivial (v_pick_true rfl rfl) ?_) | (refine rs_kvg 39 rfl (met_on rfl rfl rfl rfl) rfl rfl (S' := fun _ => True) trivial (v_pick_false rfl rfl) ?_) | (refine rs_kvg 39 rfl (met_on rfl rfl rfl rfl) rfl rfl (S' := fun _ => True) trivial (v_pick rfl rfl rfl) ?_)
                            first | (refine rs_kv 40 rfl rfl rfl rfl (S' := fun _ => True) trivial (v_pick_true rfl rfl) ?_) | (refine rs_kv 40 rfl rfl rfl rfl (S' := fun _ => True) trivial (v_pick_false rfl rfl) ?_) | (refine rs_kv 40 rfl rfl rfl rfl (S' := fun _ => True) trivial (v_pick rfl rfl rfl) ?_)
                            refine rs_done (g_le (xK (xK (xK (xK (xK (xK (xK (xK (xK (xK (xK (xK (xK (xK (xK (xK (xK (xK (xK (xK (xK (xK (xK (xK (xK (xK (xK (xK (xK (xK (xK (xK (xK (xK (xK (xK (xK (xK (xK (xK (xK (xK (xK (xK (xK (Fr.le_refl _)))))))))))))))))))))))))))))))))))))))))))))) ?_)
                            refine g_cond_false rfl ?_
                            refine g_skip (g_seq ?_)
                            refine g_region ?_
                            refine xV rfl rfl rfl (v_move rfl) ?_
                            refine xV rfl rfl rfl (v_move rfl) ?_
                            refine xV rfl rfl rfl (v_move rfl) ?_
                            refine rl_k rfl (k_callf Try.func51 rfl rfl rfl rfl ?_)
                            refine Calls.mono (hpl ▸ ih (u := t.2) (d := d + 1) (r := t.1) (hok t (List.mem_of_getElem? ht)).2.2 (kid_sorted hsr ht) (hok t (List.mem_of_getElem? ht)).2.1 (.inr (hok t (List.mem_of_getElem? ht)).1) (.inr (hok t (List.mem_of_getElem? ht)).1) (by omega) (by omega) hnw2 hrd (hw.xQ)) ?_
                            rintro _ w ⟨rfl, hw⟩
                            refine ⟨_, rfl, ?_⟩
                            refine xV rfl rfl rfl (v_move rfl) ?_
                            refine xV rfl rfl rfl (v_extract rfl rfl) ?_
                            refine xV rfl rfl rfl (v_extract rfl rfl) ?_
                            refine xV rfl rfl rfl (v_extract rfl rfl) ?_
                            refine xV rfl rfl rfl (v_assign rfl) ?_
                            refine xV rfl rfl rfl (v_assign rfl) ?_
                            refine xV rfl rfl rfl (v_assign rfl) ?_
                            refine rl_nil (g_le (xK (xK (xK (xK (xK (xK (xK (xK (xK (xK (xK (Fr.le_refl _)))))))))))) ?_)
                            refine g_seq (g_seq ?_)
                            refine g_region ?_
                            refine xV rfl rfl rfl (v_move rfl) ?_
                            refine xV rfl rfl rfl (v_not rfl) ?_
                            refine xV rfl rfl rfl (v_move rfl) ?_
                            first | (refine rl_vg (met_on rfl rfl rfl rfl) rfl rfl (S := fun _ => True) trivial (v_move rfl) ?_) | (refine rl_off (by first | exact met_off rfl rfl rfl rfl rfl | exact met_gone rfl rfl rfl rfl) rfl rfl ?_)
                            first | (refine rl_vg (met_on rfl rfl rfl rfl) rfl rfl (S := fun _ => True) trivial (v_fieldAddr0 T.fld_70_0_0 rfl) ?_) | (refine rl_vg (met_on rfl rfl rfl rfl) rfl rfl (S := fun _ => True) trivial (v_fieldAddr T.fld_70_0_0 rfl) ?_) | (refine rl_off (by first | exact met_off rfl rfl rfl rfl rfl | exact met_gone rfl rfl rfl rfl) rfl rfl ?_)
                            first | (refine rl_vg (met_on rfl rfl rfl rfl) rfl rfl (by first | exact sat_cell hw (by (repeat first | with_reducible exact xH | apply xT); first | done | fail) rfl | exact own_cell hw (by (repeat first | with_reducible exact xH | apply xT); first | done | fail) (by first | rfl | assumption) | exact ro_at0 hw (by (repeat first | with_reducible exact xH | apply xT); first | done | fail) (by assumption) rfl | exact ro_at hw (by (repeat first | with_reducible exact xH | apply xT); first | done | fail) (by assumption) rfl | exact own_at0 hw (by (repeat first | with_reducible exact xH | apply xT); first | done | fail) (by assumption) rfl | exact own_at hw (by (repeat first | with_reducible exact xH | apply xT); first | done | fail) (by assumption) rfl | exact old_cell hw (by (repeat first | with_reducible exact xH | apply xT); first | done | fail) (by assumption) | assumption) (v_load T.scal_9 rfl) ?_) | (refine rl_off (by first | exact met_off rfl rfl rfl rfl rfl | exact met_gone rfl rfl rfl rfl) rfl rfl ?_)
                            first | (refine rl_vg (met_on rfl rfl rfl rfl) rfl rfl (S := fun _ => True) trivial (v_neqStrF rfl rfl (by first | rfl | assumption)) ?_) | (refine rl_vg (met_on rfl rfl rfl rfl) rfl rfl (S := fun _ => True) trivial (v_neqStrT rfl rfl (by first | assumption | decide)) ?_) | (refine rl_vg (met_on rfl rfl rfl rfl) rfl rfl (S := fun _ => True) trivial (v_neqStr rfl rfl) ?_) | (refine rl_off (by first | exact met_off rfl rfl rfl rfl rfl | exact met_gone rfl rfl rfl rfl) rfl rfl ?_)
                            first | (refine xV rfl rfl rfl (v_pick_true rfl rfl) ?_) | (refine xV rfl rfl rfl (v_pick_false rfl rfl) ?_) | (refine xV rfl rfl rfl (v_pick rfl rfl rfl) ?_)
                            refine rl_nil (g_le (xK (xK (xK (xK (xK (xK (xK (xK (Fr.le_refl _))))))))) ?_)
                            refine g_cond_false rfl ?_
                            refine g_skip ?_
                            refine g_region ?_
                            refine xV rfl rfl rfl (v_move rfl) ?_
                            refine xV rfl rfl rfl (v_assign rfl) ?_
                            refine rl_nil (g_le (xK (xK (Fr.le_refl _))) ?_)
                            refine g_inBlock ?_
                            refine g_region ?_
                            first | (refine xV rfl rfl rfl (v_add rfl rfl (by omega)) ?_) | (refine xV rfl rfl rfl (v_addW rfl rfl) ?_)
                            refine xV rfl rfl rfl (v_move rfl) ?_
                            refine rl_nil (g_le (xK (xK (Fr.le_refl _))) ?_)
                            exact g_le (by repeat (first | exact Fr.le_nil _ | refine Fr.le_cons rfl ?_)) (ih2 (i + 1, nx + (seenU hh (d + 1) t.1 t.2).length) w ⟨by simp only; omega, by dsimp only; rw [List.take_add_one, ht, List.flatMap_append, List.length_append, hnx]; simp; omega, hw.xQ⟩ (by simp only; omega))
        · try with_reducible exact tf_elim h4
          all_goals
            try replace h4 := of_decide_eq_false h4
            refine g_exit rfl (g_seq ?_)
            obtain ⟨t0, ts', rfl⟩ : ∃ t0 ts', ts = t0 :: ts' := by cases ts with | nil => simp at h2t | cons t0 ts' => exact ⟨_, _, rfl⟩
            obtain ⟨b4, o4, kd, ecs, rfl, hkd, hat4, hl4, rfl, hkok⟩ := gk 0 (by omega) (by omega)
            simp only [Int.toNat_zero, List.map_cons, List.getElem?_cons_zero, Option.some.injEq] at hkd
            subst hkd
            rw [List.take_of_length_le (by omega), hfl] at hnx
            refine g_region ?_
            first | (refine xV rfl rfl rfl (v_fieldAddr0 T.fld_32_2_2 rfl) ?_) | (refine xV rfl rfl rfl (v_fieldAddr T.fld_32_2_2 rfl) ?_)
            refine rl_v rfl rfl rfl (by first | exact sat_cell hw (by (repeat first | with_reducible exact xH | apply xT); first | done | fail) rfl | exact own_cell hw (by (repeat first | with_reducible exact xH | apply xT); first | done | fail) (by first | rfl | assumption) | exact ro_at0 hw (by (repeat first | with_reducible exact xH | apply xT); first | done | fail) (by assumption) rfl | exact ro_at hw (by (repeat first | with_reducible exact xH | apply xT); first | done | fail) (by assumption) rfl | exact own_at0 hw (by (repeat first | with_reducible exact xH | apply xT); first | done | fail) (by assumption) rfl | exact own_at hw (by (repeat first | with_reducible exact xH | apply xT); first | done | fail) (by assumption) rfl | exact old_cell hw (by (repeat first | with_reducible exact xH | apply xT); first | done | fail) (by assumption) | assumption) (v_load T.scal_30 rfl) ?_
            refine xV rfl rfl rfl (v_indexAddr T.sl_30_70_5 rfl rfl (by omega) (by omega)) ?_
            first | (refine xV rfl rfl rfl (v_fieldAddr0 T.fld_70_0_0 rfl) ?_) | (refine xV rfl rfl rfl (v_fieldAddr T.fld_70_0_0 rfl) ?_)
            refine rl_v rfl rfl rfl (by first | exact sat_cell hw (by (repeat first | with_reducible exact xH | apply xT); first | done | fail) rfl | exact own_cell hw (by (repeat first | with_reducible exact xH | apply xT); first | done | fail) (by first | rfl | assumption) | exact ro_at0 hw (by (repeat first | with_reducible exact xH | apply xT); first | done | fail) (by assumption) rfl | exact ro_at hw (by (repeat first | with_reducible exact xH | apply xT); first | done | fail) (by assumption) rfl | exact own_at0 hw (by (repeat first | with_reducible exact xH | apply xT); first | done | fail) (by assumption) rfl | exact own_at hw (by (repeat first | with_reducible exact xH | apply xT); first | done | fail) (by assumption) rfl | exact old_cell hw (by (repeat first | with_reducible exact xH | apply xT); first | done | fail) (by assumption) | assumption) (v_load T.scal_9 rfl) ?_
            refine xV rfl rfl rfl (v_move rfl) ?_
            refine xV rfl rfl rfl (v_assign rfl) ?_
            refine xV rfl rfl rfl (v_assign rfl) ?_
            refine xV rfl rfl rfl (v_assign rfl) ?_
            refine rl_nil (g_le (xK (xK (xK (xS rfl (xS rfl (xS rfl (xS rfl (xS rfl (xS rfl (Fr.le_refl _)))))))))) ?_)
            refine g_ret3 Try.func51 rfl rfl rfl rfl ?_
            exact ⟨by rw [hnx]; simp [lowU, kidU]; omega, hw.xQ⟩
    · try with_reducible exact tf_elim g8_4
      all_goals
        try replace g8_4 := of_decide_eq_false g8_4
        refine rl_vg (met_on rfl rfl rfl rfl) rfl rfl (S := fun _ => True) trivial (v_fieldAddr0 T.fld_32_2_2 rfl) ?_
        refine rl_vg (met_on rfl rfl rfl rfl) rfl rfl (by exact sat_cell hw (by (repeat first | with_reducible exact xH | apply xT); first | done | fail) rfl) (v_load T.scal_30 rfl) ?_
        refine rl_vg (met_on rfl rfl rfl rfl) rfl rfl (S := fun _ => True) trivial (v_lenSlice T.sl_30_70_5 rfl) ?_
        refine rl_vg (met_on rfl rfl rfl rfl) rfl rfl (S := fun _ => True) trivial (v_gtrF rfl rfl (by omega)) ?_
        refine xV rfl rfl rfl (v_pick_false rfl rfl) ?_
        refine xV rfl rfl rfl (v_move rfl) ?_
        refine rl_split (s := 75) rfl (fun g8_10 => ?_) (fun g8_10 => ?_)
        · try with_reducible exact ft_elim g8_10
          all_goals
            try replace g8_10 := of_decide_eq_true g8_10
            refine rl_off (met_off rfl rfl rfl rfl rfl) rfl rfl ?_
            refine rl_off (met_off rfl rfl rfl rfl rfl) rfl rfl ?_
            refine rl_off (met_off rfl rfl rfl rfl rfl) rfl rfl ?_
            refine rl_off (met_off rfl rfl rfl rfl rfl) rfl rfl ?_
            first | (refine xV rfl rfl rfl (v_pick_true rfl rfl) ?_) | (refine xV rfl rfl rfl (v_pick_false rfl rfl) ?_) | (refine xV rfl rfl rfl (v_pick rfl rfl rfl) ?_)
            refine rl_nil (g_le (xK (xS rfl (xS rfl (xS rfl (xS rfl (xS rfl (xS rfl (xS rfl (xS rfl (xS rfl (xS rfl (xS rfl (xS rfl (xS rfl (xS rfl (xS rfl (xS rfl (xS rfl (Fr.le_refl _))))))))))))))))))) ?_)
            refine g_cond_false rfl ?_
            refine g_skip (g_seq ?_)
            refine g_region ?_
            refine xV rfl rfl rfl (v_move rfl) ?_
            first | (refine xV rfl rfl rfl (v_add rfl rfl (by omega)) ?_) | (refine xV rfl rfl rfl (v_addW rfl rfl) ?_)
            refine xV rfl rfl rfl (v_assign rfl) ?_
            refine rl_nil (g_le (xK (xS rfl (xS rfl (Fr.le_refl _)))) ?_)
            refine g_seq (g_seq ?_)
            refine g_region ?_
            first | (refine xV rfl rfl rfl (v_fieldAddr0 T.fld_32_2_2 rfl) ?_) | (refine xV rfl rfl rfl (v_fieldAddr T.fld_32_2_2 rfl) ?_)
            refine rl_v rfl rfl rfl (by first | exact sat_cell hw (by (repeat first | with_reducible exact xH | apply xT); first | done | fail) rfl | exact own_cell hw (by (repeat first | with_reducible exact xH | apply xT); first | done | fail) (by first | rfl | assumption) | exact ro_at0 hw (by (repeat first | with_reducible exact xH | apply xT); first | done | fail) (by assumption) rfl | exact ro_at hw (by (repeat first | with_reducible exact xH | apply xT); first | done | fail) (by assumption) rfl | exact own_at0 hw (by (repeat first | with_reducible exact xH | apply xT); first | done | fail) (by assumption) rfl | exact own_at hw (by (repeat first | with_reducible exact xH | apply xT); first | done | fail) (by assumption) rfl | exact old_cell hw (by (repeat first | with_reducible exact xH | apply xT); first | done | fail) (by assumption) | assumption) (v_load T.scal_30 rfl) ?_
            refine xV rfl rfl rfl (v_lenSlice T.sl_30_70_5 rfl) ?_
            refine xV rfl rfl rfl (v_move rfl) ?_
            refine rl_nil (g_le (xK (xK (xK (xS rfl (Fr.le_refl _))))) ?_)
            refine g_block ?_
            refine g_loopC (σ := Nat × Nat) (fun C x => (87, .int .i64 (x.1 : Nat)) :: (12, .int .i64 (x.2 : Nat)) :: C) [(0, _), (1, _), (2, _), (6, _), (7, _), (8, _), (9, _), (10, _), (85, _), (86, _)] (by repeat (first | exact Fr.le_nil _ | refine Fr.le_cons rfl ?_)) (fun z w => z.1 ≤ ts.length ∧ z.2 = pre.length + 1 + ((ts.take z.1).flatMap fun t => seenU hh (d + 1) t.1 t.2).length ∧ Sat E w (pt bk1_4 (.cells [.int .i64 d, .int .u64 r.key, .int .i64 r.seg, .int .i64 r.off, .int .i64 r.len, .bool false, .slice ya 0 yc, .slice yk ts.length ykc].toArray 61 (0, 0)) :: pt bk2_2 (.cells [.bool false, .slice ya 0 yc, .slice yk ts.length ykc].toArray 32 (0, 0)) :: RO g :: L)) (fun z => ts.length - z.1) ?_ (0, pre.length + 1) (by repeat (first | exact Fr.le_nil _ | refine Fr.le_cons rfl ?_)) ⟨by simp, by simp, hw.xQ⟩
            rintro ⟨i, nx⟩ w ⟨hi1, hnx, hw⟩ ih2
            dsimp only at hi1 hnx hw ih2 ⊢
            refine g_seq ?_
            refine g_region ?_
            first | (refine xV rfl rfl rfl (v_lssT rfl rfl (by omega)) ?_) | (refine xV rfl rfl rfl (v_lssF rfl rfl (by omega)) ?_) | (refine xV rfl rfl rfl (v_lss rfl rfl) ?_)
            refine rl_nil (g_le (xK (Fr.le_refl _)) ?_)
            refine g_seq ?_
            refine g_cond rfl (fun h4 => ?_) (fun h4 => ?_)
            · try with_reducible exact ft_elim h4
              all_goals
                try replace h4 := of_decide_eq_true h4
                refine g_skip (g_seq (g_block (g_seq ?_)))
                have hz := hw
                clear hw
                obtain ⟨t, ht⟩ : ∃ t, ts[i]? = some t := ⟨_, List.getElem?_eq_getElem (by omega)⟩
                have hsp := seen_split (d := d + 1) ht
                rw [hfl] at hsp
                obtain ⟨rest, hrest⟩ := seen_head hh (d + 1) t.1 t.2
                have hnw2 : now = (pre ++ ⟨d, r, nodeU (hh + 1) ts⟩ :: ((ts.take i).flatMap fun t => seenU hh (d + 1) t.1 t.2)) ++ (seenU hh (d + 1) t.1 t.2 ++ (((ts.drop (i + 1)).flatMap fun t => seenU hh (d + 1) t.1 t.2) ++ post)) := by rw [hnow, hsp]; simp only [List.append_assoc, List.cons_append]
                have hpl : (pre ++ ⟨d, r, nodeU (hh + 1) ts⟩ :: ((ts.take i).flatMap fun t => seenU hh (d + 1) t.1 t.2)).length = nx := by rw [hnx, List.length_append, List.length_cons]; omega
                have hzx : now[nx]? = some ⟨d + 1, t.1, nodeU hh t.2⟩ := by rw [hnw2, List.getElem?_append_right (by omega), hpl, Nat.sub_self, hrest]; rfl
                have hnlt := (List.getElem?_eq_some_iff.1 hzx).1
                obtain ⟨b4, o4, kd, ecs, rfl, hkd, hat4, hl4, rfl, hkok⟩ := gk (i : Nat) (by omega) (by omega)
                rw [Int.toNat_natCast] at hkd hat4
                rw [List.getElem?_map, ht] at hkd
                obtain rfl := Option.some.inj hkd
                dsimp only [kidU, Kd.cells] at hat4 hkok
                obtain ⟨b6, o6, z6, zcs, hz9, hzy, hat6, hl6, hrdz⟩ := gn (nx : Nat) (by omega) (by omega)
                simp only [Option.some.injEq, Addr.mk.injEq, and_true] at hz9
                obtain ⟨rfl, rfl⟩ := hz9
                rw [Int.toNat_natCast] at hzy hat6
                rw [hzx] at hzy
                obtain rfl := Option.some.inj hzy
                obtain ⟨za, zn, zc, zk, zkn, zkc, rfl, _⟩ := sn_told hrdz
                dsimp only at hat6
                have hatR : HAt g b5 (o5 + nx * 8 + 1) [.int .u64 t.1.key, .int .i64 t.1.seg, .int .i64 t.1.off, .int .i64 t.1.len] := hat6.sub 1 4
                have hw := hz
                refine g_region ?_
                refine xV rfl rfl rfl (v_move rfl) ?_
                refine xV rfl rfl rfl (v_indexAddr T.sl_30_70_5 rfl rfl (by omega) (by omega)) ?_
                refine rl_v rfl rfl rfl (by first | exact sat_cells hw (by (repeat first | with_reducible exact xH | apply xT); first | done | fail) ⟨rfl, rfl, rfl, rfl, rfl, trivial⟩ | exact ro_ats hw (by (repeat first | with_reducible exact xH | apply xT); first | done | fail) (by assumption) | exact own_cells hw (by (repeat first | with_reducible exact xH | apply xT); first | done | fail) (by assumption) | exact old_cells hw (by (repeat first | with_reducible exact xH | apply xT); first | done | fail) (by assumption)) (v_loadAgg (vs := [_, _, _, _, _]) T.agg_70_5 rfl rfl) ?_
                refine rl_k rfl (k_alloc hw T.zero_70 rfl rfl (fun bk13_3 w hw => ?_))
                refine xV rfl rfl rfl (v_assign rfl) ?_
                first | (refine rl_k rfl (k_storeWhole hw T.agg_70_5 rfl rfl (by simp [Value.oneCell']) rfl (by (repeat first | with_reducible exact xH | apply xT); first | done | fail) rfl (fun w hw => ?_))) | (refine rl_k rfl (k_storeAgg hw T.agg_70_5 rfl rfl (by simp [Value.oneCell']) rfl (by (repeat first | with_reducible exact xH | apply xT); first | done | fail) rfl rfl (fun w hw => ?_))) | (refine rl_k rfl (k_storeOwnAgg hw T.agg_70_5 rfl rfl (by simp [Value.oneCell']) rfl (by (repeat first | with_reducible exact xH | apply xT); first | done | fail) (by assumption) (by omega) (fun w hw => ?_)))
                refine rl_nil (g_le (xK (xK (xK (xK (xK (Fr.le_refl _)))))) ?_)
                refine g_seq (g_seq ?_)
                refine g_drawR ord_f51_r14_H13 (by kernel_rfl) T.mixed hw (fun w hw => ?_)
                refine rs_a 0 rfl rfl rfl rfl (v_move rfl) ?_
                refine rs_kv 1 rfl rfl rfl rfl (S' := fun _ => True) trivial (v_move rfl) ?_
                refine rs_kv 2 rfl rfl rfl rfl (S' := fun _ => True) trivial (v_lenSlice T.sl_57_61_8 rfl) ?_
                first | (refine rs_kv 3 rfl rfl rfl rfl (S' := fun _ => True) trivial (v_geqT rfl rfl (by omega)) ?_) | (refine rs_kv 3 rfl rfl rfl rfl (S' := fun _ => True) trivial (v_geqF rfl rfl (by omega)) ?_) | (refine rs_kv 3 rfl rfl rfl rfl (S' := fun _ => True) trivial (v_geq rfl rfl) ?_)
                refine rs_kv 4 rfl rfl rfl rfl (S' := fun _ => True) trivial (v_move rfl) ?_
                refine rs_split (s := 96) rfl (fun g14_4 => ?_) (fun g14_4 => ?_)
                · try with_reducible exact ft_elim g14_4
                  all_goals
                    try replace g14_4 := of_decide_eq_true g14_4
                    refine rs_aoff 5 rfl (met_off rfl rfl rfl rfl rfl) rfl rfl ?_
                    refine rs_aoff 6 rfl (met_off rfl rfl rfl rfl rfl) rfl rfl ?_
                    refine rs_aoff 7 rfl (met_off rfl rfl rfl rfl rfl) rfl rfl ?_
                    refine rs_aoff 8 rfl (met_off rfl rfl rfl rfl rfl) rfl rfl ?_
                    refine rs_aoff 10 rfl (met_off rfl rfl rfl rfl rfl) rfl rfl ?_
                    refine rs_voff 9 rfl (met_off rfl rfl rfl rfl rfl) rfl rfl (by first | exact hw | exact Sat.sub hw (by (repeat (first | with_reducible exact Sub.refl _ | exact Sub.nil _ | (apply Sub.cons; focus ((repeat (first | with_reducible exact Pick.here _ | apply Pick.there)); (first | done | fail))) | with_reducible apply Sub.drop)); first | done | fail)) ?_
                    refine rs_koff 11 rfl (met_off rfl rfl rfl rfl rfl) rfl rfl ?_
                    refine rs_koff 12 rfl (met_off rfl rfl rfl rfl rfl) rfl rfl ?_
                    first | (refine rs_kv 13 rfl rfl rfl rfl (S' := fun _ => True) trivial (v_pick_true rfl rfl) ?_) | (refine rs_kv 13 rfl rfl rfl rfl (S' := fun _ => True) trivial (v_pick_false rfl rfl) ?_) | (refine rs_kv 13 rfl rfl rfl rfl (S' := fun _ => True) trivial (v_pick rfl rfl rfl) ?_)
                    refine rs_kv 14 rfl rfl rfl rfl (S' := fun _ => True) trivial (v_move rfl) ?_
                    refine rs_aoff 15 rfl (met_off rfl rfl rfl rfl rfl) rfl rfl ?_
                    refine rs_aoff 16 rfl (met_off rfl rfl rfl rfl rfl) rfl rfl ?_
                    refine rs_aoff 17 rfl (met_off rfl rfl rfl rfl rfl) rfl rfl ?_
                    refine rs_aoff 18 rfl (met_off rfl rfl rfl rfl rfl) rfl rfl ?_
                    refine rs_aoff 20 rfl (met_off rfl rfl rfl rfl rfl) rfl rfl ?_
                    refine rs_voff 19 rfl (met_off rfl rfl rfl rfl rfl) rfl rfl (by first | exact hw | exact Sat.sub hw (by (repeat (first | with_reducible exact Sub.refl _ | exact Sub.nil _ | (apply Sub.cons; focus ((repeat (first | with_reducible exact Pick.here _ | apply Pick.there)); (first | done | fail))) | with_reducible apply Sub.drop)); first | done | fail)) ?_
                    refine rs_koff 21 rfl (met_off rfl rfl rfl rfl rfl) rfl rfl ?_
                    refine rs_koff 22 rfl (met_off rfl rfl rfl rfl rfl) rfl rfl ?_
                    refine rs_koff 23 rfl (met_off rfl rfl rfl rfl rfl) rfl rfl ?_
                    first | (refine rs_kv 24 rfl rfl rfl rfl (S' := fun _ => True) trivial (v_pick_true rfl rfl) ?_) | (refine rs_kv 24 rfl rfl rfl rfl (S' := fun _ => True) trivial (v_pick_false rfl rfl) ?_) | (refine rs_kv 24 rfl rfl rfl rfl (S' := fun _ => True) trivial (v_pick rfl rfl rfl) ?_)
                    refine rs_kv 25 rfl rfl rfl rfl (S' := fun _ => True) trivial (v_move rfl) ?_
                    refine rs_koff 26 rfl (met_off rfl rfl rfl rfl rfl) rfl rfl ?_
                    refine rs_koff 27 rfl (met_off rfl rfl rfl rfl rfl) rfl rfl ?_
                    refine rs_koff 28 rfl (met_off rfl rfl rfl rfl rfl) rfl rfl ?_
                    refine rs_aoff 29 rfl (met_gone rfl rfl rfl rfl) rfl rfl ?_
                    refine rs_aoff 31 rfl (met_gone rfl rfl rfl rfl) rfl rfl ?_
                    refine rs_aoff 32 rfl (met_gone rfl rfl rfl rfl) rfl rfl ?_
                    refine rs_aoff 36 rfl (met_gone rfl rfl rfl rfl) rfl rfl ?_
                    refine rs_voff 30 rfl (met_gone rfl rfl rfl rfl) rfl rfl (by first | exact hw | exact Sat.sub hw (by (repeat (first | with_reducible exact Sub.refl _ | exact Sub.nil _ | (apply Sub.cons; focus ((repeat (first | with_reducible exact Pick.here _ | apply Pick.there)); (first | done | fail))) | with_reducible apply Sub.drop)); first | done | fail)) ?_
                    refine rs_aoff 33 rfl (met_gone rfl rfl rfl rfl) rfl rfl ?_
                    refine rs_aoff 34 rfl (met_gone rfl rfl rfl rfl) rfl rfl ?_
                    refine rs_voff 35 rfl (met_gone rfl rfl rfl rfl) rfl rfl (by first | exact hw | exact Sat.sub hw (by (repeat (first | with_reducible exact Sub.refl _ | exact Sub.nil _ | (apply Sub.cons; focus ((repeat (first | with_reducible exact Pick.here _ | apply Pick.there)); (first | done | fail))) | with_reducible apply Sub.drop)); first | done | fail)) ?_
                    refine rs_koff 37 rfl (met_gone rfl rfl rfl rfl) rfl rfl ?_
                    refine rs_koff 38 rfl (met_gone rfl rfl rfl rfl) rfl rfl ?_
                    refine rs_koff 39 rfl (met_off rfl rfl rfl rfl rfl) rfl rfl ?_
                    first | (refine rs_kv 40 rfl rfl rfl rfl (S' := fun _ => True) trivial (v_pick_true rfl rfl) ?_) | (refine rs_kv 40 rfl rfl rfl rfl (S' := fun _ => True) trivial (v_pick_false rfl rfl) ?_) | (refine rs_kv 40 rfl rfl rfl rfl (S' := fun _ => True) trivial (v_pick rfl rfl rfl) ?_)
                    refine rs_done (g_le (xK (xK (xK (xK (xK (xK (xK (xK (xK (xK (xK (xK (xK (xK (xK (xK (xK (xK (xK (xK (xK (xK (xK (xK (xK (xK (xK (xK (xK (xK (xK (xK (xK (xK (xK (xK (xK (xK (xK (xK (xK (xK (Fr.le_refl _))))))))))))))))))))))))))))))))))))))))))) ?_)
                    refine g_cond_true rfl ?_
                    refine g_seq ?_
                    refine g_region ?_
                    refine xV rfl rfl rfl (v_move rfl) ?_
                    refine xV rfl rfl rfl (v_assign rfl) ?_
                    refine xV rfl rfl rfl (v_assign rfl) ?_
                    refine xV rfl rfl rfl (v_assign rfl) ?_
                    refine rl_nil (g_le (xK (xK (xK (xK (Fr.le_refl _))))) ?_)
                    refine g_ret3 Try.func51 rfl rfl rfl rfl ?_
                    exact ⟨rfl, hw⟩
                · try with_reducible exact tf_elim g14_4
                  all_goals
                    try replace g14_4 := of_decide_eq_false g14_4
                    refine rs_ag 5 rfl (met_on rfl rfl rfl rfl) rfl rfl (v_move rfl) ?_
                    refine rs_ag 6 rfl (met_on rfl rfl rfl rfl) rfl rfl (v_move rfl) ?_
                    refine rs_ag 7 rfl (met_on rfl rfl rfl rfl) rfl rfl (v_indexAddr T.sl_57_61_8 rfl rfl (by omega) (by omega)) ?_
                    first | (refine rs_ag 8 rfl (met_on rfl rfl rfl rfl) rfl rfl (v_fieldAddr0 T.fld_61_1_1 rfl) ?_) | (refine rs_ag 8 rfl (met_on rfl rfl rfl rfl) rfl rfl (v_fieldAddr T.fld_61_1_1 rfl) ?_)
                    first | (refine rs_ag 10 rfl (met_on rfl rfl rfl rfl) rfl rfl (v_fieldAddr0 T.fld_70_1_1 rfl) ?_) | (refine rs_ag 10 rfl (met_on rfl rfl rfl rfl) rfl rfl (v_fieldAddr T.fld_70_1_1 rfl) ?_)
                    refine rs_vg 9 rfl (met_on rfl rfl rfl rfl) rfl rfl (OpV.mono (v_loadAgg (vs := [_, _, _, _]) T.agg_25_4 rfl rfl) (fun w hw => by first | exact sat_cells hw (by (repeat first | with_reducible exact xH | apply xT); first | done | fail) ⟨rfl, rfl, rfl, rfl, trivial⟩ | exact ro_ats hw (by (repeat first | with_reducible exact xH | apply xT); first | done | fail) (by assumption) | exact own_cells hw (by (repeat first | with_reducible exact xH | apply xT); first | done | fail) (by assumption) | exact old_cells hw (by (repeat first | with_reducible exact xH | apply xT); first | done | fail) (by assumption))) (by first | exact hw | exact Sat.sub hw (by (repeat (first | with_reducible exact Sub.refl _ | exact Sub.nil _ | (apply Sub.cons; focus ((repeat (first | with_reducible exact Pick.here _ | apply Pick.there)); (first | done | fail))) | with_reducible apply Sub.drop)); first | done | fail)) ?_
                    refine rs_kvg 11 rfl (met_on rfl rfl rfl rfl) rfl rfl (by first | exact sat_cells hw (by (repeat first | with_reducible exact xH | apply xT); first | done | fail) ⟨rfl, rfl, rfl, rfl, trivial⟩ | exact ro_ats hw (by (repeat first | with_reducible exact xH | apply xT); first | done | fail) (by assumption) | exact own_cells hw (by (repeat first | with_reducible exact xH | apply xT); first | done | fail) (by assumption) | exact old_cells hw (by (repeat first | with_reducible exact xH | apply xT); first | done | fail) (by assumption)) (v_loadAgg (vs := [_, _, _, _]) T.agg_25_4 rfl rfl) ?_
                    refine rs_kvg 12 rfl (met_on rfl rfl rfl rfl) rfl rfl (S' := fun _ => True) trivial (v_neqAgg T.cmp_25_iiii rfl rfl rfl rfl (by first | exact eq_Rf _ _ | rfl)) ?_
                    first | (refine rs_kv 13 rfl rfl rfl rfl (S' := fun _ => True) trivial (v_pick_true rfl rfl) ?_) | (refine rs_kv 13 rfl rfl rfl rfl (S' := fun _ => True) trivial (v_pick_false rfl rfl) ?_) | (refine rs_kv 13 rfl rfl rfl rfl (S' := fun _ => True) trivial (v_pick rfl rfl rfl) ?_)
                    refine rs_kv 14 rfl rfl rfl rfl (S' := fun _ => True) trivial (v_move rfl) ?_
                    refine rs_split (s := 106) rfl (fun g14_14 => ?_) (fun g14_14 => ?_)
                    · try with_reducible exact ft_elim g14_14
                      all_goals
                        try replace g14_14 := of_decide_eq_true g14_14
                        simp at g14_14
                    · try with_reducible exact tf_elim g14_14
                      all_goals
                        try replace g14_14 := of_decide_eq_false g14_14
                        refine rs_ag 15 rfl (met_on rfl rfl rfl rfl) rfl rfl (v_move rfl) ?_
                        refine rs_ag 16 rfl (met_on rfl rfl rfl rfl) rfl rfl (v_move rfl) ?_
                        refine rs_ag 17 rfl (met_on rfl rfl rfl rfl) rfl rfl (v_indexAddr T.sl_57_61_8 rfl rfl (by omega) (by omega)) ?_
                        first | (refine rs_ag 18 rfl (met_on rfl rfl rfl rfl) rfl rfl (v_fieldAddr0 T.fld_61_0_0 rfl) ?_) | (refine rs_ag 18 rfl (met_on rfl rfl rfl rfl) rfl rfl (v_fieldAddr T.fld_61_0_0 rfl) ?_)
                        first | (refine rs_ag 20 rfl (met_on rfl rfl rfl rfl) rfl rfl (v_fieldAddr0 T.fld_61_0_0 rfl) ?_) | (refine rs_ag 20 rfl (met_on rfl rfl rfl rfl) rfl rfl (v_fieldAddr T.fld_61_0_0 rfl) ?_)
                        refine rs_vg 19 rfl (met_on rfl rfl rfl rfl) rfl rfl (OpV.mono (v_load T.scal_3 rfl) (fun w hw => by first | exact sat_cell hw (by (repeat first | with_reducible exact xH | apply xT); first | done | fail) rfl | exact own_cell hw (by (repeat first | with_reducible exact xH | apply xT); first | done | fail) (by first | rfl | assumption) | exact ro_at0 hw (by (repeat first | with_reducible exact xH | apply xT); first | done | fail) (by assumption) rfl | exact ro_at hw (by (repeat first | with_reducible exact xH | apply xT); first | done | fail) (by assumption) rfl | exact own_at0 hw (by (repeat first | with_reducible exact xH | apply xT); first | done | fail) (by assumption) rfl | exact own_at hw (by (repeat first | with_reducible exact xH | apply xT); first | done | fail) (by assumption) rfl | exact old_cell hw (by (repeat first | with_reducible exact xH | apply xT); first | done | fail) (by assumption) | assumption)) (by first | exact hw | exact Sat.sub hw (by (repeat (first | with_reducible exact Sub.refl _ | exact Sub.nil _ | (apply Sub.cons; focus ((repeat (first | with_reducible exact Pick.here _ | apply Pick.there)); (first | done | fail))) | with_reducible apply Sub.drop)); first | done | fail)) ?_
                        refine rs_kvg 21 rfl (met_on rfl rfl rfl rfl) rfl rfl (by first | exact sat_cell hw (by (repeat first | with_reducible exact xH | apply xT); first | done | fail) rfl | exact own_cell hw (by (repeat first | with_reducible exact xH | apply xT); first | done | fail) (by first | rfl | assumption) | exact ro_at0 hw (by (repeat first | with_reducible exact xH | apply xT); first | done | fail) (by assumption) rfl | exact ro_at hw (by (repeat first | with_reducible exact xH | apply xT); first | done | fail) (by assumption) rfl | exact own_at0 hw (by (repeat first | with_reducible exact xH | apply xT); first | done | fail) (by assumption) rfl | exact own_at hw (by (repeat first | with_reducible exact xH | apply xT); first | done | fail) (by assumption) rfl | exact old_cell hw (by (repeat first | with_reducible exact xH | apply xT); first | done | fail) (by assumption) | assumption) (v_load T.scal_3 rfl) ?_
                        first | (refine rs_kvg 22 rfl (met_on rfl rfl rfl rfl) rfl rfl (S' := fun _ => True) trivial (v_add rfl rfl (by omega)) ?_) | (refine rs_kvg 22 rfl (met_on rfl rfl rfl rfl) rfl rfl (S' := fun _ => True) trivial (v_addW rfl rfl) ?_)
                        first | (refine rs_kvg 23 rfl (met_on rfl rfl rfl rfl) rfl rfl (S' := fun _ => True) trivial (v_neqT rfl rfl (by omega)) ?_) | (refine rs_kvg 23 rfl (met_on rfl rfl rfl rfl) rfl rfl (S' := fun _ => True) trivial (v_neqF rfl rfl (by first | omega | rfl)) ?_) | (refine rs_kvg 23 rfl (met_on rfl rfl rfl rfl) rfl rfl (S' := fun _ => True) trivial (v_neq rfl rfl) ?_)
                        first | (refine rs_kv 24 rfl rfl rfl rfl (S' := fun _ => True) trivial (v_pick_true rfl rfl) ?_) | (refine rs_kv 24 rfl rfl rfl rfl (S' := fun _ => True) trivial (v_pick_false rfl rfl) ?_) | (refine rs_kv 24 rfl rfl rfl rfl (S' := fun _ => True) trivial (v_pick rfl rfl rfl) ?_)
                        refine rs_kv 25 rfl rfl rfl rfl (S' := fun _ => True) trivial (v_move rfl) ?_
                        refine rs_split (s := 117) rfl (fun g14_25 => ?_) (fun g14_25 => ?_)
                        · try with_reducible exact ft_elim g14_25
                          all_goals
                            try replace g14_25 := of_decide_eq_true g14_25
                            simp at g14_25
                        · try with_reducible exact tf_elim g14_25
                          all_goals
                            try replace g14_25 := of_decide_eq_false g14_25
                            refine rs_kvg 26 rfl (met_on rfl rfl rfl rfl) rfl rfl (S' := fun _ => True) trivial (v_move rfl) ?_
                            first | (refine rs_kvg 27 rfl (met_on rfl rfl rfl rfl) rfl rfl (S' := fun _ => True) trivial (v_gtrT rfl rfl (by omega)) ?_) | (refine rs_kvg 27 rfl (met_on rfl rfl rfl rfl) rfl rfl (S' := fun _ => True) trivial (v_gtrF rfl rfl (by omega)) ?_) | (refine rs_kvg 27 rfl (met_on rfl rfl rfl rfl) rfl rfl (S' := fun _ => True) trivial (v_gtr rfl rfl) ?_)
                            refine rs_kvg 28 rfl (met_on rfl rfl rfl rfl) rfl rfl (S' := fun _ => True) trivial (v_move rfl) ?_
                            refine rs_split (s := 120) rfl (fun g14_28 => ?_) (fun g14_28 => ?_)
                            · try with_reducible exact ft_elim g14_28
                              all_goals
                                try replace g14_28 := of_decide_eq_true g14_28
                                obtain ⟨a0, ha0⟩ : ∃ a0, ts[i - 1]? = some a0 := ⟨_, List.getElem?_eq_getElem (by omega)⟩
                                have hris := lows_rise hok hsr ha0 (by rw [show i - 1 + 1 = i by omega]; exact ht)
                                obtain ⟨b7, o7, k7, ecs7, hz8, hk7, hat7, hl7, rfl, _⟩ := gk ((i : Int) - 1) (by omega) (by omega)
                                simp only [Option.some.injEq, Addr.mk.injEq, and_true] at hz8
                                obtain ⟨rfl, rfl⟩ := hz8
                                rw [show ((i : Int) - 1).toNat = i - 1 by omega, List.getElem?_map, ha0] at hk7
                                obtain rfl := Option.some.inj hk7
                                dsimp only [kidU, Kd.cells] at hat7
                                first | (refine rs_ag 29 rfl (met_on rfl rfl rfl rfl) rfl rfl (v_fieldAddr0 T.fld_32_2_2 rfl) ?_) | (refine rs_ag 29 rfl (met_on rfl rfl rfl rfl) rfl rfl (v_fieldAddr T.fld_32_2_2 rfl) ?_)
                                refine rs_ag 31 rfl (met_on rfl rfl rfl rfl) rfl rfl (v_move rfl) ?_
                                first | (refine rs_ag 32 rfl (met_on rfl rfl rfl rfl) rfl rfl (v_sub rfl rfl (by omega)) ?_) | (refine rs_ag 32 rfl (met_on rfl rfl rfl rfl) rfl rfl (v_subW rfl rfl) ?_)
                                first | (refine rs_ag 36 rfl (met_on rfl rfl rfl rfl) rfl rfl (v_fieldAddr0 T.fld_70_0_0 rfl) ?_) | (refine rs_ag 36 rfl (met_on rfl rfl rfl rfl) rfl rfl (v_fieldAddr T.fld_70_0_0 rfl) ?_)
                                refine rs_vg 30 rfl (met_on rfl rfl rfl rfl) rfl rfl (OpV.mono (v_load T.scal_30 rfl) (fun w hw => by first | exact sat_cell hw (by (repeat first | with_reducible exact xH | apply xT); first | done | fail) rfl | exact own_cell hw (by (repeat first | with_reducible exact xH | apply xT); first | done | fail) (by first | rfl | assumption) | exact ro_at0 hw (by (repeat first | with_reducible exact xH | apply xT); first | done | fail) (by assumption) rfl | exact ro_at hw (by (repeat first | with_reducible exact xH | apply xT); first | done | fail) (by assumption) rfl | exact own_at0 hw (by (repeat first | with_reducible exact xH | apply xT); first | done | fail) (by assumption) rfl | exact own_at hw (by (repeat first | with_reducible exact xH | apply xT); first | done | fail) (by assumption) rfl | exact old_cell hw (by (repeat first | with_reducible exact xH | apply xT); first | done | fail) (by assumption) | assumption)) (by first | exact hw | exact Sat.sub hw (by (repeat (first | with_reducible exact Sub.refl _ | exact Sub.nil _ | (apply Sub.cons; focus ((repeat (first | with_reducible exact Pick.here _ | apply Pick.there)); (first | done | fail))) | with_reducible apply Sub.drop)); first | done | fail)) ?_
                                refine rs_ag 33 rfl (met_on rfl rfl rfl rfl) rfl rfl (v_indexAddr T.sl_30_70_5 rfl rfl (by omega) (by omega)) ?_
                                first | (refine rs_ag 34 rfl (met_on rfl rfl rfl rfl) rfl rfl (v_fieldAddr0 T.fld_70_0_0 rfl) ?_) | (refine rs_ag 34 rfl (met_on rfl rfl rfl rfl) rfl rfl (v_fieldAddr T.fld_70_0_0 rfl) ?_)
                                refine rs_vg 35 rfl (met_on rfl rfl rfl rfl) rfl rfl (OpV.mono (v_load T.scal_9 rfl) (fun w hw => by first | exact sat_cell hw (by (repeat first | with_reducible exact xH | apply xT); first | done | fail) rfl | exact own_cell hw (by (repeat first | with_reducible exact xH | apply xT); first | done | fail) (by first | rfl | assumption) | exact ro_at0 hw (by (repeat first | with_reducible exact xH | apply xT); first | done | fail) (by assumption) rfl | exact ro_at hw (by (repeat first | with_reducible exact xH | apply xT); first | done | fail) (by assumption) rfl | exact own_at0 hw (by (repeat first | with_reducible exact xH | apply xT); first | done | fail) (by assumption) rfl | exact own_at hw (by (repeat first | with_reducible exact xH | apply xT); first | done | fail) (by assumption) rfl | exact old_cell hw (by (repeat first | with_reducible exact xH | apply xT); first | done | fail) (by assumption) | assumption)) (by first | exact hw | exact Sat.sub hw (by (repeat (first | with_reducible exact Sub.refl _ | exact Sub.nil _ | (apply Sub.cons; focus ((repeat (first | with_reducible exact Pick.here _ | apply Pick.there)); (first | done | fail))) | with_reducible apply Sub.drop)); first | done | fail)) ?_
                                refine rs_kvg 37 rfl (met_on rfl rfl rfl rfl) rfl rfl (by first | exact sat_cell hw (by (repeat first | with_reducible exact xH | apply xT); first | done | fail) rfl | exact own_cell hw (by (repeat first | with_reducible exact xH | apply xT); first | done | fail) (by first | rfl | assumption) | exact ro_at0 hw (by (repeat first | with_reducible exact xH | apply xT); first | done | fail) (by assumption) rfl | exact ro_at hw (by (repeat first | with_reducible exact xH | apply xT); first | done | fail) (by assumption) rfl | exact own_at0 hw (by (repeat first | with_reducible exact xH | apply xT); first | done | fail) (by assumption) rfl | exact own_at hw (by (repeat first | with_reducible exact xH | apply xT); first | done | fail) (by assumption) rfl | exact old_cell hw (by (repeat first | with_reducible exact xH | apply xT); first | done | fail) (by assumption) | assumption) (v_load T.scal_9 rfl) ?_
                                refine rs_kvg 38 rfl (met_on rfl rfl rfl rfl) rfl rfl (S' := fun _ => True) trivial (v_geqStr rfl rfl) ?_
                                first | (refine rs_kvg 39 rfl (met_on rfl rfl rfl rfl) rfl rfl (S' := fun _ => True) trivial (v_pick_true rfl rfl) ?_) | (refine rs_kvg 39 rfl (met_on rfl rfl rfl rfl) rfl rfl (S' := fun _ => True) trivial (v_pick_false rfl rfl) ?_) | (refine rs_kvg 39 rfl (met_on rfl rfl rfl rfl) rfl rfl (S' := fun _ => True) trivial (v_pick rfl rfl rfl) ?_)
                                first | (refine rs_kv 40 rfl rfl rfl rfl (S' := fun _ => True) trivial (v_pick_true rfl rfl) ?_) | (refine rs_kv 40 rfl rfl rfl rfl (S' := fun _ => True) trivial (v_pick_false rfl rfl) ?_) | (refine rs_kv 40 rfl rfl rfl rfl (S' := fun _ => True) trivial (v_pick rfl rfl rfl) ?_)
                                refine rs_done (g_le (xK (xK (xK (xK (xK (xK (xK (xK (xK (xK (xK (xK (xK (xK (xK (xK (xK (xK (xK (xK (xK (xK (xK (xK (xK (xK (xK (xK (xK (xK (xK (xK (xK (xK (xK (xK (xK (xK (xK (xK (xK (xK (xK (xK (xK (Fr.le_refl _)))))))))))))))))))))))))))))))))))))))))))))) ?_)
                                refine g_cond rfl (fun h5 => ?_) (fun h5 => ?_)
                                · try with_reducible exact ft_elim h5
                                  all_goals
                                    try replace h5 := of_decide_eq_true h5
                                    first | (simp [kidU, hris] at h5) | simp at h5
                                · try with_reducible exact tf_elim h5
                                  all_goals
                                    try replace h5 := of_decide_eq_false h5
                                    refine g_skip (g_seq ?_)
                                    refine g_region ?_
                                    refine xV rfl rfl rfl (v_move rfl) ?_
                                    refine xV rfl rfl rfl (v_move rfl) ?_
                                    refine xV rfl rfl rfl (v_move rfl) ?_
                                    refine rl_k rfl (k_callf Try.func51 rfl rfl rfl rfl ?_)
                                    refine Calls.mono (hpl ▸ ih (u := t.2) (d := d + 1) (r := t.1) (hok t (List.mem_of_getElem? ht)).2.2 (kid_sorted hsr ht) (hok t (List.mem_of_getElem? ht)).2.1 (.inr (hok t (List.mem_of_getElem? ht)).1) (.inr (hok t (List.mem_of_getElem? ht)).1) (by omega) (by omega) hnw2 hrd (hw.xQ)) ?_
                                    rintro _ w ⟨rfl, hw⟩
                                    refine ⟨_, rfl, ?_⟩
                                    refine xV rfl rfl rfl (v_move rfl) ?_
                                    refine xV rfl rfl rfl (v_extract rfl rfl) ?_
                                    refine xV rfl rfl rfl (v_extract rfl rfl) ?_
                                    refine xV rfl rfl rfl (v_extract rfl rfl) ?_
                                    refine xV rfl rfl rfl (v_assign rfl) ?_
                                    refine xV rfl rfl rfl (v_assign rfl) ?_
                                    refine xV rfl rfl rfl (v_assign rfl) ?_
                                    refine rl_nil (g_le (xK (xK (xK (xK (xK (xK (xK (xK (xK (xK (xK (Fr.le_refl _)))))))))))) ?_)
                                    refine g_seq (g_seq ?_)
                                    refine g_region ?_
                                    refine xV rfl rfl rfl (v_move rfl) ?_
                                    refine xV rfl rfl rfl (v_not rfl) ?_
                                    refine xV rfl rfl rfl (v_move rfl) ?_
                                    first | (refine rl_vg (met_on rfl rfl rfl rfl) rfl rfl (S := fun _ => True) trivial (v_move rfl) ?_) | (refine rl_off (by first | exact met_off rfl rfl rfl rfl rfl | exact met_gone rfl rfl rfl rfl) rfl rfl ?_)
                                    first | (refine rl_vg (met_on rfl rfl rfl rfl) rfl rfl (S := fun _ => True) trivial (v_fieldAddr0 T.fld_70_0_0 rfl) ?_) | (refine rl_vg (met_on rfl rfl rfl rfl) rfl rfl (S := fun _ => True) trivial (v_fieldAddr T.fld_70_0_0 rfl) ?_) | (refine rl_off (by first | exact met_off rfl rfl rfl rfl rfl | exact met_gone rfl rfl rfl rfl) rfl rfl ?_)
                                    first | (refine rl_vg (met_on rfl rfl rfl rfl) rfl rfl (by first | exact sat_cell hw (by (repeat first | with_reducible exact xH | apply xT); first | done | fail) rfl | exact own_cell hw (by (repeat first | with_reducible exact xH | apply xT); first | done | fail) (by first | rfl | assumption) | exact ro_at0 hw (by (repeat first | with_reducible exact xH | apply xT); first | done | fail) (by assumption) rfl | exact ro_at hw (by (repeat first | with_reducible exact xH | apply xT); first | done | fail) (by assumption) rfl | exact own_at0 hw (by (repeat first | with_reducible exact xH | apply xT); first | done | fail) (by assumption) rfl | exact own_at hw (by (repeat first | with_reducible exact xH | apply xT); first | done | fail) (by assumption) rfl | exact old_cell hw (by (repeat first | with_reducible exact xH | apply xT); first | done | fail) (by assumption) | assumption) (v_load T.scal_9 rfl) ?_) | (refine rl_off (by first | exact met_off rfl rfl rfl rfl rfl | exact met_gone rfl rfl rfl rfl) rfl rfl ?_)
                                    first | (refine rl_vg (met_on rfl rfl rfl rfl) rfl rfl (S := fun _ => True) trivial (v_neqStrF rfl rfl (by first | rfl | assumption)) ?_) | (refine rl_vg (met_on rfl rfl rfl rfl) rfl rfl (S := fun _ => True) trivial (v_neqStrT rfl rfl (by first | assumption | decide)) ?_) | (refine rl_vg (met_on rfl rfl rfl rfl) rfl rfl (S := fun _ => True) trivial (v_neqStr rfl rfl) ?_) | (refine rl_off (by first | exact met_off rfl rfl rfl rfl rfl | exact met_gone rfl rfl rfl rfl) rfl rfl ?_)
                                    first | (refine xV rfl rfl rfl (v_pick_true rfl rfl) ?_) | (refine xV rfl rfl rfl (v_pick_false rfl rfl) ?_) | (refine xV rfl rfl rfl (v_pick rfl rfl rfl) ?_)
                                    refine rl_nil (g_le (xK (xK (xK (xK (xK (xK (xK (xK (Fr.le_refl _))))))))) ?_)
                                    refine g_cond_false rfl ?_
                                    refine g_skip ?_
                                    refine g_region ?_
                                    refine xV rfl rfl rfl (v_move rfl) ?_
                                    refine xV rfl rfl rfl (v_assign rfl) ?_
                                    refine rl_nil (g_le (xK (xK (Fr.le_refl _))) ?_)
                                    refine g_inBlock ?_
                                    refine g_region ?_
                                    first | (refine xV rfl rfl rfl (v_add rfl rfl (by omega)) ?_) | (refine xV rfl rfl rfl (v_addW rfl rfl) ?_)
                                    refine xV rfl rfl rfl (v_move rfl) ?_
                                    refine rl_nil (g_le (xK (xK (Fr.le_refl _))) ?_)
                                    exact g_le (by repeat (first | exact Fr.le_nil _ | refine Fr.le_cons rfl ?_)) (ih2 (i + 1, nx + (seenU hh (d + 1) t.1 t.2).length) w ⟨by simp only; omega, by dsimp only; rw [List.take_add_one, ht, List.flatMap_append, List.length_append, hnx]; simp; omega, hw.xQ⟩ (by simp only; omega))
                            · try with_reducible exact tf_elim g14_28
                              all_goals
                                try replace g14_28 := of_decide_eq_false g14_28
                                refine rs_aoff 29 rfl (met_off rfl rfl rfl rfl rfl) rfl rfl ?_
                                refine rs_aoff 31 rfl (met_off rfl rfl rfl rfl rfl) rfl rfl ?_
                                refine rs_aoff 32 rfl (met_off rfl rfl rfl rfl rfl) rfl rfl ?_
                                refine rs_aoff 36 rfl (met_off rfl rfl rfl rfl rfl) rfl rfl ?_
                                refine rs_voff 30 rfl (met_off rfl rfl rfl rfl rfl) rfl rfl (by first | exact hw | exact Sat.sub hw (by (repeat (first | with_reducible exact Sub.refl _ | exact Sub.nil _ | (apply Sub.cons; focus ((repeat (first | with_reducible exact Pick.here _ | apply Pick.there)); (first | done | fail))) | with_reducible apply Sub.drop)); first | done | fail)) ?_
                                refine rs_aoff 33 rfl (met_off rfl rfl rfl rfl rfl) rfl rfl ?_
                                refine rs_aoff 34 rfl (met_off rfl rfl rfl rfl rfl) rfl rfl ?_
                                refine rs_voff 35 rfl (met_off rfl rfl rfl rfl rfl) rfl rfl (by first | exact hw | exact Sat.sub hw (by (repeat (first | with_reducible exact Sub.refl _ | exact Sub.nil _ | (apply Sub.cons; focus ((repeat (first | with_reducible exact Pick.here _ | apply Pick.there)); (first | done | fail))) | with_reducible apply Sub.drop)); first | done | fail)) ?_
                                refine rs_koff 37 rfl (met_off rfl rfl rfl rfl rfl) rfl rfl ?_
                                refine rs_koff 38 rfl (met_off rfl rfl rfl rfl rfl) rfl rfl ?_
                                first | (refine rs_kvg 39 rfl (met_on rfl rfl rfl rfl) rfl rfl (S' := fun _ => True) trivial (v_pick_true rfl rfl) ?_) | (refine rs_kvg 39 rfl (met_on rfl rfl rfl rfl) rfl rfl (S' := fun _ => True) trivial (v_pick_false rfl rfl) ?_) | (refine rs_kvg 39 rfl (met_on rfl rfl rfl rfl) rfl rfl (S' := fun _ => True) trivial (v_pick rfl rfl rfl) ?_)
                                first | (refine rs_kv 40 rfl rfl rfl rfl (S' := fun _ => True) trivial (v_pick_true rfl rfl) ?_) | (refine rs_kv 40 rfl rfl rfl rfl (S' := fun _ => True) trivial (v_pick_false rfl rfl) ?_) | (refine rs_kv 40 rfl rfl rfl rfl (S' := fun _ => True) trivial (v_pick rfl rfl rfl) ?_)
                                refine rs_done (g_le (xK (xK (xK (xK (xK (xK (xK (xK (xK (xK (xK (xK (xK (xK (xK (xK (xK (xK (xK (xK (xK (xK (xK (xK (xK (xK (xK (xK (xK (xK (xK (xK (xK (xK (xK (xK (xK (xK (xK (xK (xK (xK (xK (xK (xK (Fr.le_refl _)))))))))))))))))))))))))))))))))))))))))))))) ?_)
                                refine g_cond_false rfl ?_
                                refine g_skip (g_seq ?_)
                                refine g_region ?_
                                refine xV rfl rfl rfl (v_move rfl) ?_
                                refine xV rfl rfl rfl (v_move rfl) ?_
                                refine xV rfl rfl rfl (v_move rfl) ?_
                                refine rl_k rfl (k_callf Try.func51 rfl rfl rfl rfl ?_)
                                refine Calls.mono (hpl ▸ ih (u := t.2) (d := d + 1) (r := t.1) (hok t (List.mem_of_getElem? ht)).2.2 (kid_sorted hsr ht) (hok t (List.mem_of_getElem? ht)).2.1 (.inr (hok t (List.mem_of_getElem? ht)).1) (.inr (hok t (List.mem_of_getElem? ht)).1) (by omega) (by omega) hnw2 hrd (hw.xQ)) ?_
                                rintro _ w ⟨rfl, hw⟩
                                refine ⟨_, rfl, ?_⟩
                                refine xV rfl rfl rfl (v_move rfl) ?_
                                refine xV rfl rfl rfl (v_extract rfl rfl) ?_
                                refine xV rfl rfl rfl (v_extract rfl rfl) ?_
                                refine xV rfl rfl rfl (v_extract rfl rfl) ?_
                                refine xV rfl rfl rfl (v_assign rfl) ?_
                                refine xV rfl rfl rfl (v_assign rfl) ?_
                                refine xV rfl rfl rfl (v_assign rfl) ?_
                                refine rl_nil (g_le (xK (xK (xK (xK (xK (xK (xK (xK (xK (xK (xK (Fr.le_refl _)))))))))))) ?_)
                                refine g_seq (g_seq ?_)
                                refine g_region ?_
                                refine xV rfl rfl rfl (v_move rfl) ?_
                                refine xV rfl rfl rfl (v_not rfl) ?_
                                refine xV rfl rfl rfl (v_move rfl) ?_
                                first | (refine rl_vg (met_on rfl rfl rfl rfl) rfl rfl (S := fun _ => True) trivial (v_move rfl) ?_) | (refine rl_off (by first | exact met_off rfl rfl rfl rfl rfl | exact met_gone rfl rfl rfl rfl) rfl rfl ?_)
                                first | (refine rl_vg (met_on rfl rfl rfl rfl) rfl rfl (S := fun _ => True) trivial (v_fieldAddr0 T.fld_70_0_0 rfl) ?_) | (refine rl_vg (met_on rfl rfl rfl rfl) rfl rfl (S := fun _ => True) trivial (v_fieldAddr T.fld_70_0_0 rfl) ?_) | (refine rl_off (by first | exact met_off rfl rfl rfl rfl rfl | exact met_gone rfl rfl rfl rfl) rfl rfl ?_)
                                first | (refine rl_vg (met_on rfl rfl rfl rfl) rfl rfl (by first | exact sat_cell hw (by (repeat first | with_reducible exact xH | apply xT); first | done | fail) rfl | exact own_cell hw (by (repeat first | with_reducible exact xH | apply xT); first | done | fail) (by first | rfl | assumption) | exact ro_at0 hw (by (repeat first | with_reducible exact xH | apply xT); first | done | fail) (by assumption) rfl | exact ro_at hw (by (repeat first | with_reducible exact xH | apply xT); first | done | fail) (by assumption) rfl | exact own_at0 hw (by (repeat first | with_reducible exact xH | apply xT); first | done | fail) (by assumption) rfl | exact own_at hw (by (repeat first | with_reducible exact xH | apply xT); first | done | fail) (by assumption) rfl | exact old_cell hw (by (repeat first | with_reducible exact xH | apply xT); first | done | fail) (by assumption) | assumption) (v_load T.scal_9 rfl) ?_) | (refine rl_off (by first | exact met_off rfl rfl rfl rfl rfl | exact met_gone rfl rfl rfl rfl) rfl rfl ?_)
                                first | (refine rl_vg (met_on rfl rfl rfl rfl) rfl rfl (S := fun _ => True) trivial (v_neqStrF rfl rfl (by first | rfl | assumption)) ?_) | (refine rl_vg (met_on rfl rfl rfl rfl) rfl rfl (S := fun _ => True) trivial (v_neqStrT rfl rfl (by first | assumption | decide)) ?_) | (refine rl_vg (met_on rfl rfl rfl rfl) rfl rfl (S := fun _ => True) trivial (v_neqStr rfl rfl) ?_) | (refine rl_off (by first | exact met_off rfl rfl rfl rfl rfl | exact met_gone rfl rfl rfl rfl) rfl rfl ?_)
                                first | (refine xV rfl rfl rfl (v_pick_true rfl rfl) ?_) | (refine xV rfl rfl rfl (v_pick_false rfl rfl) ?_) | (refine xV rfl rfl rfl (v_pick rfl rfl rfl) ?_)
                                refine rl_nil (g_le (xK (xK (xK (xK (xK (xK (xK (xK (Fr.le_refl _))))))))) ?_)
                                refine g_cond_false rfl ?_
                                refine g_skip ?_
                                refine g_region ?_
                                refine xV rfl rfl rfl (v_move rfl) ?_
                                refine xV rfl rfl rfl (v_assign rfl) ?_
                                refine rl_nil (g_le (xK (xK (Fr.le_refl _))) ?_)
                                refine g_inBlock ?_
                                refine g_region ?_
                                first | (refine xV rfl rfl rfl (v_add rfl rfl (by omega)) ?_) | (refine xV rfl rfl rfl (v_addW rfl rfl) ?_)
                                refine xV rfl rfl rfl (v_move rfl) ?_
                                refine rl_nil (g_le (xK (xK (Fr.le_refl _))) ?_)
                                exact g_le (by repeat (first | exact Fr.le_nil _ | refine Fr.le_cons rfl ?_)) (ih2 (i + 1, nx + (seenU hh (d + 1) t.1 t.2).length) w ⟨by simp only; omega, by dsimp only; rw [List.take_add_one, ht, List.flatMap_append, List.length_append, hnx]; simp; omega, hw.xQ⟩ (by simp only; omega))
            · try with_reducible exact tf_elim h4
              all_goals
                try replace h4 := of_decide_eq_false h4
                refine g_exit rfl (g_seq ?_)
                obtain ⟨t0, ts', rfl⟩ : ∃ t0 ts', ts = t0 :: ts' := by cases ts with | nil => simp at h2t | cons t0 ts' => exact ⟨_, _, rfl⟩
                obtain ⟨b4, o4, kd, ecs, rfl, hkd, hat4, hl4, rfl, hkok⟩ := gk 0 (by omega) (by omega)
                simp only [Int.toNat_zero, List.map_cons, List.getElem?_cons_zero, Option.some.injEq] at hkd
                subst hkd
                rw [List.take_of_length_le (by omega), hfl] at hnx
                refine g_region ?_
                first | (refine xV rfl rfl rfl (v_fieldAddr0 T.fld_32_2_2 rfl) ?_) | (refine xV rfl rfl rfl (v_fieldAddr T.fld_32_2_2 rfl) ?_)
                refine rl_v rfl rfl rfl (by first | exact sat_cell hw (by (repeat first | with_reducible exact xH | apply xT); first | done | fail) rfl | exact own_cell hw (by (repeat first | with_reducible exact xH | apply xT); first | done | fail) (by first | rfl | assumption) | exact ro_at0 hw (by (repeat first | with_reducible exact xH | apply xT); first | done | fail) (by assumption) rfl | exact ro_at hw (by (repeat first | with_reducible exact xH | apply xT); first | done | fail) (by assumption) rfl | exact own_at0 hw (by (repeat first | with_reducible exact xH | apply xT); first | done | fail) (by assumption) rfl | exact own_at hw (by (repeat first | with_reducible exact xH | apply xT); first | done | fail) (by assumption) rfl | exact old_cell hw (by (repeat first | with_reducible exact xH | apply xT); first | done | fail) (by assumption) | assumption) (v_load T.scal_30 rfl) ?_
                refine xV rfl rfl rfl (v_indexAddr T.sl_30_70_5 rfl rfl (by omega) (by omega)) ?_
                first | (refine xV rfl rfl rfl (v_fieldAddr0 T.fld_70_0_0 rfl) ?_) | (refine xV rfl rfl rfl (v_fieldAddr T.fld_70_0_0 rfl) ?_)
                refine rl_v rfl rfl rfl (by first | exact sat_cell hw (by (repeat first | with_reducible exact xH | apply xT); first | done | fail) rfl | exact own_cell hw (by (repeat first | with_reducible exact xH | apply xT); first | done | fail) (by first | rfl | assumption) | exact ro_at0 hw (by (repeat first | with_reducible exact xH | apply xT); first | done | fail) (by assumption) rfl | exact ro_at hw (by (repeat first | with_reducible exact xH | apply xT); first | done | fail) (by assumption) rfl | exact own_at0 hw (by (repeat first | with_reducible exact xH | apply xT); first | done | fail) (by assumption) rfl | exact own_at hw (by (repeat first | with_reducible exact xH | apply xT); first | done | fail) (by assumption) rfl | exact old_cell hw (by (repeat first | with_reducible exact xH | apply xT); first | done | fail) (by assumption) | assumption) (v_load T.scal_9 rfl) ?_
                refine xV rfl rfl rfl (v_move rfl) ?_
                refine xV rfl rfl rfl (v_assign rfl) ?_
                refine xV rfl rfl rfl (v_assign rfl) ?_
                refine xV rfl rfl rfl (v_assign rfl) ?_
                refine rl_nil (g_le (xK (xK (xK (xS rfl (xS rfl (xS rfl (xS rfl (xS rfl (xS rfl (Fr.le_refl _)))))))))) ?_)
                refine g_ret3 Try.func51 rfl rfl rfl rfl ?_
                exact ⟨by rw [hnx]; simp [lowU, kidU]; omega, hw.xQ⟩
        · try with_reducible exact tf_elim g8_10
          all_goals
            try replace g8_10 := of_decide_eq_false g8_10
            refine rl_vg (met_on rfl rfl rfl rfl) rfl rfl (S := fun _ => True) trivial (v_fieldAddr0 T.fld_32_1_1 rfl) ?_
            refine rl_vg (met_on rfl rfl rfl rfl) rfl rfl (by exact sat_cell hw (by (repeat first | with_reducible exact xH | apply xT); first | done | fail) rfl) (v_load T.scal_29 rfl) ?_
            refine rl_vg (met_on rfl rfl rfl rfl) rfl rfl (S := fun _ => True) trivial (v_lenSlice T.sl_29_49_2 rfl) ?_
            refine rl_vg (met_on rfl rfl rfl rfl) rfl rfl (S := fun _ => True) trivial (v_gtrF rfl rfl (by omega)) ?_
            refine xV rfl rfl rfl (v_pick_false rfl rfl) ?_
            refine rl_nil (g_le (xK (xS rfl (xS rfl (xS rfl (xS rfl (xS rfl (xS rfl (xS rfl (xS rfl (xS rfl (xS rfl (xS rfl (xS rfl (xS rfl (xS rfl (xS rfl (xS rfl (xS rfl (Fr.le_refl _))))))))))))))))))) ?_)
            refine g_cond_false rfl ?_
            refine g_skip (g_seq ?_)
            refine g_region ?_
            refine xV rfl rfl rfl (v_move rfl) ?_
            refine xV rfl rfl rfl (v_add rfl rfl (by omega)) ?_
            refine xV rfl rfl rfl (v_assign rfl) ?_
            refine rl_nil (g_le (xK (xS rfl (xS rfl (Fr.le_refl _)))) ?_)
            refine g_seq (g_seq ?_)
            refine g_region ?_
            refine xV rfl rfl rfl (v_fieldAddr0 T.fld_32_2_2 rfl) ?_
            refine rl_v rfl rfl rfl (by exact sat_cell hw (by (repeat first | with_reducible exact xH | apply xT); first | done | fail) rfl) (v_load T.scal_30 rfl) ?_
            refine xV rfl rfl rfl (v_lenSlice T.sl_30_70_5 rfl) ?_
            refine xV rfl rfl rfl (v_move rfl) ?_
            refine rl_nil (g_le (xK (xK (xK (xS rfl (Fr.le_refl _))))) ?_)
            refine g_block ?_
            refine g_loopC (σ := Nat × Nat) (fun C x => (87, .int .i64 (x.1 : Nat)) :: (12, .int .i64 (x.2 : Nat)) :: C) [(0, _), (1, _), (2, _), (6, _), (7, _), (8, _), (9, _), (10, _), (85, _), (86, _)] (by repeat (first | exact Fr.le_nil _ | refine Fr.le_cons rfl ?_)) (fun z w => z.1 ≤ ts.length ∧ z.2 = pre.length + 1 + ((ts.take z.1).flatMap fun t => seenU hh (d + 1) t.1 t.2).length ∧ Sat E w (pt bk1_4 (.cells [.int .i64 d, .int .u64 r.key, .int .i64 r.seg, .int .i64 r.off, .int .i64 r.len, .bool false, .slice ya 0 yc, .slice yk ts.length ykc].toArray 61 (0, 0)) :: pt bk2_2 (.cells [.bool false, .slice ya 0 yc, .slice yk ts.length ykc].toArray 32 (0, 0)) :: RO g :: L)) (fun z => ts.length - z.1) ?_ (0, pre.length + 1) (by repeat (first | exact Fr.le_nil _ | refine Fr.le_cons rfl ?_)) ⟨by simp, by simp, hw.xQ⟩
            rintro ⟨i, nx⟩ w ⟨hi1, hnx, hw⟩ ih2
            dsimp only at hi1 hnx hw ih2 ⊢
            refine g_seq ?_
            refine g_region ?_
            refine xV rfl rfl rfl (v_lss rfl rfl) ?_
            refine rl_nil (g_le (xK (Fr.le_refl _)) ?_)
            refine g_seq ?_
            refine g_cond rfl (fun h4 => ?_) (fun h4 => ?_)
            · try with_reducible exact ft_elim h4
              all_goals
                try replace h4 := of_decide_eq_true h4
                refine g_skip (g_seq (g_block (g_seq ?_)))
                have hz := hw
                clear hw
                obtain ⟨t, ht⟩ : ∃ t, ts[i]? = some t := ⟨_, List.getElem?_eq_getElem (by omega)⟩
                have hsp := seen_split (d := d + 1) ht
                rw [hfl] at hsp
                obtain ⟨rest, hrest⟩ := seen_head hh (d + 1) t.1 t.2
                have hnw2 : now = (pre ++ ⟨d, r, nodeU (hh + 1) ts⟩ :: ((ts.take i).flatMap fun t => seenU hh (d + 1) t.1 t.2)) ++ (seenU hh (d + 1) t.1 t.2 ++ (((ts.drop (i + 1)).flatMap fun t => seenU hh (d + 1) t.1 t.2) ++ post)) := by rw [hnow, hsp]; simp only [List.append_assoc, List.cons_append]
                have hpl : (pre ++ ⟨d, r, nodeU (hh + 1) ts⟩ :: ((ts.take i).flatMap fun t => seenU hh (d + 1) t.1 t.2)).length = nx := by rw [hnx, List.length_append, List.length_cons]; omega
                have hzx : now[nx]? = some ⟨d + 1, t.1, nodeU hh t.2⟩ := by rw [hnw2, List.getElem?_append_right (by omega), hpl, Nat.sub_self, hrest]; rfl
                have hnlt := (List.getElem?_eq_some_iff.1 hzx).1
                obtain ⟨b4, o4, kd, ecs, rfl, hkd, hat4, hl4, rfl, hkok⟩ := gk (i : Nat) (by omega) (by omega)
                rw [Int.toNat_natCast] at hkd hat4
                rw [List.getElem?_map, ht] at hkd
                obtain rfl := Option.some.inj hkd
                dsimp only [kidU, Kd.cells] at hat4 hkok
                obtain ⟨b6, o6, z6, zcs, hz9, hzy, hat6, hl6, hrdz⟩ := gn (nx : Nat) (by omega) (by omega)
                simp only [Option.some.injEq, Addr.mk.injEq, and_true] at hz9
                obtain ⟨rfl, rfl⟩ := hz9
                rw [Int.toNat_natCast] at hzy hat6
                rw [hzx] at hzy
                obtain rfl := Option.some.inj hzy
                obtain ⟨za, zn, zc, zk, zkn, zkc, rfl, _⟩ := sn_told hrdz
                dsimp only at hat6
                have hatR : HAt g b5 (o5 + nx * 8 + 1) [.int .u64 t.1.key, .int .i64 t.1.seg, .int .i64 t.1.off, .int .i64 t.1.len] := hat6.sub 1 4
                have hw := hz
                refine g_region ?_
                refine xV rfl rfl rfl (v_move rfl) ?_
                refine xV rfl rfl rfl (v_indexAddr T.sl_30_70_5 rfl rfl (by omega) (by omega)) ?_
                refine rl_v rfl rfl rfl (by exact ro_ats hw (by (repeat first | with_reducible exact xH | apply xT); first | done | fail) (by assumption)) (v_loadAgg (vs := [_, _, _, _, _]) T.agg_70_5 rfl rfl) ?_
                refine rl_k rfl (k_alloc hw T.zero_70 rfl rfl (fun bk13_3 w hw => ?_))
                refine xV rfl rfl rfl (v_assign rfl) ?_
                refine rl_k rfl (k_storeWhole hw T.agg_70_5 rfl rfl (by simp [Value.oneCell']) rfl (by (repeat first | with_reducible exact xH | apply xT); first | done | fail) rfl (fun w hw => ?_))
                refine rl_nil (g_le (xK (xK (xK (xK (xK (Fr.le_refl _)))))) ?_)
                refine g_seq (g_seq ?_)
                refine g_drawR ord_f51_r14_H13 (by kernel_rfl) T.mixed hw (fun w hw => ?_)
                refine rs_a 0 rfl rfl rfl rfl (v_move rfl) ?_
                refine rs_kv 1 rfl rfl rfl rfl (S' := fun _ => True) trivial (v_move rfl) ?_
                refine rs_kv 2 rfl rfl rfl rfl (S' := fun _ => True) trivial (v_lenSlice T.sl_57_61_8 rfl) ?_
                refine rs_kv 3 rfl rfl rfl rfl (S' := fun _ => True) trivial (v_geqF rfl rfl (by omega)) ?_
                refine rs_kv 4 rfl rfl rfl rfl (S' := fun _ => True) trivial (v_move rfl) ?_
                refine rs_split (s := 96) rfl (fun g14_4 => ?_) (fun g14_4 => ?_)
                · try with_reducible exact ft_elim g14_4
                  all_goals
                    try replace g14_4 := of_decide_eq_true g14_4
                    refine rs_aoff 5 rfl (met_off rfl rfl rfl rfl rfl) rfl rfl ?_
                    refine rs_aoff 6 rfl (met_off rfl rfl rfl rfl rfl) rfl rfl ?_
                    refine rs_aoff 7 rfl (met_off rfl rfl rfl rfl rfl) rfl rfl ?_
                    refine rs_aoff 8 rfl (met_off rfl rfl rfl rfl rfl) rfl rfl ?_
                    refine rs_aoff 10 rfl (met_off rfl rfl rfl rfl rfl) rfl rfl ?_
                    refine rs_voff 9 rfl (met_off rfl rfl rfl rfl rfl) rfl rfl (by first | exact hw | exact Sat.sub hw (by (repeat (first | with_reducible exact Sub.refl _ | exact Sub.nil _ | (apply Sub.cons; focus ((repeat (first | with_reducible exact Pick.here _ | apply Pick.there)); (first | done | fail))) | with_reducible apply Sub.drop)); first | done | fail)) ?_
                    refine rs_koff 11 rfl (met_off rfl rfl rfl rfl rfl) rfl rfl ?_
                    refine rs_koff 12 rfl (met_off rfl rfl rfl rfl rfl) rfl rfl ?_
                    first | (refine rs_kv 13 rfl rfl rfl rfl (S' := fun _ => True) trivial (v_pick_true rfl rfl) ?_) | (refine rs_kv 13 rfl rfl rfl rfl (S' := fun _ => True) trivial (v_pick_false rfl rfl) ?_) | (refine rs_kv 13 rfl rfl rfl rfl (S' := fun _ => True) trivial (v_pick rfl rfl rfl) ?_)
                    refine rs_kv 14 rfl rfl rfl rfl (S' := fun _ => True) trivial (v_move rfl) ?_
                    refine rs_aoff 15 rfl (met_off rfl rfl rfl rfl rfl) rfl rfl ?_
                    refine rs_aoff 16 rfl (met_off rfl rfl rfl rfl rfl) rfl rfl ?_
                    refine rs_aoff 17 rfl (met_off rfl rfl rfl rfl rfl) rfl rfl ?_
                    refine rs_aoff 18 rfl (met_off rfl rfl rfl rfl rfl) rfl rfl ?_
                    refine rs_aoff 20 rfl (met_off rfl rfl rfl rfl rfl) rfl rfl ?_
                    refine rs_voff 19 rfl (met_off rfl rfl rfl rfl rfl) rfl rfl (by first | exact hw | exact Sat.sub hw (by (repeat (first | with_reducible exact Sub.refl _ | exact Sub.nil _ | (apply Sub.cons; focus ((repeat (first | with_reducible exact Pick.here _ | apply Pick.there)); (first | done | fail))) | with_reducible apply Sub.drop)); first | done | fail)) ?_
                    refine rs_koff 21 rfl (met_off rfl rfl rfl rfl rfl) rfl rfl ?_
                    refine rs_koff 22 rfl (met_off rfl rfl rfl rfl rfl) rfl rfl ?_
                    refine rs_koff 23 rfl (met_off rfl rfl rfl rfl rfl) rfl rfl ?_
                    first | (refine rs_kv 24 rfl rfl rfl rfl (S' := fun _ => True) trivial (v_pick_true rfl rfl) ?_) | (refine rs_kv 24 rfl rfl rfl rfl (S' := fun _ => True) trivial (v_pick_false rfl rfl) ?_) | (refine rs_kv 24 rfl rfl rfl rfl (S' := fun _ => True) trivial (v_pick rfl rfl rfl) ?_)
                    refine rs_kv 25 rfl rfl rfl rfl (S' := fun _ => True) trivial (v_move rfl) ?_
                    refine rs_koff 26 rfl (met_off rfl rfl rfl rfl rfl) rfl rfl ?_
                    refine rs_koff 27 rfl (met_off rfl rfl rfl rfl rfl) rfl rfl ?_
                    refine rs_koff 28 rfl (met_off rfl rfl rfl rfl rfl) rfl rfl ?_
                    refine rs_aoff 29 rfl (met_gone rfl rfl rfl rfl) rfl rfl ?_
                    refine rs_aoff 31 rfl (met_gone rfl rfl rfl rfl) rfl rfl ?_
                    refine rs_aoff 32 rfl (met_gone rfl rfl rfl rfl) rfl rfl ?_
                    refine rs_aoff 36 rfl (met_gone rfl rfl rfl rfl) rfl rfl ?_
                    refine rs_voff 30 rfl (met_gone rfl rfl rfl rfl) rfl rfl (by first | exact hw | exact Sat.sub hw (by (repeat (first | with_reducible exact Sub.refl _ | exact Sub.nil _ | (apply Sub.cons; focus ((repeat (first | with_reducible exact Pick.here _ | apply Pick.there)); (first | done | fail))) | with_reducible apply Sub.drop)); first | done | fail)) ?_
                    refine rs_aoff 33 rfl (met_gone rfl rfl rfl rfl) rfl rfl ?_
                    refine rs_aoff 34 rfl (met_gone rfl rfl rfl rfl) rfl rfl ?_
                    refine rs_voff 35 rfl (met_gone rfl rfl rfl rfl) rfl rfl (by first | exact hw | exact Sat.sub hw (by (repeat (first | with_reducible exact Sub.refl _ | exact Sub.nil _ | (apply Sub.cons; focus ((repeat (first | with_reducible exact Pick.here _ | apply Pick.there)); (first | done | fail))) | with_reducible apply Sub.drop)); first | done | fail)) ?_
                    refine rs_koff 37 rfl (met_gone rfl rfl rfl rfl) rfl rfl ?_
                    refine rs_koff 38 rfl (met_gone rfl rfl rfl rfl) rfl rfl ?_
                    refine rs_koff 39 rfl (met_off rfl rfl rfl rfl rfl) rfl rfl ?_
                    first | (refine rs_kv 40 rfl rfl rfl rfl (S' := fun _ => True) trivial (v_pick_true rfl rfl) ?_) | (refine rs_kv 40 rfl rfl rfl rfl (S' := fun _ => True) trivial (v_pick_false rfl rfl) ?_) | (refine rs_kv 40 rfl rfl rfl rfl (S' := fun _ => True) trivial (v_pick rfl rfl rfl) ?_)
                    refine rs_done (g_le (xK (xK (xK (xK (xK (xK (xK (xK (xK (xK (xK (xK (xK (xK (xK (xK (xK (xK (xK (xK (xK (xK (xK (xK (xK (xK (xK (xK (xK (xK (xK (xK (xK (xK (xK (xK (xK (xK (xK (xK (xK (xK (Fr.le_refl _))))))))))))))))))))))))))))))))))))))))))) ?_)
                    refine g_cond_true rfl ?_
                    refine g_seq ?_
                    refine g_region ?_
                    refine xV rfl rfl rfl (v_move rfl) ?_
                    refine xV rfl rfl rfl (v_assign rfl) ?_
                    refine xV rfl rfl rfl (v_assign rfl) ?_
                    refine xV rfl rfl rfl (v_assign rfl) ?_
                    refine rl_nil (g_le (xK (xK (xK (xK (Fr.le_refl _))))) ?_)
                    refine g_ret3 Try.func51 rfl rfl rfl rfl ?_
                    exact ⟨rfl, hw⟩
                · try with_reducible exact tf_elim g14_4
                  all_goals
                    try replace g14_4 := of_decide_eq_false g14_4
                    refine rs_ag 5 rfl (met_on rfl rfl rfl rfl) rfl rfl (v_move rfl) ?_
                    refine rs_ag 6 rfl (met_on rfl rfl rfl rfl) rfl rfl (v_move rfl) ?_
                    refine rs_ag 7 rfl (met_on rfl rfl rfl rfl) rfl rfl (v_indexAddr T.sl_57_61_8 rfl rfl (by omega) (by omega)) ?_
                    refine rs_ag 8 rfl (met_on rfl rfl rfl rfl) rfl rfl (v_fieldAddr T.fld_61_1_1 rfl) ?_
                    refine rs_ag 10 rfl (met_on rfl rfl rfl rfl) rfl rfl (v_fieldAddr0 T.fld_70_1_1 rfl) ?_
                    refine rs_vg 9 rfl (met_on rfl rfl rfl rfl) rfl rfl (OpV.mono (v_loadAgg (vs := [_, _, _, _]) T.agg_25_4 rfl rfl) (fun w hw => by exact ro_ats hw (by (repeat first | with_reducible exact xH | apply xT); first | done | fail) (by assumption))) (by exact hw) ?_
                    refine rs_kvg 11 rfl (met_on rfl rfl rfl rfl) rfl rfl (by exact sat_cells hw (by (repeat first | with_reducible exact xH | apply xT); first | done | fail) ⟨rfl, rfl, rfl, rfl, trivial⟩) (v_loadAgg (vs := [_, _, _, _]) T.agg_25_4 rfl rfl) ?_
                    refine rs_kvg 12 rfl (met_on rfl rfl rfl rfl) rfl rfl (S' := fun _ => True) trivial (v_neqAgg T.cmp_25_iiii rfl rfl rfl rfl (by exact eq_Rf _ _)) ?_
                    refine rs_kv 13 rfl rfl rfl rfl (S' := fun _ => True) trivial (v_pick_false rfl rfl) ?_
                    refine rs_kv 14 rfl rfl rfl rfl (S' := fun _ => True) trivial (v_move rfl) ?_
                    refine rs_split (s := 106) rfl (fun g14_14 => ?_) (fun g14_14 => ?_)
                    · try with_reducible exact ft_elim g14_14
                      all_goals
                        try replace g14_14 := of_decide_eq_true g14_14
                        simp at g14_14
                    · try with_reducible exact tf_elim g14_14
                      all_goals
                        try replace g14_14 := of_decide_eq_false g14_14
                        refine rs_ag 15 rfl (met_on rfl rfl rfl rfl) rfl rfl (v_move rfl) ?_
                        refine rs_ag 16 rfl (met_on rfl rfl rfl rfl) rfl rfl (v_move rfl) ?_
                        refine rs_ag 17 rfl (met_on rfl rfl rfl rfl) rfl rfl (v_indexAddr T.sl_57_61_8 rfl rfl (by omega) (by omega)) ?_
                        refine rs_ag 18 rfl (met_on rfl rfl rfl rfl) rfl rfl (v_fieldAddr T.fld_61_0_0 rfl) ?_
                        refine rs_ag 20 rfl (met_on rfl rfl rfl rfl) rfl rfl (v_fieldAddr0 T.fld_61_0_0 rfl) ?_
                        refine rs_vg 19 rfl (met_on rfl rfl rfl rfl) rfl rfl (OpV.mono (v_load T.scal_3 rfl) (fun w hw => by exact ro_at0 hw (by (repeat first | with_reducible exact xH | apply xT); first | done | fail) (by assumption) rfl)) (by exact hw) ?_
                        refine rs_kvg 21 rfl (met_on rfl rfl rfl rfl) rfl rfl (by exact sat_cell hw (by (repeat first | with_reducible exact xH | apply xT); first | done | fail) rfl) (v_load T.scal_3 rfl) ?_
                        refine rs_kvg 22 rfl (met_on rfl rfl rfl rfl) rfl rfl (S' := fun _ => True) trivial (v_add rfl rfl (by omega)) ?_
                        refine rs_kvg 23 rfl (met_on rfl rfl rfl rfl) rfl rfl (S' := fun _ => True) trivial (v_neqF rfl rfl (by omega)) ?_
                        refine rs_kv 24 rfl rfl rfl rfl (S' := fun _ => True) trivial (v_pick_false rfl rfl) ?_
                        refine rs_kv 25 rfl rfl rfl rfl (S' := fun _ => True) trivial (v_move rfl) ?_
                        refine rs_split (s := 117) rfl (fun g14_25 => ?_) (fun g14_25 => ?_)
                        · try with_reducible exact ft_elim g14_25
                          all_goals
                            try replace g14_25 := of_decide_eq_true g14_25
                            simp at g14_25
                        · try with_reducible exact tf_elim g14_25
                          all_goals
                            try replace g14_25 := of_decide_eq_false g14_25
                            refine rs_kvg 26 rfl (met_on rfl rfl rfl rfl) rfl rfl (S' := fun _ => True) trivial (v_move rfl) ?_
                            refine rs_kvg 27 rfl (met_on rfl rfl rfl rfl) rfl rfl (S' := fun _ => True) trivial (v_gtr rfl rfl) ?_
                            refine rs_kvg 28 rfl (met_on rfl rfl rfl rfl) rfl rfl (S' := fun _ => True) trivial (v_move rfl) ?_
                            refine rs_split (s := 120) rfl (fun g14_28 => ?_) (fun g14_28 => ?_)
                            · try with_reducible exact ft_elim g14_28
                              all_goals
                                try replace g14_28 := of_decide_eq_true g14_28
                                obtain ⟨a0, ha0⟩ : ∃ a0, ts[i - 1]? = some a0 := ⟨_, List.getElem?_eq_getElem (by omega)⟩
                                have hris := lows_rise hok hsr ha0 (by rw [show i - 1 + 1 = i by omega]; exact ht)
                                obtain ⟨b7, o7, k7, ecs7, hz8, hk7, hat7, hl7, rfl, _⟩ := gk ((i : Int) - 1) (by omega) (by omega)
                                simp only [Option.some.injEq, Addr.mk.injEq, and_true] at hz8
                                obtain ⟨rfl, rfl⟩ := hz8
                                rw [show ((i : Int) - 1).toNat = i - 1 by omega, List.getElem?_map, ha0] at hk7
                                obtain rfl := Option.some.inj hk7
                                dsimp only [kidU, Kd.cells] at hat7
                                refine rs_ag 29 rfl (met_on rfl rfl rfl rfl) rfl rfl (v_fieldAddr0 T.fld_32_2_2 rfl) ?_
                                refine rs_ag 31 rfl (met_on rfl rfl rfl rfl) rfl rfl (v_move rfl) ?_
                                refine rs_ag 32 rfl (met_on rfl rfl rfl rfl) rfl rfl (v_sub rfl rfl (by omega)) ?_
                                refine rs_ag 36 rfl (met_on rfl rfl rfl rfl) rfl rfl (v_fieldAddr0 T.fld_70_0_0 rfl) ?_
                                refine rs_vg 30 rfl (met_on rfl rfl rfl rfl) rfl rfl (OpV.mono (v_load T.scal_30 rfl) (fun w hw => by exact sat_cell hw (by (repeat first | with_reducible exact xH | apply xT); first | done | fail) rfl)) (by exact hw) ?_
                                refine rs_ag 33 rfl (met_on rfl rfl rfl rfl) rfl rfl (v_indexAddr T.sl_30_70_5 rfl rfl (by omega) (by omega)) ?_
                                refine rs_ag 34 rfl (met_on rfl rfl rfl rfl) rfl rfl (v_fieldAddr T.fld_70_0_0 rfl) ?_
                                refine rs_vg 35 rfl (met_on rfl rfl rfl rfl) rfl rfl (OpV.mono (v_load T.scal_9 rfl) (fun w hw => by exact ro_at0 hw (by (repeat first | with_reducible exact xH | apply xT); first | done | fail) (by assumption) rfl)) (by exact hw) ?_
                                refine rs_kvg 37 rfl (met_on rfl rfl rfl rfl) rfl rfl (by exact sat_cell hw (by (repeat first | with_reducible exact xH | apply xT); first | done | fail) rfl) (v_load T.scal_9 rfl) ?_
                                refine rs_kvg 38 rfl (met_on rfl rfl rfl rfl) rfl rfl (S' := fun _ => True) trivial (v_geqStr rfl rfl) ?_
                                refine rs_kvg 39 rfl (met_on rfl rfl rfl rfl) rfl rfl (S' := fun _ => True) trivial (v_pick_true rfl rfl) ?_
                                refine rs_kv 40 rfl rfl rfl rfl (S' := fun _ => True) trivial (v_pick_false rfl rfl) ?_
                                refine rs_done (g_le (xK (xK (xK (xK (xK (xK (xK (xK (xK (xK (xK (xK (xK (xK (xK (xK (xK (xK (xK (xK (xK (xK (xK (xK (xK (xK (xK (xK (xK (xK (xK (xK (xK (xK (xK (xK (xK (xK (xK (xK (xK (xK (xK (xK (xK (Fr.le_refl _)))))))))))))))))))))))))))))))))))))))))))))) ?_)
                                refine g_cond rfl (fun h5 => ?_) (fun h5 => ?_)
                                · try with_reducible exact ft_elim h5
                                  all_goals
                                    try replace h5 := of_decide_eq_true h5
                                    simp [kidU, hris] at h5
                                · try with_reducible exact tf_elim h5
                                  all_goals
                                    try replace h5 := of_decide_eq_false h5
                                    refine g_skip (g_seq ?_)
                                    refine g_region ?_
                                    refine xV rfl rfl rfl (v_move rfl) ?_
                                    refine xV rfl rfl rfl (v_move rfl) ?_
                                    refine xV rfl rfl rfl (v_move rfl) ?_
                                    refine rl_k rfl (k_callf Try.func51 rfl rfl rfl rfl ?_)
                                    refine Calls.mono (hpl ▸ ih (u := t.2) (d := d + 1) (r := t.1) (hok t (List.mem_of_getElem? ht)).2.2 (kid_sorted hsr ht) (hok t (List.mem_of_getElem? ht)).2.1 (.inr (hok t (List.mem_of_getElem? ht)).1) (.inr (hok t (List.mem_of_getElem? ht)).1) (by omega) (by omega) hnw2 hrd (hw.xQ)) ?_
                                    rintro _ w ⟨rfl, hw⟩
                                    refine ⟨_, rfl, ?_⟩
                                    refine xV rfl rfl rfl (v_move rfl) ?_
                                    refine xV rfl rfl rfl (v_extract rfl rfl) ?_
                                    refine xV rfl rfl rfl (v_extract rfl rfl) ?_
                                    refine xV rfl rfl rfl (v_extract rfl rfl) ?_
                                    refine xV rfl rfl rfl (v_assign rfl) ?_
                                    refine xV rfl rfl rfl (v_assign rfl) ?_
                                    refine xV rfl rfl rfl (v_assign rfl) ?_
                                    refine rl_nil (g_le (xK (xK (xK (xK (xK (xK (xK (xK (xK (xK (xK (Fr.le_refl _)))))))))))) ?_)
                                    refine g_seq (g_seq ?_)
                                    refine g_region ?_
                                    refine xV rfl rfl rfl (v_move rfl) ?_
                                    refine xV rfl rfl rfl (v_not rfl) ?_
                                    refine xV rfl rfl rfl (v_move rfl) ?_
                                    refine rl_vg (met_on rfl rfl rfl rfl) rfl rfl (S := fun _ => True) trivial (v_move rfl) ?_
                                    refine rl_vg (met_on rfl rfl rfl rfl) rfl rfl (S := fun _ => True) trivial (v_fieldAddr0 T.fld_70_0_0 rfl) ?_
                                    refine rl_vg (met_on rfl rfl rfl rfl) rfl rfl (by exact sat_cell hw (by (repeat first | with_reducible exact xH | apply xT); first | done | fail) rfl) (v_load T.scal_9 rfl) ?_
                                    refine rl_vg (met_on rfl rfl rfl rfl) rfl rfl (S := fun _ => True) trivial (v_neqStrF rfl rfl (by first | rfl | assumption)) ?_
                                    refine xV rfl rfl rfl (v_pick_false rfl rfl) ?_
                                    refine rl_nil (g_le (xK (xK (xK (xK (xK (xK (xK (xK (Fr.le_refl _))))))))) ?_)
                                    refine g_cond_false rfl ?_
                                    refine g_skip ?_
                                    refine g_region ?_
                                    refine xV rfl rfl rfl (v_move rfl) ?_
                                    refine xV rfl rfl rfl (v_assign rfl) ?_
                                    refine rl_nil (g_le (xK (xK (Fr.le_refl _))) ?_)
                                    refine g_inBlock ?_
                                    refine g_region ?_
                                    refine xV rfl rfl rfl (v_add rfl rfl (by omega)) ?_
                                    refine xV rfl rfl rfl (v_move rfl) ?_
                                    refine rl_nil (g_le (xK (xK (Fr.le_refl _))) ?_)
                                    exact g_le (by repeat (first | exact Fr.le_nil _ | refine Fr.le_cons rfl ?_)) (ih2 (i + 1, nx + (seenU hh (d + 1) t.1 t.2).length) w ⟨by simp only; omega, by dsimp only; rw [List.take_add_one, ht, List.flatMap_append, List.length_append, hnx]; simp; omega, hw.xQ⟩ (by simp only; omega))
                            · try with_reducible exact tf_elim g14_28
                              all_goals
                                try replace g14_28 := of_decide_eq_false g14_28
                                refine rs_aoff 29 rfl (met_off rfl rfl rfl rfl rfl) rfl rfl ?_
                                refine rs_aoff 31 rfl (met_off rfl rfl rfl rfl rfl) rfl rfl ?_
                                refine rs_aoff 32 rfl (met_off rfl rfl rfl rfl rfl) rfl rfl ?_
                                refine rs_aoff 36 rfl (met_off rfl rfl rfl rfl rfl) rfl rfl ?_
                                refine rs_voff 30 rfl (met_off rfl rfl rfl rfl rfl) rfl rfl (by exact hw) ?_
                                refine rs_aoff 33 rfl (met_off rfl rfl rfl rfl rfl) rfl rfl ?_
                                refine rs_aoff 34 rfl (met_off rfl rfl rfl rfl rfl) rfl rfl ?_
                                refine rs_voff 35 rfl (met_off rfl rfl rfl rfl rfl) rfl rfl (by exact hw) ?_
                                refine rs_koff 37 rfl (met_off rfl rfl rfl rfl rfl) rfl rfl ?_
                                refine rs_koff 38 rfl (met_off rfl rfl rfl rfl rfl) rfl rfl ?_
                                refine rs_kvg 39 rfl (met_on rfl rfl rfl rfl) rfl rfl (S' := fun _ => True) trivial (v_pick_false rfl rfl) ?_
                                refine rs_kv 40 rfl rfl rfl rfl (S' := fun _ => True) trivial (v_pick_false rfl rfl) ?_
                                refine rs_done (g_le (xK (xK (xK (xK (xK (xK (xK (xK (xK (xK (xK (xK (xK (xK (xK (xK (xK (xK (xK (xK (xK (xK (xK (xK (xK (xK (xK (xK (xK (xK (xK (xK (xK (xK (xK (xK (xK (xK (xK (xK (xK (xK (xK (xK (xK (Fr.le_refl _)))))))))))))))))))))))))))))))))))))))))))))) ?_)
                                refine g_cond_false rfl ?_
                                refine g_skip (g_seq ?_)
                                refine g_region ?_
                                refine xV rfl rfl rfl (v_move rfl) ?_
                                refine xV rfl rfl rfl (v_move rfl) ?_
                                refine xV rfl rfl rfl (v_move rfl) ?_
                                refine rl_k rfl (k_callf Try.func51 rfl rfl rfl rfl ?_)
                                refine Calls.mono (hpl ▸ ih (u := t.2) (d := d + 1) (r := t.1) (hok t (List.mem_of_getElem? ht)).2.2 (kid_sorted hsr ht) (hok t (List.mem_of_getElem? ht)).2.1 (.inr (hok t (List.mem_of_getElem? ht)).1) (.inr (hok t (List.mem_of_getElem? ht)).1) (by omega) (by omega) hnw2 hrd (hw.xQ)) ?_
                                rintro _ w ⟨rfl, hw⟩
                                refine ⟨_, rfl, ?_⟩
                                refine xV rfl rfl rfl (v_move rfl) ?_
                                refine xV rfl rfl rfl (v_extract rfl rfl) ?_
                                refine xV rfl rfl rfl (v_extract rfl rfl) ?_
                                refine xV rfl rfl rfl (v_extract rfl rfl) ?_
                                refine xV rfl rfl rfl (v_assign rfl) ?_
                                refine xV rfl rfl rfl (v_assign rfl) ?_
                                refine xV rfl rfl rfl (v_assign rfl) ?_
                                refine rl_nil (g_le (xK (xK (xK (xK (xK (xK (xK (xK (xK (xK (xK (Fr.le_refl _)))))))))))) ?_)
                                refine g_seq (g_seq ?_)
                                refine g_region ?_
                                refine xV rfl rfl rfl (v_move rfl) ?_
                                refine xV rfl rfl rfl (v_not rfl) ?_
                                refine xV rfl rfl rfl (v_move rfl) ?_
                                refine rl_vg (met_on rfl rfl rfl rfl) rfl rfl (S := fun _ => True) trivial (v_move rfl) ?_
                                refine rl_vg (met_on rfl rfl rfl rfl) rfl rfl (S := fun _ => True) trivial (v_fieldAddr0 T.fld_70_0_0 rfl) ?_
                                refine rl_vg (met_on rfl rfl rfl rfl) rfl rfl (by exact sat_cell hw (by (repeat first | with_reducible exact xH | apply xT); first | done | fail) rfl) (v_load T.scal_9 rfl) ?_
                                refine rl_vg (met_on rfl rfl rfl rfl) rfl rfl (S := fun _ => True) trivial (v_neqStrF rfl rfl (by first | rfl | assumption)) ?_
                                refine xV rfl rfl rfl (v_pick_false rfl rfl) ?_
                                refine rl_nil (g_le (xK (xK (xK (xK (xK (xK (xK (xK (Fr.le_refl _))))))))) ?_)
                                refine g_cond_false rfl ?_
                                refine g_skip ?_
                                refine g_region ?_
                                refine xV rfl rfl rfl (v_move rfl) ?_
                                refine xV rfl rfl rfl (v_assign rfl) ?_
                                refine rl_nil (g_le (xK (xK (Fr.le_refl _))) ?_)
                                refine g_inBlock ?_
                                refine g_region ?_
                                refine xV rfl rfl rfl (v_add rfl rfl (by omega)) ?_
                                refine xV rfl rfl rfl (v_move rfl) ?_
                                refine rl_nil (g_le (xK (xK (Fr.le_refl _))) ?_)
                                exact g_le (by repeat (first | exact Fr.le_nil _ | refine Fr.le_cons rfl ?_)) (ih2 (i + 1, nx + (seenU hh (d + 1) t.1 t.2).length) w ⟨by simp only; omega, by dsimp only; rw [List.take_add_one, ht, List.flatMap_append, List.length_append, hnx]; simp; omega, hw.xQ⟩ (by simp only; omega))
            · try with_reducible exact tf_elim h4
              all_goals
                try replace h4 := of_decide_eq_false h4
                refine g_exit rfl (g_seq ?_)
                obtain ⟨t0, ts', rfl⟩ : ∃ t0 ts', ts = t0 :: ts' := by cases ts with | nil => simp at h2t | cons t0 ts' => exact ⟨_, _, rfl⟩
                obtain ⟨b4, o4, kd, ecs, rfl, hkd, hat4, hl4, rfl, hkok⟩ := gk 0 (by omega) (by omega)
                simp only [Int.toNat_zero, List.map_cons, List.getElem?_cons_zero, Option.some.injEq] at hkd
                subst hkd
                rw [List.take_of_length_le (by omega), hfl] at hnx
                refine g_region ?_
                refine xV rfl rfl rfl (v_fieldAddr0 T.fld_32_2_2 rfl) ?_
                refine rl_v rfl rfl rfl (by exact sat_cell hw (by (repeat first | with_reducible exact xH | apply xT); first | done | fail) rfl) (v_load T.scal_30 rfl) ?_
                refine xV rfl rfl rfl (v_indexAddr T.sl_30_70_5 rfl rfl (by omega) (by omega)) ?_
                refine xV rfl rfl rfl (v_fieldAddr T.fld_70_0_0 rfl) ?_
                refine rl_v rfl rfl rfl (by exact ro_at0 hw (by (repeat first | with_reducible exact xH | apply xT); first | done | fail) (by assumption) rfl) (v_load T.scal_9 rfl) ?_
                refine xV rfl rfl rfl (v_move rfl) ?_
                refine xV rfl rfl rfl (v_assign rfl) ?_
                refine xV rfl rfl rfl (v_assign rfl) ?_
                refine xV rfl rfl rfl (v_assign rfl) ?_
                refine rl_nil (g_le (xK (xK (xK (xS rfl (xS rfl (xS rfl (xS rfl (xS rfl (xS rfl (Fr.le_refl _)))))))))) ?_)
                refine g_ret3 Try.func51 rfl rfl rfl rfl ?_
                exact ⟨by rw [hnx]; simp [lowU, kidU]; omega, hw.xQ⟩
theorem ord_f29_r2_H13 : orderOfB Try.f29 2 [] (.k 0 (.k 1 (.k 2 (.k 3 (.k 4 (.k 5 (.k 6 (.k 7 (.a 8 (.a 9 (.a 10 (.v 11 (.k 12 (.k 13 (.k 14 (.k 15 (.k 16 (.k 17 (.k 18 (.k 19 (.k 20 (.k 21 .done)))))))))))))))))))))) = true := by kernel_rfl
set_option maxHeartbeats 4000000 in
theorem shaped_calls {E : Env} {w : World} {L : List As} {g : Hp} {h : Nat} {s : List Nd} {A : As} {root : Rf} {hh : Nat} {u : Un hh} (t : TreeAt s root hh u) (h8 : hh < 8) (hr : root.ok) (hI : HeapI h g s A) (hw : Sat E w (A :: RO g :: L)) :
    Calls Try.prog 29 #[.pointer (some ⟨h, 0, none⟩), .agg root.cells.toArray] w fun v w' => ∃ g' A', g.le g' ∧ HeapI h g' s A' ∧ v = .returned (.tuple #[.int .i64 (hh + 1), .bool true]) ∧ Sat E w' (A' :: RO g' :: L) := by
  refine calls_of_g (n := 69) Try.func29 rfl rfl rfl ?_
  change G _ _ _ _ _ [(0, _), (1, _)] _
  refine g_seq ?_
  refine g_region ?_
  refine rl_k rfl (k_box hw rfl rfl rfl (fun bk0_0 w hw => ?_))
  refine xV rfl rfl rfl (v_assign rfl) ?_
  refine xV rfl rfl rfl (v_assign rfl) ?_
  refine rl_nil (g_le (xK (xK (xK (Fr.le_refl _)))) ?_)
  refine g_seq ?_
  refine g_region ?_
  refine xV rfl rfl rfl (v_move rfl) ?_
  refine xV rfl rfl rfl (v_mkIface T.ptr_26 rfl) ?_
  refine rl_v rfl rfl rfl (by exact sat_cells hw (by (repeat first | with_reducible exact xH | apply xT); first | done | fail) ⟨rfl, rfl, rfl, rfl, trivial⟩) (v_loadAgg (vs := [_, _, _, _]) T.agg_25_4 rfl rfl) ?_
  refine rl_k rfl (k_callf Try.func23 rfl rfl rfl rfl ?_)
  refine Calls.mono (tall_calls t h8 hr hI (hw.xQ)) ?_
  rintro _ w ⟨g1, A1, sa, sc, hg1, hI1, rfl, hnow, hw⟩
  refine ⟨_, rfl, ?_⟩
  refine xV rfl rfl rfl (v_move rfl) ?_
  refine xV rfl rfl rfl (v_extract rfl rfl) ?_
  refine xV rfl rfl rfl (v_extract rfl rfl) ?_
  refine xV rfl rfl rfl (v_assign rfl) ?_
  refine xV rfl rfl rfl (v_assign rfl) ?_
  refine rl_nil (g_le (xK (xK (xS rfl (xS rfl (xS rfl (xS rfl (xS rfl (xS rfl (xS rfl (Fr.le_refl _)))))))))) ?_)
  refine g_seq (g_seq ?_)
  obtain ⟨rest, hrest⟩ := seen_head hh 1 root u
  have hsd := seen_deepU hh 1 root u
  obtain ⟨xl, hxl, hxd⟩ := seen_leaf_deep hh 1 root u t.ok (t.two.imp id (by omega))
  have hlw := @lows_calls hh u 1 root [] [] (seenU hh 1 root u) t.ok t.srt t.most (.inl rfl) t.two (by omega) (by omega) (by simp)
  generalize hnw : seenU hh 1 root u = now at hnow hrest hsd hxl hlw
  obtain ⟨_, hnb, _, _, gn⟩ := rdSl_get hnow
  simp only [reachBytes] at hnb
  have hnp : 0 < now.length := by rw [hrest]; simp
  obtain ⟨b5, o5, y, ycs, rfl, hy, hat5, hl5, hrdy⟩ := gn 0 (by omega) (by omega)
  rw [hrest] at hy
  simp only [Int.toNat_zero, List.getElem?_cons_zero, Option.some.injEq] at hy
  subst hy
  obtain ⟨ya, yn, yc, yk, ykn, ykc, rfl, _⟩ := sn_told hrdy
  dsimp only at hat5
  have hatR : HAt g1 b5 (o5 + (0 : Int).toNat * 8 + 1) [.int .u64 root.key, .int .i64 root.seg, .int .i64 root.off, .int .i64 root.len] := hat5.sub 1 4
  refine g_drawR ord_f29_r2_H13 (by kernel_rfl) T.mixed hw (fun w hw => ?_)
  refine rs_kv 0 rfl rfl rfl rfl (S' := fun _ => True) trivial (v_move rfl) ?_
  refine rs_kv 1 rfl rfl rfl rfl (S' := fun _ => True) trivial (v_neqF rfl rfl (by omega)) ?_
  refine rs_kv 2 rfl rfl rfl rfl (S' := fun _ => True) trivial (v_move rfl) ?_
  refine rs_split (s := 23) rfl (fun g2_2 => ?_) (fun g2_2 => ?_)
  · try with_reducible exact ft_elim g2_2
    all_goals
      try replace g2_2 := of_decide_eq_true g2_2
      refine rs_koff 3 rfl (met_off rfl rfl rfl rfl rfl) rfl rfl ?_
      refine rs_koff 4 rfl (met_off rfl rfl rfl rfl rfl) rfl rfl ?_
      refine rs_koff 5 rfl (met_off rfl rfl rfl rfl rfl) rfl rfl ?_
      first | (refine rs_kv 6 rfl rfl rfl rfl (S' := fun _ => True) trivial (v_pick_true rfl rfl) ?_) | (refine rs_kv 6 rfl rfl rfl rfl (S' := fun _ => True) trivial (v_pick_false rfl rfl) ?_) | (refine rs_kv 6 rfl rfl rfl rfl (S' := fun _ => True) trivial (v_pick rfl rfl rfl) ?_)
      refine rs_kv 7 rfl rfl rfl rfl (S' := fun _ => True) trivial (v_move rfl) ?_
      refine rs_aoff 8 rfl (met_off rfl rfl rfl rfl rfl) rfl rfl ?_
      refine rs_aoff 9 rfl (met_off rfl rfl rfl rfl rfl) rfl rfl ?_
      refine rs_aoff 10 rfl (met_off rfl rfl rfl rfl rfl) rfl rfl ?_
      refine rs_voff 11 rfl (met_off rfl rfl rfl rfl rfl) rfl rfl (by first | exact hw | exact Sat.sub hw (by (repeat (first | with_reducible exact Sub.refl _ | exact Sub.nil _ | (apply Sub.cons; focus ((repeat (first | with_reducible exact Pick.here _ | apply Pick.there)); (first | done | fail))) | with_reducible apply Sub.drop)); first | done | fail)) ?_
      refine rs_koff 12 rfl (met_off rfl rfl rfl rfl rfl) rfl rfl ?_
      refine rs_koff 13 rfl (met_off rfl rfl rfl rfl rfl) rfl rfl ?_
      first | (refine rs_kv 14 rfl rfl rfl rfl (S' := fun _ => True) trivial (v_pick_true rfl rfl) ?_) | (refine rs_kv 14 rfl rfl rfl rfl (S' := fun _ => True) trivial (v_pick_false rfl rfl) ?_) | (refine rs_kv 14 rfl rfl rfl rfl (S' := fun _ => True) trivial (v_pick rfl rfl rfl) ?_)
      refine rs_kv 15 rfl rfl rfl rfl (S' := fun _ => True) trivial (v_move rfl) ?_
      refine rs_koff 16 rfl (met_off rfl rfl rfl rfl rfl) rfl rfl ?_
      refine rs_koff 17 rfl (met_off rfl rfl rfl rfl rfl) rfl rfl ?_
      refine rs_koff 18 rfl (met_off rfl rfl rfl rfl rfl) rfl rfl ?_
      refine rs_koff 19 rfl (met_off rfl rfl rfl rfl rfl) rfl rfl ?_
      refine rs_koff 20 rfl (met_off rfl rfl rfl rfl rfl) rfl rfl ?_
      first | (refine rs_kv 21 rfl rfl rfl rfl (S' := fun _ => True) trivial (v_pick_true rfl rfl) ?_) | (refine rs_kv 21 rfl rfl rfl rfl (S' := fun _ => True) trivial (v_pick_false rfl rfl) ?_) | (refine rs_kv 21 rfl rfl rfl rfl (S' := fun _ => True) trivial (v_pick rfl rfl rfl) ?_)
      refine rs_done (g_le (xK (xS rfl (xS rfl (xS rfl (xS rfl (xS rfl (xS rfl (xS rfl (xS rfl (xS rfl (xS rfl (xS rfl (xS rfl (xS rfl (xS rfl (xS rfl (xS rfl (xS rfl (xS rfl (xS rfl (xS rfl (xS rfl (xS rfl (Fr.le_refl _)))))))))))))))))))))))) ?_)
      refine g_cond_true rfl ?_
      refine g_seq ?_
      refine g_region ?_
      refine xV rfl rfl rfl (v_assign rfl) ?_
      refine xV rfl rfl rfl (v_assign rfl) ?_
      refine rl_nil (g_le (xK (xK (Fr.le_refl _))) ?_)
      refine g_ret2 Try.func29 rfl rfl rfl ?_
      exact ⟨rfl, hw⟩
  · try with_reducible exact tf_elim g2_2
    all_goals
      try replace g2_2 := of_decide_eq_false g2_2
      refine rs_kvg 3 rfl (met_on rfl rfl rfl rfl) rfl rfl (S' := fun _ => True) trivial (v_move rfl) ?_
      refine rs_kvg 4 rfl (met_on rfl rfl rfl rfl) rfl rfl (S' := fun _ => True) trivial (v_lenSlice T.sl_57_61_8 rfl) ?_
      refine rs_kvg 5 rfl (met_on rfl rfl rfl rfl) rfl rfl (S' := fun _ => True) trivial (v_eqlF rfl rfl (by omega)) ?_
      refine rs_kv 6 rfl rfl rfl rfl (S' := fun _ => True) trivial (v_pick_false rfl rfl) ?_
      refine rs_kv 7 rfl rfl rfl rfl (S' := fun _ => True) trivial (v_move rfl) ?_
      refine rs_split (s := 28) rfl (fun g2_7 => ?_) (fun g2_7 => ?_)
      · try with_reducible exact ft_elim g2_7
        all_goals
          try replace g2_7 := of_decide_eq_true g2_7
          refine rs_aoff 8 rfl (met_off rfl rfl rfl rfl rfl) rfl rfl ?_
          refine rs_aoff 9 rfl (met_off rfl rfl rfl rfl rfl) rfl rfl ?_
          refine rs_aoff 10 rfl (met_off rfl rfl rfl rfl rfl) rfl rfl ?_
          refine rs_voff 11 rfl (met_off rfl rfl rfl rfl rfl) rfl rfl (by first | exact hw | exact Sat.sub hw (by (repeat (first | with_reducible exact Sub.refl _ | exact Sub.nil _ | (apply Sub.cons; focus ((repeat (first | with_reducible exact Pick.here _ | apply Pick.there)); (first | done | fail))) | with_reducible apply Sub.drop)); first | done | fail)) ?_
          refine rs_koff 12 rfl (met_off rfl rfl rfl rfl rfl) rfl rfl ?_
          refine rs_koff 13 rfl (met_off rfl rfl rfl rfl rfl) rfl rfl ?_
          first | (refine rs_kv 14 rfl rfl rfl rfl (S' := fun _ => True) trivial (v_pick_true rfl rfl) ?_) | (refine rs_kv 14 rfl rfl rfl rfl (S' := fun _ => True) trivial (v_pick_false rfl rfl) ?_) | (refine rs_kv 14 rfl rfl rfl rfl (S' := fun _ => True) trivial (v_pick rfl rfl rfl) ?_)
          refine rs_kv 15 rfl rfl rfl rfl (S' := fun _ => True) trivial (v_move rfl) ?_
          refine rs_koff 16 rfl (met_off rfl rfl rfl rfl rfl) rfl rfl ?_
          refine rs_koff 17 rfl (met_off rfl rfl rfl rfl rfl) rfl rfl ?_
          refine rs_koff 18 rfl (met_off rfl rfl rfl rfl rfl) rfl rfl ?_
          refine rs_koff 19 rfl (met_off rfl rfl rfl rfl rfl) rfl rfl ?_
          refine rs_koff 20 rfl (met_off rfl rfl rfl rfl rfl) rfl rfl ?_
          first | (refine rs_kv 21 rfl rfl rfl rfl (S' := fun _ => True) trivial (v_pick_true rfl rfl) ?_) | (refine rs_kv 21 rfl rfl rfl rfl (S' := fun _ => True) trivial (v_pick_false rfl rfl) ?_) | (refine rs_kv 21 rfl rfl rfl rfl (S' := fun _ => True) trivial (v_pick rfl rfl rfl) ?_)
          refine rs_done (g_le (xK (xS rfl (xS rfl (xS rfl (xS rfl (xS rfl (xS rfl (xS rfl (xS rfl (xS rfl (xS rfl (xS rfl (xS rfl (xS rfl (xS rfl (xS rfl (xS rfl (xS rfl (xS rfl (xS rfl (xS rfl (xS rfl (xS rfl (xS rfl (Fr.le_refl _))))))))))))))))))))))))) ?_)
          refine g_cond_true rfl ?_
          refine g_seq ?_
          refine g_region ?_
          refine xV rfl rfl rfl (v_assign rfl) ?_
          refine xV rfl rfl rfl (v_assign rfl) ?_
          refine rl_nil (g_le (xK (xK (Fr.le_refl _))) ?_)
          refine g_ret2 Try.func29 rfl rfl rfl ?_
          exact ⟨rfl, hw⟩
      · try with_reducible exact tf_elim g2_7
        all_goals
          try replace g2_7 := of_decide_eq_false g2_7
          refine rs_ag 8 rfl (met_on rfl rfl rfl rfl) rfl rfl (v_move rfl) ?_
          refine rs_ag 9 rfl (met_on rfl rfl rfl rfl) rfl rfl (v_indexAddr T.sl_57_61_8 rfl rfl (by omega) (by omega)) ?_
          refine rs_ag 10 rfl (met_on rfl rfl rfl rfl) rfl rfl (v_fieldAddr T.fld_61_1_1 rfl) ?_
          refine rs_vg 11 rfl (met_on rfl rfl rfl rfl) rfl rfl (OpV.mono (v_loadAgg (vs := [_, _, _, _]) T.agg_25_4 rfl rfl) (fun w hw => by exact ro_ats hw (by (repeat first | with_reducible exact xH | apply xT); first | done | fail) (by assumption))) (by exact hw) ?_
          refine rs_kvg 12 rfl (met_on rfl rfl rfl rfl) rfl rfl (by exact sat_cells hw (by (repeat first | with_reducible exact xH | apply xT); first | done | fail) ⟨rfl, rfl, rfl, rfl, trivial⟩) (v_loadAgg (vs := [_, _, _, _]) T.agg_25_4 rfl rfl) ?_
          refine rs_kvg 13 rfl (met_on rfl rfl rfl rfl) rfl rfl (S' := fun _ => True) trivial (v_neqAgg T.cmp_25_iiii rfl rfl rfl rfl (by exact eq_Rf _ _)) ?_
          refine rs_kv 14 rfl rfl rfl rfl (S' := fun _ => True) trivial (v_pick_false rfl rfl) ?_
          refine rs_kv 15 rfl rfl rfl rfl (S' := fun _ => True) trivial (v_move rfl) ?_
          refine rs_split (s := 36) rfl (fun g2_15 => ?_) (fun g2_15 => ?_)
          · try with_reducible exact ft_elim g2_15
            all_goals
              try replace g2_15 := of_decide_eq_true g2_15
              simp at g2_15
          · try with_reducible exact tf_elim g2_15
            all_goals
              try replace g2_15 := of_decide_eq_false g2_15
              refine rs_kvg 16 rfl (met_on rfl rfl rfl rfl) rfl rfl (S' := fun _ => True) trivial (v_move rfl) ?_
              refine rs_kvg 17 rfl (met_on rfl rfl rfl rfl) rfl rfl (S' := fun _ => True) trivial (v_indexAddr T.sl_57_61_8 rfl rfl (by omega) (by omega)) ?_
              refine rs_kvg 18 rfl (met_on rfl rfl rfl rfl) rfl rfl (S' := fun _ => True) trivial (v_fieldAddr T.fld_61_0_0 rfl) ?_
              refine rs_kvg 19 rfl (met_on rfl rfl rfl rfl) rfl rfl (by exact ro_at0 hw (by (repeat first | with_reducible exact xH | apply xT); first | done | fail) (by assumption) rfl) (v_load T.scal_3 rfl) ?_
              refine rs_kvg 20 rfl (met_on rfl rfl rfl rfl) rfl rfl (S' := fun _ => True) trivial (v_neqF rfl rfl (by omega)) ?_
              refine rs_kv 21 rfl rfl rfl rfl (S' := fun _ => True) trivial (v_pick_false rfl rfl) ?_
              refine rs_done (g_le (xK (xS rfl (xS rfl (xS rfl (xS rfl (xS rfl (xS rfl (xS rfl (xS rfl (xS rfl (xS rfl (xS rfl (xS rfl (xS rfl (xS rfl (xS rfl (xS rfl (xS rfl (xS rfl (xS rfl (xS rfl (xS rfl (xS rfl (xS rfl (xS rfl (Fr.le_refl _)))))))))))))))))))))))))) ?_)
              refine g_cond rfl (fun h1 => ?_) (fun h1 => ?_)
              · try with_reducible exact ft_elim h1
                all_goals
                  try replace h1 := of_decide_eq_true h1
                  simp at h1
              · try with_reducible exact tf_elim h1
                all_goals
                  try replace h1 := of_decide_eq_false h1
                  refine g_skip (g_seq ?_)
                  refine g_region ?_
                  refine xV rfl rfl rfl (v_assign rfl) ?_
                  refine rl_nil (g_le (xK (Fr.le_refl _)) ?_)
                  refine g_seq (g_seq ?_)
                  refine g_region ?_
                  refine xV rfl rfl rfl (v_move rfl) ?_
                  refine xV rfl rfl rfl (v_lenSlice T.sl_57_61_8 rfl) ?_
                  refine xV rfl rfl rfl (v_move rfl) ?_
                  refine rl_nil (g_le (xK (xK (xK (Fr.le_refl _)))) ?_)
                  refine g_block ?_
                  refine g_loopC (σ := Nat × Int) (fun C x => (45, .int .i64 (x.1 : Nat)) :: (8, .int .i64 x.2) :: C) [(4, _), (5, _), (6, _), (43, _), (44, _)] (by repeat (first | exact Fr.le_nil _ | refine Fr.le_cons rfl ?_)) (fun z w => z.1 ≤ now.length ∧ z.2 ≤ 1 + hh ∧ 0 ≤ z.2 ∧ (∀ x ∈ now.take z.1, x.deep ≤ z.2) ∧ Sat E w (A1 :: pt bk0_0 (.cells root.cells.toArray 25 (0, 0)) :: RO g1 :: L)) (fun z => now.length - z.1) ?_ (0, 0) (by repeat (first | exact Fr.le_nil _ | refine Fr.le_cons rfl ?_)) ⟨by simp, by simp only; omega, by simp, by simp, hw.xQ⟩
                  rintro ⟨i, dp⟩ w ⟨hi1, hd1, hd0, hdx, hw⟩ ih
                  dsimp only at hi1 hd1 hd0 hdx hw ih ⊢
                  refine g_seq ?_
                  refine g_region ?_
                  refine xV rfl rfl rfl (v_lss rfl rfl) ?_
                  refine rl_nil (g_le (xK (Fr.le_refl _)) ?_)
                  refine g_seq ?_
                  refine g_cond rfl (fun h2 => ?_) (fun h2 => ?_)
                  · try with_reducible exact ft_elim h2
                    all_goals
                      try replace h2 := of_decide_eq_true h2
                      refine g_skip (g_seq (g_block (g_seq ?_)))
                      have hz := hw
                      clear hw
                      obtain ⟨b6, o6, z6, zcs, hz9, hzy, hat6, hl6, hrdz⟩ := gn (i : Nat) (by omega) (by omega)
                      simp only [Option.some.injEq, Addr.mk.injEq, and_true] at hz9
                      obtain ⟨rfl, rfl⟩ := hz9
                      rw [Int.toNat_natCast] at hzy hat6
                      obtain ⟨za, zn, zc, zk, zkn, zkc, rfl, _⟩ := sn_told hrdz
                      have hzd := hsd z6 (List.mem_of_getElem? hzy)
                      have htz : now.take (i + 1) = now.take i ++ [z6] := by rw [List.take_add_one, hzy]; rfl
                      have hw := hz
                      refine g_region ?_
                      refine xV rfl rfl rfl (v_indexAddr T.sl_57_61_8 rfl rfl (by omega) (by omega)) ?_
                      refine rl_v rfl rfl rfl (by exact ro_ats hw (by (repeat first | with_reducible exact xH | apply xT); first | done | fail) (by assumption)) (v_loadAgg (vs := [_, _, _, _, _, _, _, _]) T.agg_61_8 rfl rfl) ?_
                      refine rl_k rfl (k_alloc hw T.zero_61 rfl rfl (fun bk7_2 w hw => ?_))
                      refine rl_k rfl (k_storeWhole hw T.agg_61_8 rfl rfl (by simp [Value.oneCell']) rfl (by (repeat first | with_reducible exact xH | apply xT); first | done | fail) rfl (fun w hw => ?_))
                      refine rl_nil (g_le (xK (xK (xK (Fr.le_refl _)))) ?_)
                      refine g_region ?_
                      refine xV rfl rfl rfl (v_move rfl) ?_
                      refine xV rfl rfl rfl (v_fieldAddr0 T.fld_61_0_0 rfl) ?_
                      refine rl_v rfl rfl rfl (by exact sat_cell hw (by (repeat first | with_reducible exact xH | apply xT); first | done | fail) rfl) (v_load T.scal_3 rfl) ?_
                      refine xV rfl rfl rfl (v_max rfl rfl) ?_
                      refine xV rfl rfl rfl (v_assign rfl) ?_
                      refine rl_nil (g_le (xK (xK (xK (xK (xK (Fr.le_refl _)))))) ?_)
                      refine g_inBlock ?_
                      refine g_region ?_
                      refine xV rfl rfl rfl (v_add rfl rfl (by omega)) ?_
                      refine xV rfl rfl rfl (v_move rfl) ?_
                      refine rl_nil (g_le (xK (xK (Fr.le_refl _))) ?_)
                      exact g_le (by repeat (first | exact Fr.le_nil _ | refine Fr.le_cons rfl ?_)) (ih (i + 1, max dp z6.deep) w ⟨by simp only; omega, by simp only; omega, by simp only; omega, by intro x hx; simp only at hx ⊢; rw [htz] at hx; rcases List.mem_append.1 hx with hx | hx; have := hdx x hx; omega; rw [List.mem_singleton.1 hx]; omega, hw.xQ⟩ (by simp only; omega))
                  · try with_reducible exact tf_elim h2
                    all_goals
                      try replace h2 := of_decide_eq_false h2
                      refine g_exit rfl (g_seq ?_)
                      rw [List.take_of_length_le (by omega)] at hdx
                      have h9 := hdx xl hxl
                      obtain rfl : dp = 1 + hh := by omega
                      refine g_region ?_
                      refine xV rfl rfl rfl (v_move rfl) ?_
                      refine xV rfl rfl rfl (v_move rfl) ?_
                      refine rl_k rfl (k_callf Try.func51 rfl rfl rfl rfl ?_)
                      refine Calls.mono (hlw hnow (hw.xQ)) ?_
                      rintro _ w ⟨rfl, hw⟩
                      refine ⟨_, rfl, ?_⟩
                      refine xV rfl rfl rfl (v_move rfl) ?_
                      refine xV rfl rfl rfl (v_extract rfl rfl) ?_
                      refine xV rfl rfl rfl (v_extract rfl rfl) ?_
                      refine xV rfl rfl rfl (v_extract rfl rfl) ?_
                      refine xV rfl rfl rfl (v_assign rfl) ?_
                      refine xV rfl rfl rfl (v_assign rfl) ?_
                      refine xV rfl rfl rfl (v_assign rfl) ?_
                      refine rl_nil (g_le (xK (xK (xS rfl (xS rfl (xS rfl (xS rfl (xS rfl (xS rfl (xS rfl (xS rfl (Fr.le_refl _))))))))))) ?_)
                      refine g_seq ?_
                      refine g_region ?_
                      refine xV rfl rfl rfl (v_move rfl) ?_
                      refine xV rfl rfl rfl (v_move rfl) ?_
                      refine xV rfl rfl rfl (v_move rfl) ?_
                      refine rl_split (s := 63) rfl (fun g11_2 => ?_) (fun g11_2 => ?_)
                      · try with_reducible exact ft_elim g11_2
                        all_goals
                          try replace g11_2 := of_decide_eq_true g11_2
                          refine rl_vg (met_on rfl rfl rfl rfl) rfl rfl (S := fun _ => True) trivial (v_move rfl) ?_
                          refine rl_vg (met_on rfl rfl rfl rfl) rfl rfl (S := fun _ => True) trivial (v_move rfl) ?_
                          refine rl_vg (met_on rfl rfl rfl rfl) rfl rfl (S := fun _ => True) trivial (v_lenSlice T.sl_57_61_8 rfl) ?_
                          refine rl_vg (met_on rfl rfl rfl rfl) rfl rfl (S := fun _ => True) trivial (v_eql rfl rfl) ?_
                          refine xV rfl rfl rfl (v_pick_true rfl rfl) ?_
                          refine xV rfl rfl rfl (v_assign rfl) ?_
                          refine xV rfl rfl rfl (v_assign rfl) ?_
                          refine rl_nil (g_le (xK (xK (xS rfl (xS rfl (xS rfl (xS rfl (xS rfl (xS rfl (xS rfl (xS rfl (xS rfl (Fr.le_refl _)))))))))))) ?_)
                          refine g_ret2 Try.func29 rfl rfl rfl ?_
                          exact ⟨g1, A1, hg1, hI1, by simp [Int.add_comm], hw.xQ⟩
                      · try with_reducible exact tf_elim g11_2
                        all_goals
                          try replace g11_2 := of_decide_eq_false g11_2
                          refine rl_off (met_off rfl rfl rfl rfl rfl) rfl rfl ?_
                          refine rl_off (met_off rfl rfl rfl rfl rfl) rfl rfl ?_
                          refine rl_off (met_off rfl rfl rfl rfl rfl) rfl rfl ?_
                          refine rl_off (met_off rfl rfl rfl rfl rfl) rfl rfl ?_
                          first | (refine xV rfl rfl rfl (v_pick_true rfl rfl) ?_) | (refine xV rfl rfl rfl (v_pick_false rfl rfl) ?_) | (refine xV rfl rfl rfl (v_pick rfl rfl rfl) ?_)
                          refine xV rfl rfl rfl (v_assign rfl) ?_
                          refine xV rfl rfl rfl (v_assign rfl) ?_
                          refine rl_nil (g_le (xK (xK (xS rfl (xS rfl (xS rfl (xS rfl (xS rfl (xS rfl (xS rfl (xS rfl (xS rfl (Fr.le_refl _)))))))))))) ?_)
                          refine g_ret2 Try.func29 rfl rfl rfl ?_
                          exact ⟨g1, A1, hg1, hI1, by simp [Int.add_comm], hw.xQ⟩
end Go.Proofs.Ytmbngahboaljpaa
