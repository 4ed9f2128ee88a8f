/-
  Pages in memory (layer 7): Write, Read, Len.
-/
import Derived.Test.YtdiocmjhencbpaaS07
import Derived.Test.YtdiocmjhencbpaaRows
namespace Go.Proofs.Ytdiocmjhencbpaa
set_option maxRecDepth 8000
set_option linter.unusedSimpArgs false
set_option linter.unusedVariables false
open Go Xe
def nd0 : Nd := ⟨false, [], []⟩
def rf0 : Rf := ⟨0, 0, 0, 0⟩
def refO (n : Int) : Rf := ⟨n + 1, n / 4, n % 4, 1⟩
theorem u64_in {n : Int} (h : 0 ≤ n ∧ n ≤ 18446744073709551615) : IntKind.u64.wrap n = n := by simp [IntKind.wrap, IntKind.bits, IntKind.signed]; omega
theorem wf_i64 {n : Int} (h : -9223372036854775808 ≤ n ∧ n ≤ 9223372036854775807) : (Lit.int .i64 n).wf = true := by
  have e1 : IntKind.i64.min = -9223372036854775808 := rfl
  have e2 : IntKind.i64.max = 9223372036854775807 := rfl
  simp only [Lit.wf, e1, e2, Bool.and_eq_true, decide_eq_true_eq]; exact h
theorem wf_u64 {n : Int} (h : 0 ≤ n ∧ n ≤ 18446744073709551615) : (Lit.int .u64 n).wf = true := by
  have e3 : IntKind.u64.min = 0 := rfl
  have e4 : IntKind.u64.max = 18446744073709551615 := rfl
  simp only [Lit.wf, e3, e4, Bool.and_eq_true, decide_eq_true_eq]; exact h
theorem i64_wf {n : Int} (h : (Lit.int .i64 n).wf = true) : -9223372036854775808 ≤ n ∧ n ≤ 9223372036854775807 := by
  have e1 : IntKind.i64.min = -9223372036854775808 := rfl
  have e2 : IntKind.i64.max = 9223372036854775807 := rfl
  simp only [Lit.wf, e1, e2, Bool.and_eq_true, decide_eq_true_eq] at h; exact h
theorem u64_wf {n : Int} (h : (Lit.int .u64 n).wf = true) : 0 ≤ n ∧ n ≤ 18446744073709551615 := by
  have e3 : IntKind.u64.min = 0 := rfl
  have e4 : IntKind.u64.max = 18446744073709551615 := rfl
  simp only [Lit.wf, e3, e4, Bool.and_eq_true, decide_eq_true_eq] at h; exact h
theorem refO_ok {n : Int} (h : 0 ≤ n ∧ n ≤ 1000000000) : (refO n).ok := by
  unfold Rf.ok refO
  exact ⟨wf_u64 (by simp only; omega), wf_i64 (by simp only; omega), wf_i64 (by simp only; omega), wf_i64 (by simp only; omega)⟩
theorem refOf_calls {E : Env} {w : World} {L : List As} (n : Int) (h0 : 0 ≤ n) (h1 : n ≤ 1000000000) (hw : Sat E w L) :
    Calls Try.prog 106 #[.int .i64 n] w fun e w' => e = .returned (.agg (refO n).cells.toArray) ∧ Sat E w' L := by
  have hu := u64_in (n := n + 1) (by omega)
  refine calls_of_g (n := 11) Try.func106 rfl rfl rfl ?_
  change G _ _ _ _ _ [(0, _)] _
  refine g_seq ?_
  refine g_region ?_
  refine rl_k rfl (k_alloc hw T.zero_26 rfl rfl (fun bk0_0 w hw => ?_))
  refine rl_nil (g_le (xK (Fr.le_refl _)) ?_)
  refine g_seq ?_
  refine g_region ?_
  refine xV rfl rfl rfl (v_move rfl) ?_
  refine xV rfl rfl rfl (v_convU T.int_24_u64 T.int_3_i64 rfl (by omega) (by omega)) ?_
  refine xV rfl rfl rfl (v_addW rfl rfl) ?_
  refine xV rfl rfl rfl (v_move rfl) ?_
  refine xV rfl rfl rfl (v_quo rfl rfl (by omega) (by omega) (by omega)) ?_
  refine xV rfl rfl rfl (v_move rfl) ?_
  refine xV rfl rfl rfl (v_remP rfl rfl (by omega) (by omega)) ?_
  refine xV rfl rfl rfl (v_build rfl (T.build_26_0_1_2_3 ..)) ?_
  refine rl_k rfl (k_storeWhole hw T.agg_26_4 rfl rfl (by simp [Value.oneCell']) rfl (by (repeat first | with_reducible exact xH | apply xT); first | done | fail) rfl (fun w hw => ?_))
  refine rl_nil (g_le (xS rfl (xS rfl (xS rfl (xS rfl (xS rfl (xS rfl (xS rfl (xS rfl (Fr.le_refl _))))))))) ?_)
  refine g_resC Try.func106 rfl ⟨_, rfl, holds_agg (vs := [_, _, _, _]) T.agg_26_4 rfl (by exact sat_cells hw (by (repeat first | with_reducible exact xH | apply xT); first | done | fail) ⟨rfl, rfl, rfl, rfl, trivial⟩)⟩ ?_
  exact ⟨by rw [hu]; rfl, hw.xQ⟩
/-- What Write and Read of pages in memory are. -/
def wrH (s : List Nd) (n : Nd) : Rf × Int × List Nd := if 20000 ≤ s.length then (rf0, 2, s) else (refO s.length, 0, s ++ [n])
def rdH (s : List Nd) (r : Rf) : Nd × Int × List Nd := if 1 ≤ r.key ∧ r.key ≤ s.length ∧ refO (r.key - 1) = r then (s.getD (r.key - 1).toNat nd0, 0, s) else (nd0, 71, s)
theorem newHeap_calls {E : Env} {w : World} {L : List As} (hw : Sat E w L) :
    Calls Try.prog 9 #[] w fun e w' => ∃ h, e = .returned (.pointer (some ⟨h, 0, none⟩)) ∧ Sat E w' (pt h (.cells [((.slice none 0 0) : Value)].toArray 69 (0, 0)) :: OwnSl 84 3 (.slice none 0 0) ([] : List Nd).length [] :: L) := by
  refine calls_of_g (n := 3) Try.func9 rfl rfl rfl ?_
  change G _ _ _ _ _ [] _
  refine g_seq ?_
  refine g_region ?_
  refine xV rfl rfl rfl (v_assign rfl) ?_
  refine rl_nil (g_le (xK (Fr.le_refl _)) ?_)
  refine g_seq ?_
  refine g_region ?_
  refine xV rfl rfl rfl (v_build rfl (T.build_69 ..)) ?_
  refine rl_k rfl (k_box hw rfl rfl rfl (fun bk1_1 w hw => ?_))
  refine xV rfl rfl rfl (v_assign rfl) ?_
  refine rl_nil (g_le (xK (xS rfl (xS rfl (Fr.le_refl _)))) ?_)
  refine g_ret1 Try.func9 rfl rfl ?_
  refine ⟨_, rfl, ?_⟩
  rw [List.length_nil]
  exact (hw.own_nil 84 3).xQ
theorem ord_f105_r3_H07 : orderOfB Try.f105 3 [8, 11] (.a 0 (.a 1 (.a 2 (.a 3 (.v 4 (.k 5 (.k 6 (.k 7 (.k 8 (.k 9 (.k 10 (.k 11 .done)))))))))))) = true := by kernel_rfl
theorem hwrite_calls {E : Env} {w : World} {L : List As} {g : Hp} {h : Nat} {lv : Value} {s : List Nd} {cells ncs : List Value} {n : Nd} (hn : rdNd g ncs n) (hels : Els rdNd 3 g cells s) (hb : s.length ≤ 20000) (hw : Sat E w (pt h (.cells [(lv : Value)].toArray 69 (0, 0)) :: OwnSl 84 3 lv (s : List Nd).length cells :: RO g :: L)) :
    Calls Try.prog 105 #[.pointer (some ⟨h, 0, none⟩), .agg ncs.toArray] w fun e w' => ∃ g' lv' cells', g.le g' ∧ e = .returned (.tuple #[.agg (wrH s n).1.cells.toArray, .int .i64 (wrH s n).2.1]) ∧ Els rdNd 3 g' cells' (wrH s n).2.2 ∧ Sat E w' (pt h (.cells [(lv' : Value)].toArray 69 (0, 0)) :: OwnSl 84 3 lv' ((wrH s n).2.2 : List Nd).length cells' :: RO g' :: L) := by
  have hnn := hn
  obtain ⟨q0, q1, q2, rfl, qe, qf, qg⟩ := hn
  simp only [rdBool, List.cons.injEq, and_true] at qe
  subst qe
  obtain ⟨qa1, qn1, qk1, rfl⟩ := rdSl_shape qf
  obtain ⟨qa2, qn2, qk2, rfl⟩ := rdSl_shape qg
  obtain ⟨a, cc, rfl, _, _, _⟩ := (hw.pick .at1).own_shape
  refine calls_of_g (n := 31) Try.func105 rfl rfl rfl ?_
  change G _ _ _ _ _ [(0, _), (1, _)] _
  refine g_seq ?_
  refine g_region ?_
  refine rl_k rfl (k_box hw rfl rfl rfl (fun bk0_0 w hw => ?_))
  refine rl_k rfl (k_alloc hw T.zero_26 rfl rfl (fun bk0_1 w hw => ?_))
  refine xV rfl rfl rfl (v_assign rfl) ?_
  refine rl_nil (g_le (xK (xK (xK (Fr.le_refl _)))) ?_)
  refine g_seq (g_seq ?_)
  refine g_region ?_
  refine xV rfl rfl rfl (v_move rfl) ?_
  refine xV rfl rfl rfl (v_nilCheck rfl) ?_
  refine xV rfl rfl rfl (v_fieldAddr0 T.fld_69_0_0 rfl) ?_
  refine rl_v rfl rfl rfl (by exact sat_cell hw (by (repeat first | with_reducible exact xH | apply xT); first | done | fail) rfl) (v_load T.scal_67 rfl) ?_
  refine xV rfl rfl rfl (v_lenSlice T.sl_67_84_3 rfl) ?_
  refine xV rfl rfl rfl (v_geq rfl rfl) ?_
  refine rl_nil (g_le (xK (xS rfl (xS rfl (xS rfl (xS rfl (xS rfl (Fr.le_refl _))))))) ?_)
  refine g_cond rfl (fun h1 => ?_) (fun h1 => ?_)
  · try with_reducible exact ft_elim h1
    all_goals
      try replace h1 := of_decide_eq_true h1
      refine g_seq ?_
      refine g_region ?_
      refine xV rfl rfl rfl (v_build rfl (T.build_26 ..)) ?_
      refine rl_k rfl (k_storeWhole hw T.agg_26_4 rfl rfl (by simp [Value.oneCell']) rfl (by (repeat first | with_reducible exact xH | apply xT); first | done | fail) rfl (fun w hw => ?_))
      refine xV rfl rfl rfl (v_assign rfl) ?_
      refine rl_nil (g_le (xK (xS rfl (Fr.le_refl _))) ?_)
      refine g_res2 Try.func105 rfl ⟨_, rfl, holds_agg (vs := [_, _, _, _]) T.agg_26_4 rfl (by exact sat_cells hw (by (repeat first | with_reducible exact xH | apply xT); first | done | fail) ⟨rfl, rfl, rfl, rfl, trivial⟩)⟩ rfl ?_
      have e : wrH s n = (rf0, 2, s) := if_pos (by omega)
      rw [e]
      exact ⟨g, .slice a s.length cc, cells, Hp.le_refl _, rfl, hels, hw.xQ⟩
  · try with_reducible exact tf_elim h1
    all_goals
      try replace h1 := of_decide_eq_false h1
      refine g_skip (g_seq ?_)
      refine g_drawR ord_f105_r3_H07 (by kernel_rfl) T.mixed hw (fun w hw => ?_)
      refine rs_a 0 rfl rfl rfl rfl (v_move rfl) ?_
      refine rs_a 1 rfl rfl rfl rfl (v_move rfl) ?_
      refine rs_a 2 rfl rfl rfl rfl (v_nilCheck rfl) ?_
      refine rs_a 3 rfl rfl rfl rfl (v_fieldAddr0 T.fld_69_0_0 rfl) ?_
      refine rs_v 4 rfl rfl rfl rfl (OpV.mono (v_load T.scal_67 rfl) (fun w hw => by exact sat_cell hw (by (repeat first | with_reducible exact xH | apply xT); first | done | fail) rfl)) (by exact hw) ?_
      refine rs_kv 5 rfl rfl rfl rfl (by exact sat_cells hw (by (repeat first | with_reducible exact xH | apply xT); first | done | fail) ⟨rfl, rfl, rfl, trivial⟩) (v_loadAgg (vs := [_, _, _]) T.agg_84_3 rfl rfl) ?_
      refine rs_k 6 rfl rfl (k_callf Try.func64 rfl rfl rfl rfl ?_)
      refine Calls.mono (cloneNdT_calls hnn (hw.xQ)) ?_
      rintro _ w ⟨ev, kv, vs, rfl, hw⟩
      obtain ⟨a4, c4, rfl, _, _, _⟩ := hw.own_shape
      obtain ⟨a5, c5, rfl, _, _, _⟩ := (hw.pick .at2).own_shape
      refine ⟨_, rfl, ?_⟩
      refine ⟨fun _ => (by exact Sat.sub hw (by (repeat (first | with_reducible exact Sub.refl _ | exact Sub.nil _ | (apply Sub.cons; focus ((repeat (first | with_reducible exact Pick.here _ | apply Pick.there)); (first | done | fail))) | with_reducible apply Sub.drop)); first | done | fail)), ?_⟩
      refine rs_k 7 rfl rfl (k_buildSlice (cells := [_, _, _]) hw T.sl_67_84_3 T.zero_84 rfl rfl rfl rfl rfl rfl (fun bk3_7 w hw => ?_))
      refine ⟨fun _ => (by exact Sat.sub hw (by (repeat (first | with_reducible exact Sub.refl _ | exact Sub.nil _ | (apply Sub.cons; focus ((repeat (first | with_reducible exact Pick.here _ | apply Pick.there)); (first | done | fail))) | with_reducible apply Sub.drop)); first | done | fail)), ?_⟩
      refine rs_k 8 rfl rfl (k_append (news := [_, _, _]) hw T.sl_67_84_3 T.zero_84 T.bytes_84_56 rfl (by decide) rfl rfl (by (repeat first | with_reducible exact xH | apply xT); first | done | fail) rfl (by exact sat_cells hw (by (repeat first | with_reducible exact xH | apply xT); first | done | fail) ⟨rfl, rfl, rfl, trivial⟩) (by simp [Value.oneCell']) (by omega) (by simp only [maxLen]; omega) rfl (fun vv3_8 w hw hnil => ?_))
      refine ⟨fun hn => absurd (by decide) hn, ?_⟩
      obtain ⟨a6, c6, rfl, _, _, _⟩ := hw.own_shape
      refine rs_kv 9 rfl rfl rfl rfl (S' := fun _ => True) trivial (v_nilCheck rfl) ?_
      refine rs_kv 10 rfl rfl rfl rfl (S' := fun _ => True) trivial (v_fieldAddr0 T.fld_69_0_0 rfl) ?_
      refine rs_k 11 rfl rfl (k_store hw T.scal_67 rfl rfl rfl (by (repeat first | with_reducible exact xH | apply xT); first | done | fail) rfl (by simp only [List.set, Int.reduceToNat, Nat.reduceMul, Nat.reduceAdd]; rfl) (fun w hw => ?_))
      refine ⟨fun hn => absurd (by decide) hn, ?_⟩
      refine rs_done (g_le (xS rfl (xS rfl (xS rfl (xS rfl (xS rfl (xS rfl (xS rfl (xS rfl (xS rfl (xS rfl (xS rfl (Fr.le_refl _)))))))))))) ?_)
      refine g_seq ?_
      obtain ⟨g', hg', hnd', hw⟩ := nd_freeze (x := n) (Nd.fine_of hnn) (hw.xQ)
      refine g_region ?_
      refine xV rfl rfl rfl (v_move rfl) ?_
      refine xV rfl rfl rfl (v_nilCheck rfl) ?_
      refine xV rfl rfl rfl (v_fieldAddr0 T.fld_69_0_0 rfl) ?_
      refine rl_v rfl rfl rfl (by exact sat_cell hw (by (repeat first | with_reducible exact xH | apply xT); first | done | fail) rfl) (v_load T.scal_67 rfl) ?_
      refine xV rfl rfl rfl (v_lenSlice T.sl_67_84_3 rfl) ?_
      refine xV rfl rfl rfl (v_sub rfl rfl (by omega)) ?_
      refine rl_k rfl (k_callf Try.func106 rfl rfl rfl rfl ?_)
      refine Calls.mono (refOf_calls _ (by omega) (by omega) hw) ?_
      rintro _ w ⟨rfl, hw⟩
      refine ⟨_, rfl, ?_⟩
      refine rl_k rfl (k_storeWhole hw T.agg_26_4 rfl rfl (by simp [Value.oneCell']) rfl (by (repeat first | with_reducible exact xH | apply xT); first | done | fail) rfl (fun w hw => ?_))
      refine xV rfl rfl rfl (v_assign rfl) ?_
      refine rl_nil (g_le (xK (xS rfl (xS rfl (xS rfl (xS rfl (xS rfl (xS rfl (xS rfl (Fr.le_refl _))))))))) ?_)
      refine g_res2 Try.func105 rfl ⟨_, rfl, holds_agg (vs := [_, _, _, _]) T.agg_26_4 rfl (by exact sat_cells hw (by (repeat first | with_reducible exact xH | apply xT); first | done | fail) ⟨rfl, rfl, rfl, rfl, trivial⟩)⟩ rfl ?_
      have e : wrH s n = (refO s.length, 0, s ++ [n]) := if_neg (by omega)
      rw [e]
      refine ⟨g', .slice a6 (s.length + 1) c6, _, hg', ?_, (hels.mono mono_Nd hg').snoc rfl hnd', ?_⟩
      · rw [show (((s.length + 1 : Nat) : Int) - 1) = s.length by omega]
      · simp only [List.length_append, List.length_cons, List.length_nil]; exact hw.xQ
/-- A node of a row: its cells. -/
theorem nd_told {g : Hp} {ecs : List Value} {x : Nd} (hrd : rdNd g ecs x) : ∃ ea en ec ka kn kc, ecs = [.bool x.leaf, .slice ea en ec, .slice ka kn kc] ∧ rdNd g [.bool x.leaf, .slice ea en ec, .slice ka kn kc] x := by
  have hnd := hrd
  obtain ⟨n4, n5, n6, rfl, e4, n7, n8⟩ := hrd
  simp only [rdBool, List.cons.injEq, and_true] at e4
  subst e4
  obtain ⟨ea, en, ec, rfl⟩ := rdSl_shape n7
  obtain ⟨ka, kn, kc, rfl⟩ := rdSl_shape n8
  exact ⟨ea, en, ec, ka, kn, kc, rfl, hnd⟩
theorem nd_cells {g : Hp} {cells : List Value} {l : List Nd} {x : Nd} {i : Nat} (h : Els rdNd 3 g cells l) (hx : l[i]? = some x) :
    ∃ ea en ec ka kn kc, SubAt cells (0 + i * 3) [.bool x.leaf, .slice ea en ec, .slice ka kn kc] ∧ rdNd g [.bool x.leaf, .slice ea en ec, .slice ka kn kc] x ∧ 0 + i * 3 + 3 ≤ cells.length := by
  obtain ⟨h1, h2⟩ := h.at hx
  obtain ⟨ea, en, ec, ka, kn, kc, hc, hr⟩ := nd_told h1
  exact ⟨ea, en, ec, ka, kn, kc, subAt_of hc, hr, by omega⟩
theorem nd_nil {E : Env} {w : World} {L : List As} (h : Sat E w L) : Sat E w (OwnSl 40 2 (.slice none 0 0) 0 (enCells [] []) :: eachOf VnsOf [] [] :: KdsAt (.slice none 0 0) [] :: L) :=
  ((h.own_nil 104 5).each_nil (A := VnsOf)).own_nil 40 2
theorem ord_f104_r1_H07 : orderOfB Try.f104 1 [] (.k 0 (.k 1 (.k 2 (.k 3 (.a 4 (.a 6 (.a 7 (.a 8 (.v 5 (.k 9 (.k 10 (.k 11 (.k 12 (.k 13 (.k 14 (.a 15 (.v 16 (.a 17 (.a 18 (.v 20 (.k 19 (.k 21 (.k 22 .done))))))))))))))))))))))) = true := by kernel_rfl
theorem ord_f104_r3_H07 : orderOfB Try.f104 3 [9, 10] (.a 0 (.a 1 (.a 2 (.a 4 (.v 3 (.k 5 (.k 6 (.k 7 (.k 8 (.k 9 (.k 10 (.k 11 .done)))))))))))) = true := by kernel_rfl
theorem hread_calls {E : Env} {w : World} {L : List As} {g : Hp} {h : Nat} {lv : Value} {s : List Nd} {cells : List Value} (r : Rf) (hr : r.ok) (hels : Els rdNd 3 g cells s) (hb : s.length ≤ 20000) (hw : Sat E w (pt h (.cells [(lv : Value)].toArray 69 (0, 0)) :: OwnSl 84 3 lv (s : List Nd).length cells :: RO g :: L)) :
    Calls Try.prog 104 #[.pointer (some ⟨h, 0, none⟩), .agg r.cells.toArray] w fun e w' => ∃ ev kv vs, e = .returned (.tuple #[.agg #[.bool (rdH s r).1.leaf, ev, kv], .int .i64 (rdH s r).2.1]) ∧ Sat E w' (OwnSl 40 2 ev ((rdH s r).1).entries.length (enCells ((rdH s r).1).entries vs) :: eachOf VnsOf vs ((rdH s r).1).entries :: KdsAt kv ((rdH s r).1).kids :: pt h (.cells [(lv : Value)].toArray 69 (0, 0)) :: OwnSl 84 3 lv (s : List Nd).length cells :: RO g :: L) := by
  obtain ⟨a, cc, rfl, _, _, ha⟩ := (hw.pick .at1).own_shape
  have hk := u64_wf hr.1
  refine calls_of_g (n := 40) Try.func104 rfl rfl rfl ?_
  change G _ _ _ _ _ [(0, _), (1, _)] _
  refine g_seq ?_
  refine g_region ?_
  refine rl_k rfl (k_box hw rfl rfl rfl (fun bk0_0 w hw => ?_))
  refine rl_k rfl (k_alloc hw T.zero_84 rfl rfl (fun bk0_1 w hw => ?_))
  refine xV rfl rfl rfl (v_assign rfl) ?_
  refine rl_nil (g_le (xK (xK (xK (Fr.le_refl _)))) ?_)
  refine g_seq (g_seq ?_)
  refine g_drawR ord_f104_r1_H07 (by kernel_rfl) T.mixed hw (fun w hw => ?_)
  refine rs_kv 0 rfl rfl rfl rfl (S' := fun _ => True) trivial (v_fieldAddr0 T.fld_26_0_0 rfl) ?_
  refine rs_kv 1 rfl rfl rfl rfl (by exact sat_cell hw (by (repeat first | with_reducible exact xH | apply xT); first | done | fail) rfl) (v_load T.scal_24 rfl) ?_
  refine rs_kv 2 rfl rfl rfl rfl (S' := fun _ => True) trivial (v_lss rfl rfl) ?_
  refine rs_kv 3 rfl rfl rfl rfl (S' := fun _ => True) trivial (v_move rfl) ?_
  refine rs_split (s := 9) rfl (fun g1_3 => ?_) (fun g1_3 => ?_)
  · try with_reducible exact ft_elim g1_3
    all_goals
      try replace g1_3 := of_decide_eq_true g1_3
      try (exfalso; omega)
      all_goals
        refine rs_aoff 4 rfl (met_off rfl rfl rfl rfl rfl) rfl rfl ?_
        refine rs_aoff 6 rfl (met_off rfl rfl rfl rfl rfl) rfl rfl ?_
        refine rs_aoff 7 rfl (met_off rfl rfl rfl rfl rfl) rfl rfl ?_
        refine rs_aoff 8 rfl (met_off rfl rfl rfl rfl rfl) rfl rfl ?_
        refine rs_voff 5 rfl (met_off rfl rfl rfl rfl rfl) rfl rfl (by exact hw) ?_
        refine rs_koff 9 rfl (met_off rfl rfl rfl rfl rfl) rfl rfl ?_
        refine rs_koff 10 rfl (met_off rfl rfl rfl rfl rfl) rfl rfl ?_
        refine rs_koff 11 rfl (met_off rfl rfl rfl rfl rfl) rfl rfl ?_
        refine rs_koff 12 rfl (met_off rfl rfl rfl rfl rfl) rfl rfl ?_
        refine rs_kv 13 rfl rfl rfl rfl (S' := fun _ => True) trivial (v_pick_true rfl rfl) ?_
        refine rs_kv 14 rfl rfl rfl rfl (S' := fun _ => True) trivial (v_move rfl) ?_
        refine rs_aoff 15 rfl (met_off rfl rfl rfl rfl rfl) rfl rfl ?_
        refine rs_voff 16 rfl (met_off rfl rfl rfl rfl rfl) rfl rfl (by exact hw) ?_
        refine rs_aoff 17 rfl (met_off rfl rfl rfl rfl rfl) rfl rfl ?_
        refine rs_aoff 18 rfl (met_off rfl rfl rfl rfl rfl) rfl rfl ?_
        refine rs_voff 20 rfl (met_off rfl rfl rfl rfl rfl) rfl rfl (by exact hw) ?_
        refine rs_koff 19 rfl (met_off rfl rfl rfl rfl rfl) rfl rfl ?_
        refine rs_koff 21 rfl (met_off rfl rfl rfl rfl rfl) rfl rfl ?_
        refine rs_kv 22 rfl rfl rfl rfl (S' := fun _ => True) trivial (v_pick_true rfl rfl) ?_
        refine rs_done (g_le (xK (xS rfl (xS rfl (xS rfl (xS rfl (xS rfl (xS rfl (xS rfl (xS rfl (xS rfl (xS rfl (xS rfl (xS rfl (xS rfl (xS rfl (xS rfl (xS rfl (xS rfl (xS rfl (xS rfl (xS rfl (xS rfl (xS rfl (xS rfl (Fr.le_refl _))))))))))))))))))))))))) ?_)
        refine g_cond_true rfl ?_
        refine g_seq ?_
        refine g_region ?_
        refine xV rfl rfl rfl (v_build rfl (T.build_84 ..)) ?_
        refine rl_k rfl (k_storeWhole hw T.agg_84_3 rfl rfl (by simp [Value.oneCell']) rfl (by (repeat first | with_reducible exact xH | apply xT); first | done | fail) rfl (fun w hw => ?_))
        refine xV rfl rfl rfl (v_assign rfl) ?_
        refine rl_nil (g_le (xK (xS rfl (Fr.le_refl _))) ?_)
        refine g_res2 Try.func104 rfl ⟨_, rfl, holds_agg (vs := [_, _, _]) T.agg_84_3 rfl (by exact sat_cells hw (by (repeat first | with_reducible exact xH | apply xT); first | done | fail) ⟨rfl, rfl, rfl, trivial⟩)⟩ rfl ?_
        have e : rdH s r = (nd0, 71, s) := if_neg (fun hh => by omega)
        rw [e]
        refine ⟨.slice none 0 0, .slice none 0 0, [], rfl, ?_⟩
        dsimp only [nd0, List.length_nil]
        exact nd_nil (hw.xQ)
  · try with_reducible exact tf_elim g1_3
    all_goals
      try replace g1_3 := of_decide_eq_false g1_3
      try (exfalso; omega)
      all_goals
        refine rs_ag 4 rfl (met_on rfl rfl rfl rfl) rfl rfl (v_fieldAddr0 T.fld_26_0_0 rfl) ?_
        refine rs_ag 6 rfl (met_on rfl rfl rfl rfl) rfl rfl (v_move rfl) ?_
        refine rs_ag 7 rfl (met_on rfl rfl rfl rfl) rfl rfl (v_nilCheck rfl) ?_
        refine rs_ag 8 rfl (met_on rfl rfl rfl rfl) rfl rfl (v_fieldAddr0 T.fld_69_0_0 rfl) ?_
        refine rs_vg 5 rfl (met_on rfl rfl rfl rfl) rfl rfl (OpV.mono (v_load T.scal_24 rfl) (fun w hw => by exact sat_cell hw (by (repeat first | with_reducible exact xH | apply xT); first | done | fail) rfl)) (by exact hw) ?_
        refine rs_kvg 9 rfl (met_on rfl rfl rfl rfl) rfl rfl (by exact sat_cell hw (by (repeat first | with_reducible exact xH | apply xT); first | done | fail) rfl) (v_load T.scal_67 rfl) ?_
        refine rs_kvg 10 rfl (met_on rfl rfl rfl rfl) rfl rfl (S' := fun _ => True) trivial (v_lenSlice T.sl_67_84_3 rfl) ?_
        refine rs_kvg 11 rfl (met_on rfl rfl rfl rfl) rfl rfl (S' := fun _ => True) trivial (v_convU T.int_24_u64 T.int_3_i64 rfl (by omega) (by omega)) ?_
        refine rs_kvg 12 rfl (met_on rfl rfl rfl rfl) rfl rfl (S' := fun _ => True) trivial (v_gtr rfl rfl) ?_
        refine rs_kv 13 rfl rfl rfl rfl (S' := fun _ => True) trivial (v_pick_false rfl rfl) ?_
        refine rs_kv 14 rfl rfl rfl rfl (S' := fun _ => True) trivial (v_move rfl) ?_
        refine rs_split (s := 20) rfl (fun g1_14 => ?_) (fun g1_14 => ?_)
        · try with_reducible exact ft_elim g1_14
          all_goals
            try replace g1_14 := of_decide_eq_true g1_14
            try (exfalso; omega)
            all_goals
              refine rs_aoff 15 rfl (met_off rfl rfl rfl rfl rfl) rfl rfl ?_
              refine rs_voff 16 rfl (met_off rfl rfl rfl rfl rfl) rfl rfl (by exact hw) ?_
              refine rs_aoff 17 rfl (met_off rfl rfl rfl rfl rfl) rfl rfl ?_
              refine rs_aoff 18 rfl (met_off rfl rfl rfl rfl rfl) rfl rfl ?_
              refine rs_voff 20 rfl (met_off rfl rfl rfl rfl rfl) rfl rfl (by exact hw) ?_
              refine rs_koff 19 rfl (met_off rfl rfl rfl rfl rfl) rfl rfl ?_
              refine rs_koff 21 rfl (met_off rfl rfl rfl rfl rfl) rfl rfl ?_
              refine rs_kv 22 rfl rfl rfl rfl (S' := fun _ => True) trivial (v_pick_true rfl rfl) ?_
              refine rs_done (g_le (xK (xS rfl (xS rfl (xS rfl (xS rfl (xS rfl (xS rfl (xS rfl (xS rfl (xS rfl (xS rfl (xS rfl (xS rfl (xS rfl (xS rfl (xS rfl (xS rfl (xS rfl (xS rfl (xS rfl (xS rfl (xS rfl (xS rfl (xS rfl (xS rfl (Fr.le_refl _)))))))))))))))))))))))))) ?_)
              refine g_cond_true rfl ?_
              refine g_seq ?_
              refine g_region ?_
              refine xV rfl rfl rfl (v_build rfl (T.build_84 ..)) ?_
              refine rl_k rfl (k_storeWhole hw T.agg_84_3 rfl rfl (by simp [Value.oneCell']) rfl (by (repeat first | with_reducible exact xH | apply xT); first | done | fail) rfl (fun w hw => ?_))
              refine xV rfl rfl rfl (v_assign rfl) ?_
              refine rl_nil (g_le (xK (xS rfl (Fr.le_refl _))) ?_)
              refine g_res2 Try.func104 rfl ⟨_, rfl, holds_agg (vs := [_, _, _]) T.agg_84_3 rfl (by exact sat_cells hw (by (repeat first | with_reducible exact xH | apply xT); first | done | fail) ⟨rfl, rfl, rfl, trivial⟩)⟩ rfl ?_
              have e : rdH s r = (nd0, 71, s) := if_neg (fun hh => by omega)
              rw [e]
              refine ⟨.slice none 0 0, .slice none 0 0, [], rfl, ?_⟩
              dsimp only [nd0, List.length_nil]
              exact nd_nil (hw.xQ)
        · try with_reducible exact tf_elim g1_14
          all_goals
            try replace g1_14 := of_decide_eq_false g1_14
            try (exfalso; omega)
            all_goals
              refine rs_ag 15 rfl (met_on rfl rfl rfl rfl) rfl rfl (v_fieldAddr0 T.fld_26_0_0 rfl) ?_
              refine rs_vg 16 rfl (met_on rfl rfl rfl rfl) rfl rfl (OpV.mono (v_load T.scal_24 rfl) (fun w hw => by exact sat_cell hw (by (repeat first | with_reducible exact xH | apply xT); first | done | fail) rfl)) (by exact hw) ?_
              refine rs_ag 17 rfl (met_on rfl rfl rfl rfl) rfl rfl (v_convS T.int_3_i64 T.int_24_u64 rfl (by omega) (by omega)) ?_
              refine rs_ag 18 rfl (met_on rfl rfl rfl rfl) rfl rfl (v_sub rfl rfl (by omega)) ?_
              refine rs_vg 20 rfl (met_on rfl rfl rfl rfl) rfl rfl (OpV.mono (v_loadAgg (vs := [_, _, _, _]) T.agg_26_4 rfl rfl) (fun w hw => by exact sat_cells hw (by (repeat first | with_reducible exact xH | apply xT); first | done | fail) ⟨rfl, rfl, rfl, rfl, trivial⟩)) (by exact hw) ?_
              refine rs_kg 19 rfl (met_on rfl rfl rfl rfl) (k_callf Try.func106 rfl rfl rfl rfl ?_)
              refine Calls.mono (refOf_calls _ (by omega) (by omega) hw) ?_
              rintro _ w ⟨rfl, hw⟩
              refine ⟨_, rfl, ?_⟩
              refine ⟨fun _ => (by exact hw), ?_⟩
              refine rs_kvg 21 rfl (met_on rfl rfl rfl rfl) rfl rfl (S' := fun _ => True) trivial (v_neqAgg T.cmp_26_iiii rfl rfl rfl rfl (by exact eq_Rf _ _)) ?_
              refine rs_kv 22 rfl rfl rfl rfl (S' := fun _ => True) trivial (v_pick_false rfl rfl) ?_
              refine rs_done (g_le (xK (xS rfl (xS rfl (xS rfl (xS rfl (xS rfl (xS rfl (xS rfl (xS rfl (xS rfl (xS rfl (xS rfl (xS rfl (xS rfl (xS rfl (xS rfl (xS rfl (xS rfl (xS rfl (xS rfl (xS rfl (xS rfl (xS rfl (xS rfl (xS rfl (Fr.le_refl _)))))))))))))))))))))))))) ?_)
              refine g_cond rfl (fun h1 => ?_) (fun h1 => ?_)
              · try with_reducible exact ft_elim h1
                all_goals
                  try replace h1 := of_decide_eq_true h1
                  try (exfalso; omega)
                  all_goals
                    refine g_seq ?_
                    refine g_region ?_
                    refine xV rfl rfl rfl (v_build rfl (T.build_84 ..)) ?_
                    refine rl_k rfl (k_storeWhole hw T.agg_84_3 rfl rfl (by simp [Value.oneCell']) rfl (by (repeat first | with_reducible exact xH | apply xT); first | done | fail) rfl (fun w hw => ?_))
                    refine xV rfl rfl rfl (v_assign rfl) ?_
                    refine rl_nil (g_le (xK (xS rfl (Fr.le_refl _))) ?_)
                    refine g_res2 Try.func104 rfl ⟨_, rfl, holds_agg (vs := [_, _, _]) T.agg_84_3 rfl (by exact sat_cells hw (by (repeat first | with_reducible exact xH | apply xT); first | done | fail) ⟨rfl, rfl, rfl, trivial⟩)⟩ rfl ?_
                    have e : rdH s r = (nd0, 71, s) := if_neg (fun hh => by simp at h1; exact h1 hh.2.2)
                    rw [e]
                    refine ⟨.slice none 0 0, .slice none 0 0, [], rfl, ?_⟩
                    dsimp only [nd0, List.length_nil]
                    exact nd_nil (hw.xQ)
              · try with_reducible exact tf_elim h1
                all_goals
                  try replace h1 := of_decide_eq_false h1
                  try (exfalso; omega)
                  all_goals
                    refine g_skip (g_seq ?_)
                    have hu : IntKind.u64.wrap (r.key - 1) = r.key - 1 := u64_in (by omega)
                    have hlt : (r.key - 1).toNat < s.length := by omega
                    have hx : s[(r.key - 1).toNat]? = some s[(r.key - 1).toNat] := List.getElem?_eq_getElem hlt
                    have e : rdH s r = (s[(r.key - 1).toNat], 0, s) := by unfold rdH; rw [if_pos ⟨by omega, by omega, by simpa using h1⟩, List.getD_eq_getElem?_getD, hx]; rfl
                    rw [e]
                    obtain ⟨ea, en, ec, ka, kn, kc, hsub, hnd, hle⟩ := nd_cells hels hx
                    generalize s[(r.key - 1).toNat] = x at hnd hsub hx e ⊢
                    obtain ⟨gb, rfl⟩ := ha (by omega)
                    refine g_drawR ord_f104_r3_H07 (by kernel_rfl) T.mixed hw (fun w hw => ?_)
                    refine rs_a 0 rfl rfl rfl rfl (v_move rfl) ?_
                    refine rs_a 1 rfl rfl rfl rfl (v_nilCheck rfl) ?_
                    refine rs_a 2 rfl rfl rfl rfl (v_fieldAddr0 T.fld_69_0_0 rfl) ?_
                    refine rs_a 4 rfl rfl rfl rfl (v_fieldAddr0 T.fld_26_0_0 rfl) ?_
                    refine rs_v 3 rfl rfl rfl rfl (OpV.mono (v_load T.scal_67 rfl) (fun w hw => by exact sat_cell hw (by (repeat first | with_reducible exact xH | apply xT); first | done | fail) rfl)) (by exact hw) ?_
                    refine rs_kv 5 rfl rfl rfl rfl (by exact sat_cell hw (by (repeat first | with_reducible exact xH | apply xT); first | done | fail) rfl) (v_load T.scal_24 rfl) ?_
                    refine rs_kv 6 rfl rfl rfl rfl (S' := fun _ => True) trivial (v_subW rfl rfl) ?_
                    rw [hu]
                    refine rs_kv 7 rfl rfl rfl rfl (S' := fun _ => True) trivial (v_indexAddr T.sl_67_84_3 rfl rfl (by omega) (by omega)) ?_
                    refine rs_kv 8 rfl rfl rfl rfl (by exact own_cells hw (by (repeat first | with_reducible exact xH | apply xT); first | done | fail) (by assumption)) (v_loadAgg (vs := [_, _, _]) T.agg_84_3 rfl rfl) ?_
                    refine rs_k 9 rfl rfl (k_callf Try.func64 rfl rfl rfl rfl ?_)
                    refine Calls.mono (cloneNdT_calls hnd (hw.xQ)) ?_
                    rintro _ w ⟨ev, kv, vs, rfl, hw⟩
                    obtain ⟨a4, c4, rfl, _, _, _⟩ := hw.own_shape
                    obtain ⟨a5, c5, rfl, _, _, _⟩ := (hw.pick .at2).own_shape
                    refine ⟨_, rfl, ?_⟩
                    refine ⟨fun hn => absurd (by decide) hn, ?_⟩
                    refine rs_k 10 rfl rfl (k_storeWhole hw T.agg_84_3 rfl rfl (by simp [Value.oneCell']) rfl (by (repeat first | with_reducible exact xH | apply xT); first | done | fail) rfl (fun w hw => ?_))
                    refine ⟨fun hn => absurd (by decide) hn, ?_⟩
                    refine rs_kv 11 rfl rfl rfl rfl (S' := fun _ => True) trivial (v_assign rfl) ?_
                    refine rs_done (g_le (xK (xS rfl (xS rfl (xS rfl (xS rfl (xS rfl (xS rfl (xS rfl (xS rfl (xS rfl (xS rfl (Fr.le_refl _)))))))))))) ?_)
                    refine g_res2 Try.func104 rfl ⟨_, rfl, holds_agg (vs := [_, _, _]) T.agg_84_3 rfl (by exact sat_cells hw (by (repeat first | with_reducible exact xH | apply xT); first | done | fail) ⟨rfl, rfl, rfl, trivial⟩)⟩ rfl ?_
                    exact ⟨_, _, vs, rfl, hw.xQ⟩
end Go.Proofs.Ytdiocmjhencbpaa
