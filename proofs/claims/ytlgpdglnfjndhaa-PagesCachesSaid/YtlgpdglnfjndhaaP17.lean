/-
  Dice (layer 1); pages on a log (layer 16): New.
-/
import Derived.Test.YtlgpdglnfjndhaaU06c
import Derived.Test.YtlgpdglnfjndhaaS14d
import Derived.Test.YtlgpdglnfjndhaaC15c
namespace Go.Proofs.Ytlgpdglnfjndhaa
set_option maxRecDepth 8000
set_option linter.unusedSimpArgs false
set_option linter.unusedVariables false
open Go Xe Go.Lib
def drawI (l : List Int) (i : Nat) : Int := (l[i]?).getD (1099511627776 + i)
def U64 (n : Int) : Prop := 0 ≤ n ∧ n ≤ 18446744073709551615
theorem u64_wf {n : Int} (h : (Lit.int .u64 n).wf = true) : U64 n := by
  simp only [Lit.wf, Bool.and_eq_true, decide_eq_true_eq] at h; exact h
theorem u64_in {n : Int} (h : U64 n) : IntKind.u64.wrap n = n := by obtain ⟨a, b⟩ := h; show n % 18446744073709551616 = n; omega
theorem drawI_ok {l : List Int} (h : ∀ n ∈ l, U64 n) {i : Nat} (hi : i ≤ 1000000000) : U64 (drawI l i) := by
  unfold drawI
  cases hx : l[i]? with
  | none => exact ⟨by simp; omega, by simp; omega⟩
  | some n => exact h n (List.mem_of_getElem? hx)
theorem clone64_calls {E : Env} {w : World} {L : List As} {g : Hp} {v : Value} {xs : List Int} (hv1 : rdSl 8 1 (rdInt .u64) g [v] xs) (hw : Sat E w (RO g :: L)) :
    Calls Try.prog 41 #[v] w fun e w' => ∃ v, e = .returned v ∧ Sat E w' (OwnSl 49 1 v xs.length (xs.map (Value.int .u64)) :: RO g :: L) := by
  obtain ⟨a1, n1, k1, rfl⟩ := rdSl_shape hv1
  obtain ⟨rfl, hle, hm, hb, cells, hels, hsrc⟩ := rdSl_cells hv1
  have hlen := hels.len
  have hone := hels.ones (fun h => by rw [h.1]; simp [Value.oneCell'])
  have hfl : cells = xs.map (Value.int .u64) := by
    rw [els_flat (f := fun x => [Value.int .u64 x]) (fun g cs x h => h.1) hels]
    clear hels hone hlen hsrc hv1 hb hle hm
    induction xs with
    | nil => rfl
    | cons x xs ih => rw [List.flatMap_cons, ih]; rfl
  simp only [reachBytes] at hb
  simp only [maxLen] at hm
  refine calls_of_g (n := 8) Try.func41 rfl rfl rfl ?_
  change G _ _ _ _ _ [(0, _)] _
  refine g_seq ?_
  refine g_region ?_
  refine xV rfl rfl rfl (v_assign rfl) ?_
  refine rl_nil (g_le (xK (Fr.le_refl _)) ?_)
  refine g_seq (g_seq ?_)
  refine g_region ?_
  refine xV rfl rfl rfl (v_move rfl) ?_
  refine xV rfl rfl rfl (v_eqlSlNil T.sl_24_49_1 rfl rfl) ?_
  refine rl_nil (g_le (xK (xS rfl (Fr.le_refl _))) ?_)
  refine g_cond rfl (fun h1 => ?_) (fun h1 => ?_)
  · try with_reducible exact ft_elim h1
    all_goals
      try replace h1 := of_decide_eq_true h1
      have h0 : xs.length = 0 := by (rcases hsrc with h | ⟨b, o, h, _⟩ <;> first | exact h | (subst h; cases h1))
      refine g_seq ?_
      refine g_region ?_
      refine xV rfl rfl rfl (v_assign rfl) ?_
      refine rl_nil (g_le (xK (Fr.le_refl _)) ?_)
      refine g_ret1 Try.func41 rfl rfl ?_
      refine ⟨_, rfl, ?_⟩
      have hx := List.eq_nil_of_length_eq_zero h0
      subst hx
      exact hw.own_nil _ _
  · try with_reducible exact tf_elim h1
    all_goals
      try replace h1 := of_decide_eq_false h1
      refine g_skip (g_seq ?_)
      refine g_region ?_
      refine rl_k rfl (k_buildSlice0 hw T.sl_24_49_1 T.zero_49 rfl (fun bk3_0 w hw => ?_))
      refine xV rfl rfl rfl (v_move rfl) ?_
      refine rl_k rfl (k_appendS hw T.sl_24_49_1 T.zero_49 T.bytes_49_8 rfl (by decide) rfl rfl (by (repeat first | with_reducible exact xH | apply xT); first | done | fail) (by assumption) (by exact ro_src hw (by (repeat first | with_reducible exact xH | apply xT); first | done | fail) (by assumption) (by assumption)) (by assumption) (by omega) (by simp only [maxLen] at *; omega) rfl (fun vv3_2 w hw hnil => ?_))
      rw [Nat.zero_add, List.nil_append, hfl] at hw
      refine xV rfl rfl rfl (v_assign rfl) ?_
      refine rl_nil (g_le (xK (xS rfl (xS rfl (xS rfl (Fr.le_refl _))))) ?_)
      refine g_ret1 Try.func41 rfl rfl ?_
      exact ⟨_, rfl, hw.xQ⟩
theorem dnew_calls {E : Env} {w : World} {L : List As} {g : Hp} {a : Option Addr} {n k : Nat} {xs : List Int} (hv : rdSl 8 1 (rdInt .u64) g [.slice a n k] xs) (hn : n ≤ 100000) (hw : Sat E w (RO g :: L)) :
    Calls Try.prog 23 #[.slice a n k] w fun e w' => ∃ d dv, e = .returned (.tuple #[.pointer (some ⟨d, 0, none⟩), .int .i64 0]) ∧ Sat E w' (pt d (.cells [dv, .int .i64 ((0 : Nat) : Int)].toArray 89 (0, 0)) :: OwnSl 49 1 dv (xs : List Int).length ((xs).map (Value.int .u64)) :: RO g :: L) := by
  refine calls_of_g (n := 11) Try.func23 rfl rfl rfl ?_
  change G _ _ _ _ _ [(0, _)] _
  refine g_seq ?_
  refine g_region ?_
  refine xV rfl rfl rfl (v_assign rfl) ?_
  refine xV rfl rfl rfl (v_assign rfl) ?_
  refine rl_nil (g_le (xK (xK (Fr.le_refl _))) ?_)
  refine g_seq (g_seq ?_)
  refine g_region ?_
  refine xV rfl rfl rfl (v_move rfl) ?_
  refine xV rfl rfl rfl (v_lenSlice T.sl_24_49_1 rfl) ?_
  refine xV rfl rfl rfl (v_gtrF rfl rfl (by omega)) ?_
  refine rl_nil (g_le (xK (xS rfl (xS rfl (Fr.le_refl _)))) ?_)
  refine g_cond rfl (fun h1 => ?_) (fun h1 => ?_)
  · try with_reducible exact ft_elim h1
    all_goals
      try replace h1 := of_decide_eq_true h1
      try (exfalso; omega)
      all_goals
        refine g_seq ?_
        refine g_region ?_
        refine xV rfl rfl rfl (v_assign rfl) ?_
        refine xV rfl rfl rfl (v_assign rfl) ?_
        refine rl_nil (g_le (xK (xK (Fr.le_refl _))) ?_)
        refine g_ret2 Try.func23 rfl rfl rfl ?_
        exact ⟨rfl, hw⟩
  · try with_reducible exact tf_elim h1
    all_goals
      try replace h1 := of_decide_eq_false h1
      try (exfalso; omega)
      all_goals
        refine g_skip (g_seq ?_)
        refine g_region ?_
        refine xV rfl rfl rfl (v_move rfl) ?_
        refine rl_k rfl (k_callf Try.func41 rfl rfl rfl rfl ?_)
        refine Calls.mono (clone64_calls hv hw) ?_
        rintro _ w ⟨dv, rfl, hw⟩
        have hz := hw
        clear hw
        obtain ⟨da, dc, rfl, _, _, _⟩ := hz.own_shape
        have hw := hz
        clear hz
        refine ⟨_, rfl, ?_⟩
        refine xV rfl rfl rfl (v_build rfl (T.build_89_0 ..)) ?_
        refine rl_k rfl (k_box hw rfl rfl rfl (fun bk3_3 w hw => ?_))
        refine xV rfl rfl rfl (v_assign rfl) ?_
        refine xV rfl rfl rfl (v_assign rfl) ?_
        refine rl_nil (g_le (xK (xK (xS rfl (xS rfl (xS rfl (xS rfl (Fr.le_refl _))))))) ?_)
        refine g_ret2 Try.func23 rfl rfl rfl ?_
        refine ⟨_, .slice da xs.length dc, rfl, ?_⟩
        rw [show (((0 : Nat) : Int)) = 0 from rfl]
        exact hw.xQ
theorem next_calls {E : Env} {w : World} {L : List As} {d : Nat} {dv : Value} {l : List Int} {tk : Nat} (ht : tk ≤ 1000000000) (hw : Sat E w (pt d (.cells [dv, .int .i64 ((tk : Nat) : Int)].toArray 89 (0, 0)) :: OwnSl 49 1 dv (l : List Int).length ((l).map (Value.int .u64)) :: L)) :
    Calls Try.prog 27 #[.pointer (some ⟨d, 0, none⟩)] w fun e w' => e = .returned (.int .u64 (drawI l tk)) ∧ Sat E w' (pt d (.cells [dv, .int .i64 (((tk + 1) : Nat) : Int)].toArray 89 (0, 0)) :: OwnSl 49 1 dv (l : List Int).length ((l).map (Value.int .u64)) :: L) := by
  obtain ⟨da, dk, rfl, hlc, hcm, hsm⟩ := (hw.pick .at1).own_shape
  simp only [maxLen] at hcm
  refine calls_of_g (n := 32) Try.func27 rfl rfl rfl ?_
  change G _ _ _ _ _ [(0, _)] _
  refine g_seq ?_
  refine g_region ?_
  refine xV rfl rfl rfl (v_assign rfl) ?_
  refine rl_nil (g_le (xK (Fr.le_refl _)) ?_)
  refine g_seq ?_
  refine g_region ?_
  refine xV rfl rfl rfl (v_move rfl) ?_
  refine xV rfl rfl rfl (v_nilCheck rfl) ?_
  refine xV rfl rfl rfl (v_fieldAddr0 T.fld_89_1_1 rfl) ?_
  refine rl_v rfl rfl rfl (by exact sat_cell hw (by (repeat first | with_reducible exact xH | apply xT); first | done | fail) rfl) (v_load T.scal_3 rfl) ?_
  refine xV rfl rfl rfl (v_assign rfl) ?_
  refine rl_nil (g_le (xK (xS rfl (xS rfl (xS rfl (xS rfl (Fr.le_refl _)))))) ?_)
  refine g_seq ?_
  refine g_region ?_
  refine xV rfl rfl rfl (v_move rfl) ?_
  refine xV rfl rfl rfl (v_nilCheck rfl) ?_
  refine xV rfl rfl rfl (v_fieldAddr0 T.fld_89_1_1 rfl) ?_
  refine rl_v rfl rfl rfl (by exact sat_cell hw (by (repeat first | with_reducible exact xH | apply xT); first | done | fail) rfl) (v_load T.scal_3 rfl) ?_
  refine xV rfl rfl rfl (v_add rfl rfl (by omega)) ?_
  refine xV rfl rfl rfl (v_nilCheck rfl) ?_
  refine xV rfl rfl rfl (v_fieldAddr0 T.fld_89_1_1 rfl) ?_
  refine rl_k rfl (k_store hw T.scal_3 rfl rfl rfl (by (repeat first | with_reducible exact xH | apply xT); first | done | fail) rfl (by simp only [List.set, Int.reduceToNat, Nat.reduceMul, Nat.reduceAdd]; rfl) (fun w hw => ?_))
  refine rl_nil (g_le (xS rfl (xS rfl (xS rfl (xS rfl (xS rfl (xS rfl (xS rfl (Fr.le_refl _)))))))) ?_)
  refine g_seq (g_seq ?_)
  refine g_region ?_
  refine xV rfl rfl rfl (v_move rfl) ?_
  refine xV rfl rfl rfl (v_move rfl) ?_
  refine xV rfl rfl rfl (v_nilCheck rfl) ?_
  refine xV rfl rfl rfl (v_fieldAddr0 T.fld_89_0_0 rfl) ?_
  refine rl_v rfl rfl rfl (by exact sat_cell hw (by (repeat first | with_reducible exact xH | apply xT); first | done | fail) rfl) (v_load T.scal_24 rfl) ?_
  refine xV rfl rfl rfl (v_lenSlice T.sl_24_49_1 rfl) ?_
  refine xV rfl rfl rfl (v_lss rfl rfl) ?_
  refine rl_nil (g_le (xK (xS rfl (xS rfl (xS rfl (xS rfl (xS rfl (xS rfl (Fr.le_refl _)))))))) ?_)
  refine g_cond rfl (fun h1 => ?_) (fun h1 => ?_)
  · try with_reducible exact ft_elim h1
    all_goals
      try replace h1 := of_decide_eq_true h1
      have hlt : tk < l.length := by omega
      have hx : l[tk]? = some l[tk] := List.getElem?_eq_getElem hlt
      generalize l[tk] = x at hx
      have hd : drawI l tk = x := by unfold drawI; rw [hx]; rfl
      refine g_seq ?_
      have hz := hw
      clear hw
      obtain ⟨gb, rfl⟩ := hsm (by omega)
      have hw := hz
      clear hz
      have hc1 : (l.map (Value.int .u64))[0 + ((tk : Nat) : Int).toNat * 1]? = some (.int .u64 x) := by rw [show 0 + ((tk : Nat) : Int).toNat * 1 = tk by omega, List.getElem?_map, hx]; rfl
      refine g_region ?_
      refine xV rfl rfl rfl (v_move rfl) ?_
      refine xV rfl rfl rfl (v_nilCheck rfl) ?_
      refine xV rfl rfl rfl (v_fieldAddr0 T.fld_89_0_0 rfl) ?_
      refine rl_v rfl rfl rfl (by exact sat_cell hw (by (repeat first | with_reducible exact xH | apply xT); first | done | fail) rfl) (v_load T.scal_24 rfl) ?_
      refine xV rfl rfl rfl (v_move rfl) ?_
      refine xV rfl rfl rfl (v_indexAddr T.sl_24_49_1 rfl rfl (by omega) (by omega)) ?_
      refine rl_v rfl rfl rfl (by exact own_cell hw (by (repeat first | with_reducible exact xH | apply xT); first | done | fail) (by first | rfl | assumption)) (v_load T.scal_49 rfl) ?_
      refine xV rfl rfl rfl (v_assign rfl) ?_
      refine rl_nil (g_le (xK (xS rfl (xS rfl (xS rfl (xS rfl (xS rfl (xS rfl (xS rfl (Fr.le_refl _))))))))) ?_)
      refine g_ret1 Try.func27 rfl rfl ?_
      rw [hd, show (((tk + 1 : Nat)) : Int) = tk + 1 by omega]
      exact ⟨rfl, hw.xQ⟩
  · try with_reducible exact tf_elim h1
    all_goals
      try replace h1 := of_decide_eq_false h1
      have hd : drawI l tk = 1099511627776 + tk := by unfold drawI; rw [List.getElem?_eq_none (by omega)]; rfl
      refine g_skip (g_seq ?_)
      refine g_region ?_
      refine xV rfl rfl rfl (v_move rfl) ?_
      refine xV rfl rfl rfl (v_convU T.int_49_u64 T.int_3_i64 rfl (by omega) (by omega)) ?_
      refine xV rfl rfl rfl (v_addW rfl rfl) ?_
      refine xV rfl rfl rfl (v_assign rfl) ?_
      refine rl_nil (g_le (xK (xS rfl (xS rfl (xS rfl (Fr.le_refl _))))) ?_)
      refine g_ret1 Try.func27 rfl rfl ?_
      rw [hd, show (((tk + 1 : Nat)) : Int) = tk + 1 by omega]
      exact ⟨by rw [u64_in ⟨by omega, by omega⟩], hw.xQ⟩
theorem taken_calls {E : Env} {w : World} {L : List As} (d : Nat) (v : Value) (n : Int) (hw : Sat E w (pt d (.cells [v, .int .i64 n].toArray 89 (0, 0)) :: L)) :
    Calls Try.prog 14 #[.pointer (some ⟨d, 0, none⟩)] w fun e w' => e = .returned (.int .i64 n) ∧ Sat E w' (pt d (.cells [v, .int .i64 n].toArray 89 (0, 0)) :: L) := by
  refine calls_of_g (n := 7) Try.func14 rfl rfl rfl ?_
  change G _ _ _ _ _ [(0, _)] _
  refine g_seq ?_
  refine g_region ?_
  refine xV rfl rfl rfl (v_assign rfl) ?_
  refine rl_nil (g_le (xK (Fr.le_refl _)) ?_)
  refine g_seq ?_
  refine g_region ?_
  refine xV rfl rfl rfl (v_move rfl) ?_
  refine xV rfl rfl rfl (v_nilCheck rfl) ?_
  refine xV rfl rfl rfl (v_fieldAddr0 T.fld_89_1_1 rfl) ?_
  refine rl_v rfl rfl rfl (by exact sat_cell hw (by (repeat first | with_reducible exact xH | apply xT); first | done | fail) rfl) (v_load T.scal_3 rfl) ?_
  refine xV rfl rfl rfl (v_assign rfl) ?_
  refine rl_nil (g_le (xK (xS rfl (xS rfl (xS rfl (xS rfl (Fr.le_refl _)))))) ?_)
  refine g_ret1 Try.func14 rfl rfl ?_
  exact ⟨rfl, hw⟩
@[reducible] def PgsAt (pp l c d : Nat) (q : Qt) : As := pt pp (.cells [Value.pointer (some ⟨l, 0, none⟩), .pointer (some ⟨c, 0, none⟩), .pointer (some ⟨d, 0, none⟩), .int .i64 q.s, .int .i64 q.nm, .int .i64 q.va, .int .i64 q.no, .int .i64 q.ve, .int .i64 q.ba, .int .i64 q.ca].toArray 35 (0, 0))
theorem pnewBad_calls {E : Env} {w : World} {L : List As} (q : Qt) (hq : ¬ q.ok) (l c d : Value) (hw : Sat E w L) :
    Calls Try.prog 24 #[q.v, l, c, d] w fun e w' => e = .returned (.tuple #[.pointer none, .int .i64 40]) ∧ Sat E w' L := by
  have hrq := right_iff q
  refine calls_of_g (n := 29) Try.func24 rfl rfl rfl ?_
  change G _ _ _ _ _ [(0, _), (1, _), (2, _), (3, _)] _
  refine g_seq ?_
  refine g_region ?_
  refine rl_k rfl (k_box hw rfl rfl rfl (fun bk0_0 w hw => ?_))
  refine xV rfl rfl rfl (v_assign rfl) ?_
  refine xV rfl rfl rfl (v_assign rfl) ?_
  refine rl_nil (g_le (xK (xK (xK (Fr.le_refl _)))) ?_)
  refine g_seq (g_seq ?_)
  refine g_region ?_
  refine rl_v rfl rfl rfl (by exact sat_cells hw (by (repeat first | with_reducible exact xH | apply xT); first | done | fail) ⟨rfl, rfl, rfl, rfl, rfl, rfl, rfl, trivial⟩) (v_loadAgg (vs := [_, _, _, _, _, _, _]) T.agg_23_7 rfl rfl) ?_
  refine rl_k rfl (k_callf Try.func42 rfl rfl rfl rfl ?_)
  refine Calls.mono (right_calls q (hw.xQ)) ?_
  rintro _ w ⟨rfl, hw⟩
  refine ⟨_, rfl, ?_⟩
  refine xV rfl rfl rfl (v_neq rfl rfl) ?_
  refine rl_nil (g_le (xK (xS rfl (xS rfl (Fr.le_refl _)))) ?_)
  refine g_cond rfl (fun h1 => ?_) (fun h1 => ?_)
  · try with_reducible exact ft_elim h1
    all_goals
      try replace h1 := of_decide_eq_true h1
      try (exfalso; omega)
      all_goals
        refine g_seq ?_
        refine g_region ?_
        refine xV rfl rfl rfl (v_assign rfl) ?_
        refine xV rfl rfl rfl (v_assign rfl) ?_
        refine rl_nil (g_le (xK (xK (Fr.le_refl _))) ?_)
        refine g_ret2 Try.func24 rfl rfl rfl ?_
        exact ⟨rfl, hw.xQ⟩
  · try with_reducible exact tf_elim h1
    all_goals
      try replace h1 := of_decide_eq_false h1
      exact absurd (hrq.2 hq) h1
theorem pnew_calls {E : Env} {w : World} {L : List As} (q : Qt) (hq : q.ok) (l c d : Nat) (hw : Sat E w L) :
    Calls Try.prog 24 #[q.v, .pointer (some ⟨l, 0, none⟩), .pointer (some ⟨c, 0, none⟩), .pointer (some ⟨d, 0, none⟩)] w fun e w' => ∃ pp, e = .returned (.tuple #[.pointer (some ⟨pp, 0, none⟩), .int .i64 0]) ∧ Sat E w' (PgsAt pp l c d q :: L) := by
  have hrq := right_iff q
  refine calls_of_g (n := 29) Try.func24 rfl rfl rfl ?_
  change G _ _ _ _ _ [(0, _), (1, _), (2, _), (3, _)] _
  refine g_seq ?_
  refine g_region ?_
  refine rl_k rfl (k_box hw rfl rfl rfl (fun bk0_0 w hw => ?_))
  refine xV rfl rfl rfl (v_assign rfl) ?_
  refine xV rfl rfl rfl (v_assign rfl) ?_
  refine rl_nil (g_le (xK (xK (xK (Fr.le_refl _)))) ?_)
  refine g_seq (g_seq ?_)
  refine g_region ?_
  refine rl_v rfl rfl rfl (by exact sat_cells hw (by (repeat first | with_reducible exact xH | apply xT); first | done | fail) ⟨rfl, rfl, rfl, rfl, rfl, rfl, rfl, trivial⟩) (v_loadAgg (vs := [_, _, _, _, _, _, _]) T.agg_23_7 rfl rfl) ?_
  refine rl_k rfl (k_callf Try.func42 rfl rfl rfl rfl ?_)
  refine Calls.mono (right_calls q (hw.xQ)) ?_
  rintro _ w ⟨rfl, hw⟩
  refine ⟨_, rfl, ?_⟩
  refine xV rfl rfl rfl (v_neq rfl rfl) ?_
  refine rl_nil (g_le (xK (xS rfl (xS rfl (Fr.le_refl _)))) ?_)
  refine g_cond rfl (fun h1 => ?_) (fun h1 => ?_)
  · try with_reducible exact ft_elim h1
    all_goals
      try replace h1 := of_decide_eq_true h1
      exact absurd hq (hrq.1 h1)
  · try with_reducible exact tf_elim h1
    all_goals
      try replace h1 := of_decide_eq_false h1
      try (exfalso; omega)
      all_goals
        refine g_skip (g_seq (g_seq ?_))
        refine g_region ?_
        refine xV rfl rfl rfl (v_move rfl) ?_
        refine xV rfl rfl rfl (v_eqlNil T.ptr_31 rfl rfl) ?_
        refine xV rfl rfl rfl (v_move rfl) ?_
        refine rl_split (s := 15) rfl (fun g3_2 => ?_) (fun g3_2 => ?_)
        · try with_reducible exact ft_elim g3_2
          all_goals
            try replace g3_2 := of_decide_eq_true g3_2
            simp at g3_2
        · try with_reducible exact tf_elim g3_2
          all_goals
            try replace g3_2 := of_decide_eq_false g3_2
            try (exfalso; omega)
            all_goals
              refine rl_vg (met_on rfl rfl rfl rfl) rfl rfl (S := fun _ => True) trivial (v_move rfl) ?_
              refine rl_vg (met_on rfl rfl rfl rfl) rfl rfl (S := fun _ => True) trivial (v_eqlNil T.ptr_32 rfl rfl) ?_
              refine xV rfl rfl rfl (v_pick_false rfl rfl) ?_
              refine xV rfl rfl rfl (v_move rfl) ?_
              refine rl_split (s := 19) rfl (fun g3_6 => ?_) (fun g3_6 => ?_)
              · try with_reducible exact ft_elim g3_6
                all_goals
                  try replace g3_6 := of_decide_eq_true g3_6
                  simp at g3_6
              · try with_reducible exact tf_elim g3_6
                all_goals
                  try replace g3_6 := of_decide_eq_false g3_6
                  try (exfalso; omega)
                  all_goals
                    refine rl_vg (met_on rfl rfl rfl rfl) rfl rfl (S := fun _ => True) trivial (v_move rfl) ?_
                    refine rl_vg (met_on rfl rfl rfl rfl) rfl rfl (S := fun _ => True) trivial (v_eqlNil T.ptr_33 rfl rfl) ?_
                    refine xV rfl rfl rfl (v_pick_false rfl rfl) ?_
                    refine rl_nil (g_le (xK (xS rfl (xS rfl (xS rfl (xS rfl (xS rfl (xS rfl (xS rfl (xS rfl (xS rfl (xS rfl (xS rfl (Fr.le_refl _))))))))))))) ?_)
                    refine g_cond rfl (fun h2 => ?_) (fun h2 => ?_)
                    · try with_reducible exact ft_elim h2
                      all_goals
                        try replace h2 := of_decide_eq_true h2
                        simp at h2
                    · try with_reducible exact tf_elim h2
                      all_goals
                        try replace h2 := of_decide_eq_false h2
                        try (exfalso; omega)
                        all_goals
                          refine g_skip (g_seq ?_)
                          refine g_region ?_
                          refine xV rfl rfl rfl (v_move rfl) ?_
                          refine xV rfl rfl rfl (v_move rfl) ?_
                          refine xV rfl rfl rfl (v_move rfl) ?_
                          refine rl_v rfl rfl rfl (by exact sat_cells hw (by (repeat first | with_reducible exact xH | apply xT); first | done | fail) ⟨rfl, rfl, rfl, rfl, rfl, rfl, rfl, trivial⟩) (v_loadAgg (vs := [_, _, _, _, _, _, _]) T.agg_23_7 rfl rfl) ?_
                          refine xV rfl rfl rfl (v_build rfl (T.build_35_0_1_2_3 ..)) ?_
                          refine rl_k rfl (k_box hw rfl rfl rfl (fun bk5_5 w hw => ?_))
                          refine xV rfl rfl rfl (v_assign rfl) ?_
                          refine xV rfl rfl rfl (v_assign rfl) ?_
                          refine rl_nil (g_le (xK (xK (xS rfl (xS rfl (xS rfl (xS rfl (xS rfl (xS rfl (Fr.le_refl _))))))))) ?_)
                          refine g_ret2 Try.func24 rfl rfl rfl ?_
                          exact ⟨_, rfl, hw.xQ⟩
end Go.Proofs.Ytlgpdglnfjndhaa
