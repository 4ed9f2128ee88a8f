/-
  Nodes that are copied.
-/
import Derived.Test.YtlgpdglnfjndhaaN06
namespace Go.Proofs.Ytlgpdglnfjndhaa
set_option maxRecDepth 8000
set_option linter.unusedSimpArgs false
set_option linter.unusedVariables false
open Go Xe
theorem els_flat {α : Type} {R : Rd α} {sz : Nat} {g : Hp} {f : α → List Value} (hf : ∀ (g : Hp) (cs : List Value) (x : α), R g cs x → cs = f x) : ∀ {xs : List α} {cells : List Value}, Els R sz g cells xs → cells = xs.flatMap f
  | [], cells, h => List.eq_nil_of_length_eq_zero (by simpa using h.1)
  | x :: xs, cells, h => by
    have h1 := h.2 0 x rfl
    have h2 := h.drop 1
    rw [Nat.zero_mul, List.drop_zero] at h1
    rw [Nat.one_mul, List.drop_succ_cons, List.drop_zero] at h2
    rw [List.flatMap_cons, ← els_flat hf h2, ← hf _ _ _ h1, List.take_append_drop]
theorem els_of {α : Type} {R : Rd α} {sz : Nat} {g : Hp} {f : α → List Value} (hl : ∀ x, (f x).length = sz) : ∀ {xs : List α}, (∀ x ∈ xs, R g (f x) x) → Els R sz g (xs.flatMap f) xs
  | [], _ => .nil
  | x :: xs, h => by
    rw [List.flatMap_cons]
    exact (Els.one (hl x) (h x (by simp))).append (els_of hl (fun y hy => h y (by simp [hy])))
theorem flat_Vn (g : Hp) (cs : List Value) (x : Vn) (h : rdVn g cs x) : cs = x.cells := h.1
theorem flat_Kd (g : Hp) (cs : List Value) (x : Kd) (h : rdKd g cs x) : cs = x.cells := h.1
@[reducible] def VnsAt (v : Value) (xs : List Vn) : As := OwnSl 136 3 v xs.length (xs.flatMap Vn.cells)
@[reducible] def KdsAt (v : Value) (xs : List Kd) : As := OwnSl 101 5 v xs.length (xs.flatMap Kd.cells)
theorem cloneVns_calls {E : Env} {w : World} {L : List As} {g : Hp} {v : Value} {xs : List Vn} (hv1 : (rdSl 40 3 rdVn) g [v] xs) (hw : Sat E w (RO g :: L)) :
    Calls Try.prog 75 #[v] w fun e w' => ∃ v, e = .returned v ∧ Sat E w' (VnsAt v xs :: RO g :: L) := by
  obtain ⟨a1, n1, k1, rfl⟩ := rdSl_shape hv1
  obtain ⟨rfl, hle, hm, hb, cells, hels, hsrc⟩ := rdSl_cells hv1
  have hlen := hels.len
  have hone := hels.ones one_Vn
  have hfl := els_flat flat_Vn hels
  simp only [reachBytes] at hb
  simp only [maxLen] at hm
  refine calls_of_g (n := 8) Try.func75 rfl rfl rfl ?_
  change G _ _ _ _ _ [(0, _)] _
  refine g_seq ?_
  refine g_region ?_
  refine xV rfl rfl rfl (v_assign rfl) ?_
  refine rl_nil (g_le (xK (Fr.le_refl _)) ?_)
  refine g_seq (g_seq ?_)
  refine g_region ?_
  refine xV rfl rfl rfl (v_move rfl) ?_
  refine xV rfl rfl rfl (v_eqlSlNil T.sl_124_136_3 rfl rfl) ?_
  refine rl_nil (g_le (xK (xS rfl (Fr.le_refl _))) ?_)
  refine g_cond rfl (fun h1 => ?_) (fun h1 => ?_)
  · try with_reducible exact ft_elim h1
    all_goals
      try replace h1 := of_decide_eq_true h1
      have h0 : xs.length = 0 := by (rcases hsrc with h | ⟨b, o, h, _⟩ <;> first | exact h | (subst h; cases h1))
      refine g_seq ?_
      refine g_region ?_
      refine xV rfl rfl rfl (v_assign rfl) ?_
      refine rl_nil (g_le (xK (Fr.le_refl _)) ?_)
      refine g_ret1 Try.func75 rfl rfl ?_
      refine ⟨_, rfl, ?_⟩
      have hx := List.eq_nil_of_length_eq_zero h0
      subst hx
      exact hw.own_nil _ _
  · try with_reducible exact tf_elim h1
    all_goals
      try replace h1 := of_decide_eq_false h1
      refine g_skip (g_seq ?_)
      refine g_region ?_
      refine rl_k rfl (k_buildSlice0 hw T.sl_124_136_3 T.zero_136 rfl (fun bk3_0 w hw => ?_))
      refine xV rfl rfl rfl (v_move rfl) ?_
      refine rl_k rfl (k_appendS hw T.sl_124_136_3 T.zero_136 T.bytes_136_40 rfl (by decide) rfl rfl (by (repeat first | with_reducible exact xH | apply xT); first | done | fail) (by assumption) (by exact ro_src hw (by (repeat first | with_reducible exact xH | apply xT); first | done | fail) (by assumption) (by assumption)) (by assumption) (by omega) (by simp only [maxLen] at *; omega) rfl (fun vv3_2 w hw hnil => ?_))
      rw [Nat.zero_add, List.nil_append, hfl] at hw
      refine xV rfl rfl rfl (v_assign rfl) ?_
      refine rl_nil (g_le (xK (xS rfl (xS rfl (xS rfl (Fr.le_refl _))))) ?_)
      refine g_ret1 Try.func75 rfl rfl ?_
      exact ⟨_, rfl, hw.xQ⟩
theorem cloneKds_calls {E : Env} {w : World} {L : List As} {g : Hp} {v : Value} {xs : List Kd} (hv1 : (rdSl 48 5 rdKd) g [v] xs) (hw : Sat E w (RO g :: L)) :
    Calls Try.prog 74 #[v] w fun e w' => ∃ v, e = .returned v ∧ Sat E w' (KdsAt v xs :: RO g :: L) := by
  obtain ⟨a1, n1, k1, rfl⟩ := rdSl_shape hv1
  obtain ⟨rfl, hle, hm, hb, cells, hels, hsrc⟩ := rdSl_cells hv1
  have hlen := hels.len
  have hone := hels.ones one_Kd
  have hfl := els_flat flat_Kd hels
  simp only [reachBytes] at hb
  simp only [maxLen] at hm
  refine calls_of_g (n := 8) Try.func74 rfl rfl rfl ?_
  change G _ _ _ _ _ [(0, _)] _
  refine g_seq ?_
  refine g_region ?_
  refine xV rfl rfl rfl (v_assign rfl) ?_
  refine rl_nil (g_le (xK (Fr.le_refl _)) ?_)
  refine g_seq (g_seq ?_)
  refine g_region ?_
  refine xV rfl rfl rfl (v_move rfl) ?_
  refine xV rfl rfl rfl (v_eqlSlNil T.sl_46_101_5 rfl rfl) ?_
  refine rl_nil (g_le (xK (xS rfl (Fr.le_refl _))) ?_)
  refine g_cond rfl (fun h1 => ?_) (fun h1 => ?_)
  · try with_reducible exact ft_elim h1
    all_goals
      try replace h1 := of_decide_eq_true h1
      have h0 : xs.length = 0 := by (rcases hsrc with h | ⟨b, o, h, _⟩ <;> first | exact h | (subst h; cases h1))
      refine g_seq ?_
      refine g_region ?_
      refine xV rfl rfl rfl (v_assign rfl) ?_
      refine rl_nil (g_le (xK (Fr.le_refl _)) ?_)
      refine g_ret1 Try.func74 rfl rfl ?_
      refine ⟨_, rfl, ?_⟩
      have hx := List.eq_nil_of_length_eq_zero h0
      subst hx
      exact hw.own_nil _ _
  · try with_reducible exact tf_elim h1
    all_goals
      try replace h1 := of_decide_eq_false h1
      refine g_skip (g_seq ?_)
      refine g_region ?_
      refine rl_k rfl (k_buildSlice0 hw T.sl_46_101_5 T.zero_101 rfl (fun bk3_0 w hw => ?_))
      refine xV rfl rfl rfl (v_move rfl) ?_
      refine rl_k rfl (k_appendS hw T.sl_46_101_5 T.zero_101 T.bytes_101_48 rfl (by decide) rfl rfl (by (repeat first | with_reducible exact xH | apply xT); first | done | fail) (by assumption) (by exact ro_src hw (by (repeat first | with_reducible exact xH | apply xT); first | done | fail) (by assumption) (by assumption)) (by assumption) (by omega) (by simp only [maxLen] at *; omega) rfl (fun vv3_2 w hw hnil => ?_))
      rw [Nat.zero_add, List.nil_append, hfl] at hw
      refine xV rfl rfl rfl (v_assign rfl) ?_
      refine rl_nil (g_le (xK (xS rfl (xS rfl (xS rfl (Fr.le_refl _))))) ?_)
      refine g_ret1 Try.func74 rfl rfl ?_
      exact ⟨_, rfl, hw.xQ⟩
/-- The cells of secrets whose versions lie at vs. -/
def enCells : List En → List Value → List Value
  | e :: es, v :: vs => .string e.name :: v :: enCells es vs
  | _, _ => []
theorem enCells_snoc : ∀ {es : List En} {vs : List Value} {e : En} {v : Value}, es.length = vs.length → enCells (es ++ [e]) (vs ++ [v]) = enCells es vs ++ [.string e.name, v]
  | [], [], _, _, _ => rfl
  | e :: es, v :: vs, _, _, h => by simp only [List.cons_append, enCells]; rw [enCells_snoc (by simpa using h)]
  | [], _ :: _, _, _, h => by simp at h
  | _ :: _, [], _, _, h => by simp at h
theorem enCells_len : ∀ {es : List En} {vs : List Value}, es.length = vs.length → (enCells es vs).length = es.length * 2
  | [], [], _ => rfl
  | e :: es, v :: vs, h => by simp only [enCells, List.length_cons]; rw [enCells_len (by simpa using h)]; omega
  | [], _ :: _, h => by simp at h
  | _ :: _, [], h => by simp at h
@[reducible] def VnsOf : Value → En → As := fun v e => VnsAt v e.versions
theorem nd_snoc {E : Env} {w : World} {L : List As} {es : List En} {vs : List Value} {e : En} {v : Value} (h : Sat E w (VnsAt v e.versions :: eachOf VnsOf vs es :: L)) :
    Sat E w (eachOf VnsOf (vs ++ [v]) (es ++ [e]) :: L) := Sat.each_snoc (A := VnsOf) h
theorem ord_f50_r1_N06c : orderOfB Try.f50 1 [7] (.a 0 (.a 2 (.v 1 (.v 3 (.b2 4 6 (.a 5 (.k 6 (.k 7 .done))) (.k 4 (.k 5 (.k 7 .done)))))))) = true := by kernel_rfl
theorem ord_f50_r5_N06c : orderOfB Try.f50 5 [9, 11] (.a 0 (.a 2 (.a 4 (.v 1 (.v 3 (.k 5 (.k 6 (.k 7 (.k 8 (.k 9 (.k 10 (.k 11 .done)))))))))))) = true := by kernel_rfl
theorem cloneNd_calls {E : Env} {w : World} {L : List As} {g : Hp} {cs : List Value} {x : Nd} (h1 : rdNd g cs x) (hw : Sat E w (RO g :: L)) :
    Calls Try.prog 50 #[.agg cs.toArray] w fun e w' => ∃ ev kv vs, e = .returned (.agg #[.bool x.leaf, ev, kv]) ∧ Sat E w' (OwnSl 126 2 ev (x).entries.length (enCells (x).entries vs) :: eachOf VnsOf vs (x).entries :: KdsAt kv (x).kids :: RO g :: L) := by
  obtain ⟨c0, c1, c2, rfl, e0, he1, hk1⟩ := h1
  simp only [rdBool, List.cons.injEq, and_true] at e0
  subst e0
  obtain ⟨a1, n1, k1, rfl⟩ := rdSl_shape he1
  obtain ⟨rfl, hb1, hc1, hm1, g1⟩ := rdSl_get he1
  simp only [reachBytes] at hb1
  refine calls_of_g (n := 32) Try.func50 rfl rfl rfl ?_
  change G _ _ _ _ _ [(0, _)] _
  refine g_seq ?_
  refine g_region ?_
  refine rl_k rfl (k_box hw rfl rfl rfl (fun bk0_0 w hw => ?_))
  refine rl_k rfl (k_alloc hw T.zero_48 rfl rfl (fun bk0_1 w hw => ?_))
  refine rl_nil (g_le (xK (xK (Fr.le_refl _))) ?_)
  refine g_seq ?_
  refine g_drawR ord_f50_r1_N06c (by kernel_rfl) T.mixed hw (fun w hw => ?_)
  refine rs_a 0 rfl rfl rfl rfl (v_fieldAddr0 T.fld_48_0_0 rfl) ?_
  refine rs_a 2 rfl rfl rfl rfl (v_fieldAddr0 T.fld_48_2_2 rfl) ?_
  refine rs_v 1 rfl rfl rfl rfl (OpV.mono (v_load T.scal_4 rfl) (fun w hw => by exact sat_cell hw (by (repeat first | with_reducible exact xH | apply xT); first | done | fail) rfl)) (by exact hw) ?_
  refine rs_v 3 rfl rfl rfl rfl (OpV.mono (v_load T.scal_46 rfl) (fun w hw => by exact sat_cell hw (by (repeat first | with_reducible exact xH | apply xT); first | done | fail) rfl)) (by exact hw) ?_
  refine rs_b2 4 6 rfl rfl rfl rfl ?_ ?_ 
  · skip
    refine (k_callf Try.func74 rfl rfl rfl rfl ?_)
    refine Calls.mono (cloneKds_calls hk1 (hw.xP)) ?_
    rintro _ w ⟨kv, rfl, hw⟩
    obtain ⟨va, vc, rfl, _, _, _⟩ := hw.own_shape
    refine ⟨_, rfl, ?_⟩
    refine ⟨fun _ => (by exact Sat.sub hw (by (repeat (first | with_reducible exact Sub.refl _ | exact Sub.nil _ | (apply Sub.cons; focus ((repeat (first | with_reducible exact Pick.here _ | apply Pick.there)); (first | done | fail))) | with_reducible apply Sub.drop)); first | done | fail)), ?_⟩
    refine rs_a 5 rfl rfl rfl rfl (v_build rfl (T.build_48_0_2 ..)) ?_
    refine rs_k 6 rfl rfl (k_alloc hw T.zero_48 rfl rfl (fun bk1_6 w hw => ?_))
    refine ⟨fun _ => (by exact Sat.sub hw (by (repeat (first | with_reducible exact Sub.refl _ | exact Sub.nil _ | (apply Sub.cons; focus ((repeat (first | with_reducible exact Pick.here _ | apply Pick.there)); (first | done | fail))) | with_reducible apply Sub.drop)); first | done | fail)), ?_⟩
    refine rs_k 7 rfl rfl (k_storeWhole hw T.agg_48_3 rfl rfl (by simp [Value.oneCell']) rfl (by (repeat first | with_reducible exact xH | apply xT); first | done | fail) rfl (fun w hw => ?_))
    refine ⟨fun hn => absurd (by decide) hn, ?_⟩
    refine rs_done (g_le (xK (xS rfl (xS rfl (xS rfl (xS rfl (xS rfl (xS rfl (Fr.le_refl _)))))))) ?_)
    refine g_seq (g_seq ?_)
    refine g_region ?_
    refine xV rfl rfl rfl (v_fieldAddr0 T.fld_48_1_1 rfl) ?_
    refine rl_v rfl rfl rfl (by exact sat_cell hw (by (repeat first | with_reducible exact xH | apply xT); first | done | fail) rfl) (v_load T.scal_45 rfl) ?_
    refine xV rfl rfl rfl (v_lenSlice T.sl_45_126_2 rfl) ?_
    refine xV rfl rfl rfl (v_move rfl) ?_
    refine rl_nil (g_le (xK (xK (xK (xS rfl (Fr.le_refl _))))) ?_)
    refine g_block ?_
    refine g_loopC (σ := Int × Value × List Value) (fun C x => (15, .int .i64 x.1) :: C) [(2, _), (3, _), (13, _), (14, _)] (by repeat (first | exact Fr.le_nil _ | refine Fr.le_cons rfl ?_)) (fun z w => 0 ≤ z.1 ∧ z.1 ≤ x.entries.length ∧ z.2.2.length = z.1.toNat ∧ Sat E w (pt bk1_6 (.cells [.bool x.leaf, z.2.1, .slice va x.kids.length vc].toArray 48 (0, 0)) :: pt bk0_1 (.cells [.bool false, .slice none 0 0, .slice none 0 0].toArray 48 (0, 0)) :: OwnSl 126 2 z.2.1 z.1.toNat (enCells (x.entries.take z.1.toNat) z.2.2) :: eachOf VnsOf z.2.2 (x.entries.take z.1.toNat) :: KdsAt (.slice va x.kids.length vc) x.kids :: RO g :: L)) (fun z => (x.entries.length - z.1).toNat) ?_ (0, .slice none 0 0, []) (by repeat (first | exact Fr.le_nil _ | refine Fr.le_cons rfl ?_)) ⟨by simp, by simp, by simp, by simp only [Int.toNat_zero, List.take_zero, enCells]; exact ((hw.each_nil (A := VnsOf)).own_nil 126 2).xQ⟩
    rintro ⟨i, ev, vs⟩ w ⟨hi0, hi1, hvl, hw⟩ ih
    dsimp only at hi0 hi1 hvl hw ⊢
    refine g_seq ?_
    refine g_region ?_
    refine xV rfl rfl rfl (v_lss rfl rfl) ?_
    refine rl_nil (g_le (xK (Fr.le_refl _)) ?_)
    refine g_seq ?_
    refine g_cond rfl (fun h1 => ?_) (fun h1 => ?_)
    · try with_reducible exact ft_elim h1
      all_goals
        try replace h1 := of_decide_eq_true h1
        refine g_skip (g_seq (g_block (g_seq ?_)))
        have hz := hw
        clear hw
        obtain ⟨b4, o1, p, ecs, rfl, hx, hat1, hl1, hr1⟩ := g1 i hi0 (by omega)
        obtain ⟨q0, q1, rfl, ⟨p0, _⟩, p1⟩ := id hr1
        simp only [List.cons.injEq, and_true] at p0
        subst p0
        obtain ⟨qa, qn, qc, rfl⟩ := rdSl_shape p1
        have hw := hz
        obtain ⟨eva, evc, rfl, _, _, _⟩ := (hw.pick .at2).own_shape
        refine g_region ?_
        refine xV rfl rfl rfl (v_indexAddr T.sl_45_126_2 rfl rfl (by omega) (by omega)) ?_
        refine rl_v rfl rfl rfl (by exact ro_ats hw (by (repeat first | with_reducible exact xH | apply xT); first | done | fail) (by assumption)) (v_loadAgg (vs := [_, _]) T.agg_126_2 rfl rfl) ?_
        refine rl_k rfl (k_alloc hw T.zero_126 rfl rfl (fun bk4_2 w hw => ?_))
        refine rl_k rfl (k_storeWhole hw T.agg_126_2 rfl rfl (by simp [Value.oneCell']) rfl (by (repeat first | with_reducible exact xH | apply xT); first | done | fail) rfl (fun w hw => ?_))
        refine rl_nil (g_le (xK (xK (xK (Fr.le_refl _)))) ?_)
        refine g_drawR ord_f50_r5_N06c (by kernel_rfl) T.mixed hw (fun w hw => ?_)
        refine rs_a 0 rfl rfl rfl rfl (v_fieldAddr0 T.fld_48_1_1 rfl) ?_
        refine rs_a 2 rfl rfl rfl rfl (v_fieldAddr0 T.fld_126_0_0 rfl) ?_
        refine rs_a 4 rfl rfl rfl rfl (v_fieldAddr0 T.fld_126_1_1 rfl) ?_
        refine rs_v 1 rfl rfl rfl rfl (OpV.mono (v_load T.scal_45 rfl) (fun w hw => by exact sat_cell hw (by (repeat first | with_reducible exact xH | apply xT); first | done | fail) rfl)) (by exact hw) ?_
        refine rs_v 3 rfl rfl rfl rfl (OpV.mono (v_load T.scal_9 rfl) (fun w hw => by exact sat_cell hw (by (repeat first | with_reducible exact xH | apply xT); first | done | fail) rfl)) (by exact hw) ?_
        refine rs_kv 5 rfl rfl rfl rfl (by exact sat_cell hw (by (repeat first | with_reducible exact xH | apply xT); first | done | fail) rfl) (v_load T.scal_124 rfl) ?_
        refine rs_k 6 rfl rfl (k_callf Try.func75 rfl rfl rfl rfl ?_)
        refine Calls.mono (cloneVns_calls p1 (hw.xP)) ?_
        rintro _ w ⟨v, rfl, hw⟩
        obtain ⟨va', vc', rfl, _, _, _⟩ := hw.own_shape
        refine ⟨_, rfl, ?_⟩
        refine ⟨fun _ => (by exact Sat.sub hw (by (repeat (first | with_reducible exact Sub.refl _ | exact Sub.nil _ | (apply Sub.cons; focus ((repeat (first | with_reducible exact Pick.here _ | apply Pick.there)); (first | done | fail))) | with_reducible apply Sub.drop)); first | done | fail)), ?_⟩
        refine rs_kv 7 rfl rfl rfl rfl (S' := fun _ => True) trivial (v_build rfl (T.build_126_0_1 ..)) ?_
        refine rs_k 8 rfl rfl (k_buildSlice (cells := [_, _]) hw T.sl_45_126_2 T.zero_126 rfl rfl rfl rfl rfl rfl (fun bk5_8 w hw => ?_))
        refine ⟨fun _ => (by exact Sat.sub hw (by (repeat (first | with_reducible exact Sub.refl _ | exact Sub.nil _ | (apply Sub.cons; focus ((repeat (first | with_reducible exact Pick.here _ | apply Pick.there)); (first | done | fail))) | with_reducible apply Sub.drop)); first | done | fail)), ?_⟩
        refine rs_k 9 rfl rfl (k_append (news := [_, _]) hw T.sl_45_126_2 T.zero_126 T.bytes_126_40 rfl (by decide) rfl rfl (by (repeat first | with_reducible exact xH | apply xT); first | done | fail) rfl (by exact sat_cells hw (by (repeat first | with_reducible exact xH | apply xT); first | done | fail) ⟨rfl, rfl, trivial⟩) (by simp [Value.oneCell']) (by omega) (by simp only [maxLen]; omega) rfl (fun vv5_9 w hw hnil => ?_))
        refine ⟨fun hn => absurd (by decide) hn, ?_⟩
        obtain ⟨ea2, ec2, rfl, _, _, _⟩ := hw.own_shape
        refine rs_kv 10 rfl rfl rfl rfl (S' := fun _ => True) trivial (v_fieldAddr0 T.fld_48_1_1 rfl) ?_
        refine rs_k 11 rfl rfl (k_store hw T.scal_45 rfl rfl rfl (by (repeat first | with_reducible exact xH | apply xT); first | done | fail) rfl (by simp only [List.set, Int.reduceToNat, Nat.reduceMul, Nat.reduceAdd]; rfl) (fun w hw => ?_))
        refine ⟨fun hn => absurd (by decide) hn, ?_⟩
        refine rs_done (g_le (xK (xK (xK (xK (xK (xK (xK (xK (xK (xK (xK (Fr.le_refl _)))))))))))) ?_)
        refine g_inBlock ?_
        refine g_region ?_
        refine xV rfl rfl rfl (v_add rfl rfl (by omega)) ?_
        refine xV rfl rfl rfl (v_move rfl) ?_
        refine rl_nil (g_le (xK (xK (Fr.le_refl _))) ?_)
        have htk : x.entries.take (i + 1).toNat = x.entries.take i.toNat ++ [p] := by rw [show (i + 1).toNat = i.toNat + 1 by omega, List.take_add_one, hx]; rfl
        exact g_le (by repeat (first | exact Fr.le_nil _ | refine Fr.le_cons rfl ?_)) (ih (i + 1, .slice ea2 (i.toNat + 1) ec2, vs ++ [.slice va' p.versions.length vc']) w ⟨by simp only; omega, by simp only; omega, by simp [hvl]; omega, by dsimp only; rw [htk, enCells_snoc (by rw [List.length_take, hvl]; omega), show (i + 1).toNat = i.toNat + 1 by omega]; exact (nd_snoc (hw.xQ)).xQ⟩ (by simp only; omega))
    · try with_reducible exact tf_elim h1
      all_goals
        try replace h1 := of_decide_eq_false h1
        refine g_exit rfl (g_seq ?_)
        obtain ⟨eva, evc, rfl, _, _, _⟩ := (hw.pick .at2).own_shape
        refine g_region ?_
        refine rl_v rfl rfl rfl (by exact sat_cells hw (by (repeat first | with_reducible exact xH | apply xT); first | done | fail) ⟨rfl, rfl, rfl, trivial⟩) (v_loadAgg (vs := [_, _, _]) T.agg_48_3 rfl rfl) ?_
        refine rl_k rfl (k_storeWhole hw T.agg_48_3 rfl rfl (by simp [Value.oneCell']) rfl (by (repeat first | with_reducible exact xH | apply xT); first | done | fail) rfl (fun w hw => ?_))
        refine rl_nil (g_le (xS rfl (Fr.le_refl _)) ?_)
        refine g_resC Try.func50 rfl ⟨_, rfl, holds_agg (vs := [_, _, _]) T.agg_48_3 rfl (by exact sat_cells hw (by (repeat first | with_reducible exact xH | apply xT); first | done | fail) ⟨rfl, rfl, rfl, trivial⟩)⟩ ?_
        have hi : i.toNat = x.entries.length := by omega
        rw [hi, List.take_length] at hw
        rw [hi]
        exact ⟨_, _, _, rfl, hw.xQ⟩
  · skip
    refine (k_alloc hw T.zero_48 rfl rfl (fun bk1_6 w hw => ?_))
    refine ⟨fun _ => (by exact Sat.sub hw (by (repeat (first | with_reducible exact Sub.refl _ | exact Sub.nil _ | (apply Sub.cons; focus ((repeat (first | with_reducible exact Pick.here _ | apply Pick.there)); (first | done | fail))) | with_reducible apply Sub.drop)); first | done | fail)), ?_⟩
    refine rs_k 4 rfl rfl (k_callf Try.func74 rfl rfl rfl rfl ?_)
    refine Calls.mono (cloneKds_calls hk1 (hw.xP)) ?_
    rintro _ w ⟨kv, rfl, hw⟩
    obtain ⟨va, vc, rfl, _, _, _⟩ := hw.own_shape
    refine ⟨_, rfl, ?_⟩
    refine ⟨fun _ => (by exact Sat.sub hw (by (repeat (first | with_reducible exact Sub.refl _ | exact Sub.nil _ | (apply Sub.cons; focus ((repeat (first | with_reducible exact Pick.here _ | apply Pick.there)); (first | done | fail))) | with_reducible apply Sub.drop)); first | done | fail)), ?_⟩
    refine rs_kv 5 rfl rfl rfl rfl (S' := fun _ => True) trivial (v_build rfl (T.build_48_0_2 ..)) ?_
    refine rs_k 7 rfl rfl (k_storeWhole hw T.agg_48_3 rfl rfl (by simp [Value.oneCell']) rfl (by (repeat first | with_reducible exact xH | apply xT); first | done | fail) rfl (fun w hw => ?_))
    refine ⟨fun hn => absurd (by decide) hn, ?_⟩
    refine rs_done (g_le (xS rfl (xS rfl (xK (xS rfl (xS rfl (xS rfl (xS rfl (Fr.le_refl _)))))))) ?_)
    refine g_seq (g_seq ?_)
    refine g_region ?_
    refine xV rfl rfl rfl (v_fieldAddr0 T.fld_48_1_1 rfl) ?_
    refine rl_v rfl rfl rfl (by exact sat_cell hw (by (repeat first | with_reducible exact xH | apply xT); first | done | fail) rfl) (v_load T.scal_45 rfl) ?_
    refine xV rfl rfl rfl (v_lenSlice T.sl_45_126_2 rfl) ?_
    refine xV rfl rfl rfl (v_move rfl) ?_
    refine rl_nil (g_le (xK (xK (xK (xS rfl (Fr.le_refl _))))) ?_)
    refine g_block ?_
    refine g_loopC (σ := Int × Value × List Value) (fun C x => (15, .int .i64 x.1) :: C) [(2, _), (3, _), (13, _), (14, _)] (by repeat (first | exact Fr.le_nil _ | refine Fr.le_cons rfl ?_)) (fun z w => 0 ≤ z.1 ∧ z.1 ≤ x.entries.length ∧ z.2.2.length = z.1.toNat ∧ Sat E w (pt bk1_6 (.cells [.bool x.leaf, z.2.1, .slice va x.kids.length vc].toArray 48 (0, 0)) :: pt bk0_1 (.cells [.bool false, .slice none 0 0, .slice none 0 0].toArray 48 (0, 0)) :: OwnSl 126 2 z.2.1 z.1.toNat (enCells (x.entries.take z.1.toNat) z.2.2) :: eachOf VnsOf z.2.2 (x.entries.take z.1.toNat) :: KdsAt (.slice va x.kids.length vc) x.kids :: RO g :: L)) (fun z => (x.entries.length - z.1).toNat) ?_ (0, .slice none 0 0, []) (by repeat (first | exact Fr.le_nil _ | refine Fr.le_cons rfl ?_)) ⟨by simp, by simp, by simp, by simp only [Int.toNat_zero, List.take_zero, enCells]; exact ((hw.each_nil (A := VnsOf)).own_nil 126 2).xQ⟩
    rintro ⟨i, ev, vs⟩ w ⟨hi0, hi1, hvl, hw⟩ ih
    dsimp only at hi0 hi1 hvl hw ⊢
    refine g_seq ?_
    refine g_region ?_
    refine xV rfl rfl rfl (v_lss rfl rfl) ?_
    refine rl_nil (g_le (xK (Fr.le_refl _)) ?_)
    refine g_seq ?_
    refine g_cond rfl (fun h1 => ?_) (fun h1 => ?_)
    · try with_reducible exact ft_elim h1
      all_goals
        try replace h1 := of_decide_eq_true h1
        refine g_skip (g_seq (g_block (g_seq ?_)))
        have hz := hw
        clear hw
        obtain ⟨b4, o1, p, ecs, rfl, hx, hat1, hl1, hr1⟩ := g1 i hi0 (by omega)
        obtain ⟨q0, q1, rfl, ⟨p0, _⟩, p1⟩ := id hr1
        simp only [List.cons.injEq, and_true] at p0
        subst p0
        obtain ⟨qa, qn, qc, rfl⟩ := rdSl_shape p1
        have hw := hz
        obtain ⟨eva, evc, rfl, _, _, _⟩ := (hw.pick .at2).own_shape
        refine g_region ?_
        refine xV rfl rfl rfl (v_indexAddr T.sl_45_126_2 rfl rfl (by omega) (by omega)) ?_
        refine rl_v rfl rfl rfl (by exact ro_ats hw (by (repeat first | with_reducible exact xH | apply xT); first | done | fail) (by assumption)) (v_loadAgg (vs := [_, _]) T.agg_126_2 rfl rfl) ?_
        refine rl_k rfl (k_alloc hw T.zero_126 rfl rfl (fun bk4_2 w hw => ?_))
        refine rl_k rfl (k_storeWhole hw T.agg_126_2 rfl rfl (by simp [Value.oneCell']) rfl (by (repeat first | with_reducible exact xH | apply xT); first | done | fail) rfl (fun w hw => ?_))
        refine rl_nil (g_le (xK (xK (xK (Fr.le_refl _)))) ?_)
        refine g_drawR ord_f50_r5_N06c (by kernel_rfl) T.mixed hw (fun w hw => ?_)
        refine rs_a 0 rfl rfl rfl rfl (v_fieldAddr0 T.fld_48_1_1 rfl) ?_
        refine rs_a 2 rfl rfl rfl rfl (v_fieldAddr0 T.fld_126_0_0 rfl) ?_
        refine rs_a 4 rfl rfl rfl rfl (v_fieldAddr0 T.fld_126_1_1 rfl) ?_
        refine rs_v 1 rfl rfl rfl rfl (OpV.mono (v_load T.scal_45 rfl) (fun w hw => by exact sat_cell hw (by (repeat first | with_reducible exact xH | apply xT); first | done | fail) rfl)) (by exact hw) ?_
        refine rs_v 3 rfl rfl rfl rfl (OpV.mono (v_load T.scal_9 rfl) (fun w hw => by exact sat_cell hw (by (repeat first | with_reducible exact xH | apply xT); first | done | fail) rfl)) (by exact hw) ?_
        refine rs_kv 5 rfl rfl rfl rfl (by exact sat_cell hw (by (repeat first | with_reducible exact xH | apply xT); first | done | fail) rfl) (v_load T.scal_124 rfl) ?_
        refine rs_k 6 rfl rfl (k_callf Try.func75 rfl rfl rfl rfl ?_)
        refine Calls.mono (cloneVns_calls p1 (hw.xP)) ?_
        rintro _ w ⟨v, rfl, hw⟩
        obtain ⟨va', vc', rfl, _, _, _⟩ := hw.own_shape
        refine ⟨_, rfl, ?_⟩
        refine ⟨fun _ => (by exact Sat.sub hw (by (repeat (first | with_reducible exact Sub.refl _ | exact Sub.nil _ | (apply Sub.cons; focus ((repeat (first | with_reducible exact Pick.here _ | apply Pick.there)); (first | done | fail))) | with_reducible apply Sub.drop)); first | done | fail)), ?_⟩
        refine rs_kv 7 rfl rfl rfl rfl (S' := fun _ => True) trivial (v_build rfl (T.build_126_0_1 ..)) ?_
        refine rs_k 8 rfl rfl (k_buildSlice (cells := [_, _]) hw T.sl_45_126_2 T.zero_126 rfl rfl rfl rfl rfl rfl (fun bk5_8 w hw => ?_))
        refine ⟨fun _ => (by exact Sat.sub hw (by (repeat (first | with_reducible exact Sub.refl _ | exact Sub.nil _ | (apply Sub.cons; focus ((repeat (first | with_reducible exact Pick.here _ | apply Pick.there)); (first | done | fail))) | with_reducible apply Sub.drop)); first | done | fail)), ?_⟩
        refine rs_k 9 rfl rfl (k_append (news := [_, _]) hw T.sl_45_126_2 T.zero_126 T.bytes_126_40 rfl (by decide) rfl rfl (by (repeat first | with_reducible exact xH | apply xT); first | done | fail) rfl (by exact sat_cells hw (by (repeat first | with_reducible exact xH | apply xT); first | done | fail) ⟨rfl, rfl, trivial⟩) (by simp [Value.oneCell']) (by omega) (by simp only [maxLen]; omega) rfl (fun vv5_9 w hw hnil => ?_))
        refine ⟨fun hn => absurd (by decide) hn, ?_⟩
        obtain ⟨ea2, ec2, rfl, _, _, _⟩ := hw.own_shape
        refine rs_kv 10 rfl rfl rfl rfl (S' := fun _ => True) trivial (v_fieldAddr0 T.fld_48_1_1 rfl) ?_
        refine rs_k 11 rfl rfl (k_store hw T.scal_45 rfl rfl rfl (by (repeat first | with_reducible exact xH | apply xT); first | done | fail) rfl (by simp only [List.set, Int.reduceToNat, Nat.reduceMul, Nat.reduceAdd]; rfl) (fun w hw => ?_))
        refine ⟨fun hn => absurd (by decide) hn, ?_⟩
        refine rs_done (g_le (xK (xK (xK (xK (xK (xK (xK (xK (xK (xK (xK (Fr.le_refl _)))))))))))) ?_)
        refine g_inBlock ?_
        refine g_region ?_
        refine xV rfl rfl rfl (v_add rfl rfl (by omega)) ?_
        refine xV rfl rfl rfl (v_move rfl) ?_
        refine rl_nil (g_le (xK (xK (Fr.le_refl _))) ?_)
        have htk : x.entries.take (i + 1).toNat = x.entries.take i.toNat ++ [p] := by rw [show (i + 1).toNat = i.toNat + 1 by omega, List.take_add_one, hx]; rfl
        exact g_le (by repeat (first | exact Fr.le_nil _ | refine Fr.le_cons rfl ?_)) (ih (i + 1, .slice ea2 (i.toNat + 1) ec2, vs ++ [.slice va' p.versions.length vc']) w ⟨by simp only; omega, by simp only; omega, by simp [hvl]; omega, by dsimp only; rw [htk, enCells_snoc (by rw [List.length_take, hvl]; omega), show (i + 1).toNat = i.toNat + 1 by omega]; exact (nd_snoc (hw.xQ)).xQ⟩ (by simp only; omega))
    · try with_reducible exact tf_elim h1
      all_goals
        try replace h1 := of_decide_eq_false h1
        refine g_exit rfl (g_seq ?_)
        obtain ⟨eva, evc, rfl, _, _, _⟩ := (hw.pick .at2).own_shape
        refine g_region ?_
        refine rl_v rfl rfl rfl (by exact sat_cells hw (by (repeat first | with_reducible exact xH | apply xT); first | done | fail) ⟨rfl, rfl, rfl, trivial⟩) (v_loadAgg (vs := [_, _, _]) T.agg_48_3 rfl rfl) ?_
        refine rl_k rfl (k_storeWhole hw T.agg_48_3 rfl rfl (by simp [Value.oneCell']) rfl (by (repeat first | with_reducible exact xH | apply xT); first | done | fail) rfl (fun w hw => ?_))
        refine rl_nil (g_le (xS rfl (Fr.le_refl _)) ?_)
        refine g_resC Try.func50 rfl ⟨_, rfl, holds_agg (vs := [_, _, _]) T.agg_48_3 rfl (by exact sat_cells hw (by (repeat first | with_reducible exact xH | apply xT); first | done | fail) ⟨rfl, rfl, rfl, trivial⟩)⟩ ?_
        have hi : i.toNat = x.entries.length := by omega
        rw [hi, List.take_length] at hw
        rw [hi]
        exact ⟨_, _, _, rfl, hw.xQ⟩
end Go.Proofs.Ytlgpdglnfjndhaa
