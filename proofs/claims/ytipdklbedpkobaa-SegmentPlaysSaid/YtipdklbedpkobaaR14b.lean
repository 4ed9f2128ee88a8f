/-
  The document's log (letheref14): its parts, and the calls that only look.
-/
import Derived.Test.YtipdklbedpkobaaR14a
namespace Go.Proofs.Ytipdklbedpkobaa
set_option maxRecDepth 8000
set_option linter.unusedSimpArgs false
set_option linter.unusedVariables false
open Go Xe Go.Lib
theorem kget {rs : List Sg} {i : Int} {x : Sg} (h0 : 0 ≤ i) (h : rs[i.toNat]? = some x) : (rs.map fun x => Value.int .i64 x.kind)[0 + i.toNat * 1]? = some (.int .i64 x.kind) := by rw [show 0 + i.toNat * 1 = i.toNat by omega, List.getElem?_map, h]; rfl
theorem uget {rs : List Sg} {i : Int} {x : Sg} (h0 : 0 ≤ i) (h : rs[i.toNat]? = some x) : (rs.map fun x => Value.int .i64 x.used)[0 + i.toNat * 1]? = some (.int .i64 x.used) := by rw [show 0 + i.toNat * 1 = i.toNat by omega, List.getElem?_map, h]; rfl
theorem lget {rs : List Sg} {i : Int} {x : Sg} (h0 : 0 ≤ i) (h : rs[i.toNat]? = some x) : (rs.map fun x => Value.int .i64 x.live)[0 + i.toNat * 1]? = some (.int .i64 x.live) := by rw [show 0 + i.toNat * 1 = i.toNat by omega, List.getElem?_map, h]; rfl
theorem opened_calls {E : Env} {w : World} {L : List As} {q rm k1 k2 k3 c1 c2 c3 : Nat} {rs : List Sg} (hb : rs.length ≤ 4096) (hw : Sat E w (pt q (.cells [Value.pointer (some ⟨rm, 0, none⟩), .slice (some ⟨k1, 0, none⟩) (rs : List Sg).length c1, .slice (some ⟨k2, 0, none⟩) (rs : List Sg).length c2, .slice (some ⟨k3, 0, none⟩) (rs : List Sg).length c3].toArray 120 (0, 0)) :: OwnSl 3 1 (.slice (some ⟨k1, 0, none⟩) (rs).length c1) (rs).length ((rs).map fun x => Value.int .i64 x.kind) :: OwnSl 3 1 (.slice (some ⟨k2, 0, none⟩) (rs).length c2) (rs).length ((rs).map fun x => Value.int .i64 x.used) :: OwnSl 3 1 (.slice (some ⟨k3, 0, none⟩) (rs).length c3) (rs).length ((rs).map fun x => Value.int .i64 x.live) :: L)) :
    Calls Try.prog 63 #[.pointer (some ⟨q, 0, none⟩)] w fun e w' => e = .returned (.int .i64 (idx (fun x : Sg => decide (x.kind = 3)) rs 0)) ∧ Sat E w' (pt q (.cells [Value.pointer (some ⟨rm, 0, none⟩), .slice (some ⟨k1, 0, none⟩) (rs : List Sg).length c1, .slice (some ⟨k2, 0, none⟩) (rs : List Sg).length c2, .slice (some ⟨k3, 0, none⟩) (rs : List Sg).length c3].toArray 120 (0, 0)) :: OwnSl 3 1 (.slice (some ⟨k1, 0, none⟩) (rs).length c1) (rs).length ((rs).map fun x => Value.int .i64 x.kind) :: OwnSl 3 1 (.slice (some ⟨k2, 0, none⟩) (rs).length c2) (rs).length ((rs).map fun x => Value.int .i64 x.used) :: OwnSl 3 1 (.slice (some ⟨k3, 0, none⟩) (rs).length c3) (rs).length ((rs).map fun x => Value.int .i64 x.live) :: L) := by
  refine calls_of_g (n := 22) Try.func63 rfl rfl rfl ?_
  change G _ _ _ _ _ [(0, _)] _
  refine g_seq ?_
  refine g_region ?_
  refine xV rfl rfl rfl (v_assign rfl) ?_
  refine rl_nil (g_le (xK (Fr.le_refl _)) ?_)
  refine g_seq (g_seq ?_)
  refine g_region ?_
  refine xV rfl rfl rfl (v_assign rfl) ?_
  refine rl_nil (g_le (xK (Fr.le_refl _)) ?_)
  refine g_block ?_
  refine g_loopC (σ := Nat) (fun C x => (3, .int .i64 (x : Nat)) :: C) [(0, _), (2, _)] (by repeat (first | exact Fr.le_nil _ | refine Fr.le_cons rfl ?_)) (fun z w => z ≤ rs.length ∧ idx (fun x : Sg => decide (x.kind = 3)) rs 0 = idx (fun x : Sg => decide (x.kind = 3)) (rs.drop z) (z : Nat) ∧ Sat E w (pt q (.cells [Value.pointer (some ⟨rm, 0, none⟩), .slice (some ⟨k1, 0, none⟩) (rs : List Sg).length c1, .slice (some ⟨k2, 0, none⟩) (rs : List Sg).length c2, .slice (some ⟨k3, 0, none⟩) (rs : List Sg).length c3].toArray 120 (0, 0)) :: OwnSl 3 1 (.slice (some ⟨k1, 0, none⟩) (rs).length c1) (rs).length ((rs).map fun x => Value.int .i64 x.kind) :: OwnSl 3 1 (.slice (some ⟨k2, 0, none⟩) (rs).length c2) (rs).length ((rs).map fun x => Value.int .i64 x.used) :: OwnSl 3 1 (.slice (some ⟨k3, 0, none⟩) (rs).length c3) (rs).length ((rs).map fun x => Value.int .i64 x.live) :: L)) (fun z => rs.length - z) ?_ 0 (by repeat (first | exact Fr.le_nil _ | refine Fr.le_cons rfl ?_)) ⟨by simp, by simp, hw⟩
  rintro i w ⟨hi, heq, hw⟩ ih
  refine g_seq (g_seq ?_)
  refine g_region ?_
  refine xV rfl rfl rfl (v_move rfl) ?_
  refine xV rfl rfl rfl (v_move rfl) ?_
  refine xV rfl rfl rfl (v_nilCheck rfl) ?_
  refine xV rfl rfl rfl (v_fieldAddr0 T.fld_120_1_1 rfl) ?_
  refine rl_v rfl rfl rfl (by exact sat_cell hw (by (repeat first | with_reducible exact xH | apply xT); first | done | fail) rfl) (v_load T.scal_61 rfl) ?_
  refine xV rfl rfl rfl (v_lenSlice T.sl_61_3_1 rfl) ?_
  refine xV rfl rfl rfl (v_lss rfl rfl) ?_
  refine rl_nil (g_le (xK (xK (xK (xK (xK (xK (xK (Fr.le_refl _)))))))) ?_)
  refine g_cond rfl (fun h1 => ?_) (fun h1 => ?_)
  · try with_reducible exact ft_elim h1
    all_goals
      try replace h1 := of_decide_eq_true h1
      refine g_skip (g_seq (g_block (g_seq ?_)))
      have hlt : i < rs.length := by omega
      have hx : rs[((i : Nat) : Int).toNat]? = some rs[i] := by rw [Int.toNat_natCast]; exact List.getElem?_eq_getElem hlt
      rw [List.drop_eq_getElem_cons hlt] at heq
      simp only [idx] at heq
      generalize rs[i] = x at *
      have hk := kget (by omega) hx
      refine g_region ?_
      refine xV rfl rfl rfl (v_move rfl) ?_
      refine xV rfl rfl rfl (v_nilCheck rfl) ?_
      refine xV rfl rfl rfl (v_fieldAddr0 T.fld_120_1_1 rfl) ?_
      refine rl_v rfl rfl rfl (by exact sat_cell hw (by (repeat first | with_reducible exact xH | apply xT); first | done | fail) rfl) (v_load T.scal_61 rfl) ?_
      refine xV rfl rfl rfl (v_move rfl) ?_
      refine xV rfl rfl rfl (v_indexAddr T.sl_61_3_1 rfl rfl (by omega) (by omega)) ?_
      refine rl_v rfl rfl rfl (by exact own_cell hw (by (repeat first | with_reducible exact xH | apply xT); first | done | fail) (by first | rfl | assumption)) (v_load T.scal_3 rfl) ?_
      refine xV rfl rfl rfl (v_eql rfl rfl) ?_
      refine rl_nil (g_le (xK (xK (xK (xK (xK (xK (xK (xK (Fr.le_refl _))))))))) ?_)
      refine g_cond rfl (fun h2 => ?_) (fun h2 => ?_)
      · try with_reducible exact ft_elim h2
        all_goals
          try replace h2 := of_decide_eq_true h2
          refine g_seq ?_
          refine g_region ?_
          refine xV rfl rfl rfl (v_move rfl) ?_
          refine xV rfl rfl rfl (v_assign rfl) ?_
          refine rl_nil (g_le (xK (xK (Fr.le_refl _))) ?_)
          refine g_ret1 Try.func63 rfl rfl ?_
          rw [if_pos (by simpa using h2)] at heq
          exact ⟨by rw [heq], hw⟩
      · try with_reducible exact tf_elim h2
        all_goals
          try replace h2 := of_decide_eq_false h2
          refine g_skip (g_inBlock ?_)
          refine g_region ?_
          refine xV rfl rfl rfl (v_move rfl) ?_
          refine xV rfl rfl rfl (v_add rfl rfl (by omega)) ?_
          refine xV rfl rfl rfl (v_assign rfl) ?_
          refine rl_nil (g_le (xK (xK (xK (Fr.le_refl _)))) ?_)
          rw [if_neg (by simpa using h2)] at heq
          exact g_le (by repeat (first | exact Fr.le_nil _ | refine Fr.le_cons rfl ?_)) (ih (i + 1) w ⟨by omega, heq, hw⟩ (by omega))
  · try with_reducible exact tf_elim h1
    all_goals
      try replace h1 := of_decide_eq_false h1
      refine g_exit rfl (g_seq ?_)
      refine g_region ?_
      refine xV rfl rfl rfl (v_assign rfl) ?_
      refine rl_nil (g_le (xK (Fr.le_refl _)) ?_)
      refine g_ret1 Try.func63 rfl rfl ?_
      refine ⟨?_, hw⟩
      rw [heq, List.drop_eq_nil_of_le (by omega)]
      rfl
theorem rof_calls {E : Env} {w : World} {L : List As} {q rm k1 k2 k3 c1 c2 c3 : Nat} {rs : List Sg} (k : Int) (hb : rs.length ≤ 4096) (hw : Sat E w (pt q (.cells [Value.pointer (some ⟨rm, 0, none⟩), .slice (some ⟨k1, 0, none⟩) (rs : List Sg).length c1, .slice (some ⟨k2, 0, none⟩) (rs : List Sg).length c2, .slice (some ⟨k3, 0, none⟩) (rs : List Sg).length c3].toArray 120 (0, 0)) :: OwnSl 3 1 (.slice (some ⟨k1, 0, none⟩) (rs).length c1) (rs).length ((rs).map fun x => Value.int .i64 x.kind) :: OwnSl 3 1 (.slice (some ⟨k2, 0, none⟩) (rs).length c2) (rs).length ((rs).map fun x => Value.int .i64 x.used) :: OwnSl 3 1 (.slice (some ⟨k3, 0, none⟩) (rs).length c3) (rs).length ((rs).map fun x => Value.int .i64 x.live) :: L)) :
    Calls Try.prog 62 #[.pointer (some ⟨q, 0, none⟩), .int .i64 k] w fun e w' => ∃ v, e = .returned v ∧ Sat E w' (OwnSl 3 1 v (ofS k rs 0).length ((ofS k rs 0).map (Value.int .i64)) :: pt q (.cells [Value.pointer (some ⟨rm, 0, none⟩), .slice (some ⟨k1, 0, none⟩) (rs : List Sg).length c1, .slice (some ⟨k2, 0, none⟩) (rs : List Sg).length c2, .slice (some ⟨k3, 0, none⟩) (rs : List Sg).length c3].toArray 120 (0, 0)) :: OwnSl 3 1 (.slice (some ⟨k1, 0, none⟩) (rs).length c1) (rs).length ((rs).map fun x => Value.int .i64 x.kind) :: OwnSl 3 1 (.slice (some ⟨k2, 0, none⟩) (rs).length c2) (rs).length ((rs).map fun x => Value.int .i64 x.used) :: OwnSl 3 1 (.slice (some ⟨k3, 0, none⟩) (rs).length c3) (rs).length ((rs).map fun x => Value.int .i64 x.live) :: L) := by
  refine calls_of_g (n := 30) Try.func62 rfl rfl rfl ?_
  change G _ _ _ _ _ [(0, _), (1, _)] _
  refine g_seq ?_
  refine g_region ?_
  refine xV rfl rfl rfl (v_assign rfl) ?_
  refine rl_nil (g_le (xK (Fr.le_refl _)) ?_)
  refine g_seq ?_
  refine g_region ?_
  refine xV rfl rfl rfl (v_assign rfl) ?_
  refine rl_nil (g_le (xK (Fr.le_refl _)) ?_)
  refine g_seq (g_seq ?_)
  refine g_region ?_
  refine xV rfl rfl rfl (v_assign rfl) ?_
  refine rl_nil (g_le (xK (Fr.le_refl _)) ?_)
  refine g_block ?_
  refine g_loopC (σ := Nat × Value × List Int) (fun C x => (6, .int .i64 (x.1 : Nat)) :: (5, x.2.1) :: C) [(0, _), (1, _), (4, _)] (by repeat (first | exact Fr.le_nil _ | refine Fr.le_cons rfl ?_)) (fun z w => z.1 ≤ rs.length ∧ z.2.2.length ≤ z.1 ∧ ofS k rs 0 = z.2.2 ++ ofS k (rs.drop z.1) (z.1 : Nat) ∧ Sat E w (OwnSl 3 1 z.2.1 z.2.2.length (z.2.2.map (Value.int .i64)) :: pt q (.cells [Value.pointer (some ⟨rm, 0, none⟩), .slice (some ⟨k1, 0, none⟩) (rs : List Sg).length c1, .slice (some ⟨k2, 0, none⟩) (rs : List Sg).length c2, .slice (some ⟨k3, 0, none⟩) (rs : List Sg).length c3].toArray 120 (0, 0)) :: OwnSl 3 1 (.slice (some ⟨k1, 0, none⟩) (rs).length c1) (rs).length ((rs).map fun x => Value.int .i64 x.kind) :: OwnSl 3 1 (.slice (some ⟨k2, 0, none⟩) (rs).length c2) (rs).length ((rs).map fun x => Value.int .i64 x.used) :: OwnSl 3 1 (.slice (some ⟨k3, 0, none⟩) (rs).length c3) (rs).length ((rs).map fun x => Value.int .i64 x.live) :: L)) (fun z => rs.length - z.1) ?_ (0, .slice none 0 0, []) (by repeat (first | exact Fr.le_nil _ | refine Fr.le_cons rfl ?_)) ⟨by simp, by simp, by simp, hw.own_nil 3 1⟩
  rintro ⟨i, ov, acc⟩ w ⟨hi, hal, heq, hw⟩ ih
  dsimp only at hi hal heq hw ih ⊢
  refine g_seq (g_seq ?_)
  refine g_region ?_
  refine xV rfl rfl rfl (v_move rfl) ?_
  refine xV rfl rfl rfl (v_move rfl) ?_
  refine xV rfl rfl rfl (v_nilCheck rfl) ?_
  refine xV rfl rfl rfl (v_fieldAddr0 T.fld_120_1_1 rfl) ?_
  refine rl_v rfl rfl rfl (by exact sat_cell hw (by (repeat first | with_reducible exact xH | apply xT); first | done | fail) rfl) (v_load T.scal_61 rfl) ?_
  refine xV rfl rfl rfl (v_lenSlice T.sl_61_3_1 rfl) ?_
  refine xV rfl rfl rfl (v_lss rfl rfl) ?_
  refine rl_nil (g_le (xK (xK (xK (xK (xK (xK (xK (Fr.le_refl _)))))))) ?_)
  refine g_cond rfl (fun h1 => ?_) (fun h1 => ?_)
  · try with_reducible exact ft_elim h1
    all_goals
      try replace h1 := of_decide_eq_true h1
      refine g_skip (g_seq (g_block (g_seq ?_)))
      have hlt : i < rs.length := by omega
      have hx : rs[((i : Nat) : Int).toNat]? = some rs[i] := by rw [Int.toNat_natCast]; exact List.getElem?_eq_getElem hlt
      rw [List.drop_eq_getElem_cons hlt] at heq
      simp only [ofS] at heq
      generalize rs[i] = x at *
      have hk := kget (by omega) hx
      obtain ⟨oa, oc, rfl, _, _, _⟩ := hw.own_shape
      have hlo : (acc.map (Value.int .i64)).length = acc.length * 1 := by simp
      refine g_region ?_
      refine xV rfl rfl rfl (v_move rfl) ?_
      refine xV rfl rfl rfl (v_nilCheck rfl) ?_
      refine xV rfl rfl rfl (v_fieldAddr0 T.fld_120_1_1 rfl) ?_
      refine rl_v rfl rfl rfl (by exact sat_cell hw (by (repeat first | with_reducible exact xH | apply xT); first | done | fail) rfl) (v_load T.scal_61 rfl) ?_
      refine xV rfl rfl rfl (v_move rfl) ?_
      refine xV rfl rfl rfl (v_indexAddr T.sl_61_3_1 rfl rfl (by omega) (by omega)) ?_
      refine rl_v rfl rfl rfl (by exact own_cell hw (by (repeat first | with_reducible exact xH | apply xT); first | done | fail) (by first | rfl | assumption)) (v_load T.scal_3 rfl) ?_
      refine xV rfl rfl rfl (v_move rfl) ?_
      refine xV rfl rfl rfl (v_eql rfl rfl) ?_
      refine rl_nil (g_le (xK (xK (xK (xK (xK (xK (xK (xK (xK (Fr.le_refl _)))))))))) ?_)
      refine g_cond rfl (fun h2 => ?_) (fun h2 => ?_)
      · try with_reducible exact ft_elim h2
        all_goals
          try replace h2 := of_decide_eq_true h2
          rw [if_pos h2] at heq
          refine g_region ?_
          refine xV rfl rfl rfl (v_move rfl) ?_
          refine xV rfl rfl rfl (v_move rfl) ?_
          refine rl_k rfl (k_buildSlice (cells := [_]) hw T.sl_61_3_1 T.zero_3 rfl rfl rfl rfl rfl rfl (fun bk6_2 w hw => ?_))
          refine rl_k rfl (k_append (news := [_]) hw T.sl_61_3_1 T.zero_3 T.bytes_3_8 rfl (by decide) rfl rfl (by (repeat first | with_reducible exact xH | apply xT); first | done | fail) rfl (by exact sat_cells hw (by (repeat first | with_reducible exact xH | apply xT); first | done | fail) ⟨rfl, trivial⟩) (by simp [Value.oneCell']) (by omega) (by simp only [maxLen]; omega) rfl (fun vv6_3 w hw hnil => ?_))
          refine xV rfl rfl rfl (v_assign rfl) ?_
          refine rl_nil (g_le (xK (xK (xK (xK (xK (Fr.le_refl _)))))) ?_)
          refine g_inBlock ?_
          refine g_region ?_
          refine xV rfl rfl rfl (v_move rfl) ?_
          refine xV rfl rfl rfl (v_add rfl rfl (by omega)) ?_
          refine xV rfl rfl rfl (v_assign rfl) ?_
          refine rl_nil (g_le (xK (xK (xK (Fr.le_refl _)))) ?_)
          exact g_le (by repeat (first | exact Fr.le_nil _ | refine Fr.le_cons rfl ?_)) (ih (i + 1, vv6_3, acc ++ [(i : Int)]) w ⟨by simp only; omega, by simp; omega, by rw [heq, List.append_assoc]; rfl, by dsimp only; rw [List.length_append, List.length_singleton, List.map_append, List.map_cons, List.map_nil]; exact hw.xQ⟩ (by simp only; omega))
      · try with_reducible exact tf_elim h2
        all_goals
          try replace h2 := of_decide_eq_false h2
          rw [if_neg h2] at heq
          refine g_skip (g_inBlock ?_)
          refine g_region ?_
          refine xV rfl rfl rfl (v_move rfl) ?_
          refine xV rfl rfl rfl (v_add rfl rfl (by omega)) ?_
          refine xV rfl rfl rfl (v_assign rfl) ?_
          refine rl_nil (g_le (xK (xK (xK (Fr.le_refl _)))) ?_)
          exact g_le (by repeat (first | exact Fr.le_nil _ | refine Fr.le_cons rfl ?_)) (ih (i + 1, _, acc) w ⟨by simp only; omega, by simp only; omega, heq, hw.xQ⟩ (by simp only; omega))
  · try with_reducible exact tf_elim h1
    all_goals
      try replace h1 := of_decide_eq_false h1
      refine g_exit rfl (g_seq ?_)
      refine g_region ?_
      refine xV rfl rfl rfl (v_move rfl) ?_
      refine xV rfl rfl rfl (v_assign rfl) ?_
      refine rl_nil (g_le (xK (xS rfl (Fr.le_refl _))) ?_)
      refine g_ret1 Try.func62 rfl rfl ?_
      rw [List.drop_eq_nil_of_le (by omega)] at heq
      simp only [ofS, List.append_nil] at heq
      rw [heq]
      exact ⟨_, rfl, hw.xQ⟩
theorem rkind_calls {E : Env} {w : World} {L : List As} {q rm p k1 k2 k3 c1 c2 c3 : Nat} {rs : List Sg} {md : Md} (i : Int) (hb : rs.length ≤ 4096) (hl : md.segs.length = rs.length) (hw : Sat E w (pt q (.cells [Value.pointer (some ⟨rm, 0, none⟩), .slice (some ⟨k1, 0, none⟩) (rs : List Sg).length c1, .slice (some ⟨k2, 0, none⟩) (rs : List Sg).length c2, .slice (some ⟨k3, 0, none⟩) (rs : List Sg).length c3].toArray 120 (0, 0)) :: OwnSl 3 1 (.slice (some ⟨k1, 0, none⟩) (rs).length c1) (rs).length ((rs).map fun x => Value.int .i64 x.kind) :: OwnSl 3 1 (.slice (some ⟨k2, 0, none⟩) (rs).length c2) (rs).length ((rs).map fun x => Value.int .i64 x.used) :: OwnSl 3 1 (.slice (some ⟨k3, 0, none⟩) (rs).length c3) (rs).length ((rs).map fun x => Value.int .i64 x.live) :: RmAt rm p md :: L)) :
    Calls Try.prog 60 #[.pointer (some ⟨q, 0, none⟩), .int .i64 i] w fun e w' => e = .returned (.int .i64 (kindS rs i)) ∧ Sat E w' (pt q (.cells [Value.pointer (some ⟨rm, 0, none⟩), .slice (some ⟨k1, 0, none⟩) (rs : List Sg).length c1, .slice (some ⟨k2, 0, none⟩) (rs : List Sg).length c2, .slice (some ⟨k3, 0, none⟩) (rs : List Sg).length c3].toArray 120 (0, 0)) :: OwnSl 3 1 (.slice (some ⟨k1, 0, none⟩) (rs).length c1) (rs).length ((rs).map fun x => Value.int .i64 x.kind) :: OwnSl 3 1 (.slice (some ⟨k2, 0, none⟩) (rs).length c2) (rs).length ((rs).map fun x => Value.int .i64 x.used) :: OwnSl 3 1 (.slice (some ⟨k3, 0, none⟩) (rs).length c3) (rs).length ((rs).map fun x => Value.int .i64 x.live) :: RmAt rm p md :: L) := by
  unfold kindS
  by_cases hi : md.is i
  · have h1 := hi.1
    have h2 := hi.2
    rw [if_pos ⟨by omega, by omega⟩]
    have hk := kget (rs := rs) h1 (sgAt_some h1 (by omega))
    refine calls_of_g (n := 19) Try.func60 rfl rfl rfl ?_
    change G _ _ _ _ _ [(0, _), (1, _)] _
    refine g_seq ?_
    refine g_region ?_
    refine xV rfl rfl rfl (v_assign rfl) ?_
    refine rl_nil (g_le (xK (Fr.le_refl _)) ?_)
    refine g_seq (g_seq ?_)
    refine g_region ?_
    refine xV rfl rfl rfl (v_move rfl) ?_
    refine xV rfl rfl rfl (v_nilCheck rfl) ?_
    refine xV rfl rfl rfl (v_fieldAddr0 T.fld_120_0_0 rfl) ?_
    refine rl_v rfl rfl rfl (by exact sat_cell hw (by (repeat first | with_reducible exact xH | apply xT); first | done | fail) rfl) (v_load T.scal_81 rfl) ?_
    refine xV rfl rfl rfl (v_move rfl) ?_
    refine rl_k rfl (k_callf Try.func73 rfl rfl rfl rfl ?_)
    refine Calls.mono (ris_calls i (hw.xP (A := RmAt rm p md))) ?_
    rw [decide_eq_true hi]
    rintro _ w ⟨rfl, hw⟩
    refine ⟨_, rfl, ?_⟩
    refine xV rfl rfl rfl (v_not rfl) ?_
    refine rl_nil (g_le (xK (xS rfl (xS rfl (xS rfl (xS rfl (xS rfl (xS rfl (Fr.le_refl _)))))))) ?_)
    refine g_cond_false rfl ?_
    refine g_skip (g_seq ?_)
    refine g_region ?_
    refine xV rfl rfl rfl (v_move rfl) ?_
    refine xV rfl rfl rfl (v_nilCheck rfl) ?_
    refine xV rfl rfl rfl (v_fieldAddr0 T.fld_120_1_1 rfl) ?_
    refine rl_v rfl rfl rfl (by exact sat_cell hw (by (repeat first | with_reducible exact xH | apply xT); first | done | fail) rfl) (v_load T.scal_61 rfl) ?_
    refine xV rfl rfl rfl (v_move rfl) ?_
    refine xV rfl rfl rfl (v_indexAddr T.sl_61_3_1 rfl rfl (by omega) (by omega)) ?_
    refine rl_v rfl rfl rfl (by exact own_cell hw (by (repeat first | with_reducible exact xH | apply xT); first | done | fail) (by first | rfl | assumption)) (v_load T.scal_3 rfl) ?_
    refine xV rfl rfl rfl (v_assign rfl) ?_
    refine rl_nil (g_le (xK (xS rfl (xS rfl (xS rfl (xS rfl (xS rfl (xS rfl (xS rfl (Fr.le_refl _))))))))) ?_)
    refine g_ret1 Try.func60 rfl rfl ?_
    exact ⟨rfl, hw.xQ⟩
  · rw [if_neg (fun h => hi ⟨h.1, by omega⟩)]
    refine calls_of_g (n := 19) Try.func60 rfl rfl rfl ?_
    change G _ _ _ _ _ [(0, _), (1, _)] _
    refine g_seq ?_
    refine g_region ?_
    refine xV rfl rfl rfl (v_assign rfl) ?_
    refine rl_nil (g_le (xK (Fr.le_refl _)) ?_)
    refine g_seq (g_seq ?_)
    refine g_region ?_
    refine xV rfl rfl rfl (v_move rfl) ?_
    refine xV rfl rfl rfl (v_nilCheck rfl) ?_
    refine xV rfl rfl rfl (v_fieldAddr0 T.fld_120_0_0 rfl) ?_
    refine rl_v rfl rfl rfl (by exact sat_cell hw (by (repeat first | with_reducible exact xH | apply xT); first | done | fail) rfl) (v_load T.scal_81 rfl) ?_
    refine xV rfl rfl rfl (v_move rfl) ?_
    refine rl_k rfl (k_callf Try.func73 rfl rfl rfl rfl ?_)
    refine Calls.mono (ris_calls i (hw.xP (A := RmAt rm p md))) ?_
    rw [decide_eq_false hi]
    rintro _ w ⟨rfl, hw⟩
    refine ⟨_, rfl, ?_⟩
    refine xV rfl rfl rfl (v_not rfl) ?_
    refine rl_nil (g_le (xK (xS rfl (xS rfl (xS rfl (xS rfl (xS rfl (xS rfl (Fr.le_refl _)))))))) ?_)
    refine g_cond_true rfl ?_
    refine g_seq ?_
    refine g_region ?_
    refine xV rfl rfl rfl (v_assign rfl) ?_
    refine rl_nil (g_le (xK (Fr.le_refl _)) ?_)
    refine g_ret1 Try.func60 rfl rfl ?_
    exact ⟨rfl, hw.xQ⟩
theorem rlive_calls {E : Env} {w : World} {L : List As} {q rm p k1 k2 k3 c1 c2 c3 : Nat} {rs : List Sg} {md : Md} (i : Int) (hb : rs.length ≤ 4096) (hl : md.segs.length = rs.length) (hw : Sat E w (pt q (.cells [Value.pointer (some ⟨rm, 0, none⟩), .slice (some ⟨k1, 0, none⟩) (rs : List Sg).length c1, .slice (some ⟨k2, 0, none⟩) (rs : List Sg).length c2, .slice (some ⟨k3, 0, none⟩) (rs : List Sg).length c3].toArray 120 (0, 0)) :: OwnSl 3 1 (.slice (some ⟨k1, 0, none⟩) (rs).length c1) (rs).length ((rs).map fun x => Value.int .i64 x.kind) :: OwnSl 3 1 (.slice (some ⟨k2, 0, none⟩) (rs).length c2) (rs).length ((rs).map fun x => Value.int .i64 x.used) :: OwnSl 3 1 (.slice (some ⟨k3, 0, none⟩) (rs).length c3) (rs).length ((rs).map fun x => Value.int .i64 x.live) :: RmAt rm p md :: L)) :
    Calls Try.prog 61 #[.pointer (some ⟨q, 0, none⟩), .int .i64 i] w fun e w' => e = .returned (.int .i64 (liveS rs i)) ∧ Sat E w' (pt q (.cells [Value.pointer (some ⟨rm, 0, none⟩), .slice (some ⟨k1, 0, none⟩) (rs : List Sg).length c1, .slice (some ⟨k2, 0, none⟩) (rs : List Sg).length c2, .slice (some ⟨k3, 0, none⟩) (rs : List Sg).length c3].toArray 120 (0, 0)) :: OwnSl 3 1 (.slice (some ⟨k1, 0, none⟩) (rs).length c1) (rs).length ((rs).map fun x => Value.int .i64 x.kind) :: OwnSl 3 1 (.slice (some ⟨k2, 0, none⟩) (rs).length c2) (rs).length ((rs).map fun x => Value.int .i64 x.used) :: OwnSl 3 1 (.slice (some ⟨k3, 0, none⟩) (rs).length c3) (rs).length ((rs).map fun x => Value.int .i64 x.live) :: RmAt rm p md :: L) := by
  unfold liveS
  by_cases hi : md.is i
  · have h1 := hi.1
    have h2 := hi.2
    rw [if_pos ⟨by omega, by omega⟩]
    have hk := lget (rs := rs) h1 (sgAt_some h1 (by omega))
    refine calls_of_g (n := 19) Try.func61 rfl rfl rfl ?_
    change G _ _ _ _ _ [(0, _), (1, _)] _
    refine g_seq ?_
    refine g_region ?_
    refine xV rfl rfl rfl (v_assign rfl) ?_
    refine rl_nil (g_le (xK (Fr.le_refl _)) ?_)
    refine g_seq (g_seq ?_)
    refine g_region ?_
    refine xV rfl rfl rfl (v_move rfl) ?_
    refine xV rfl rfl rfl (v_nilCheck rfl) ?_
    refine xV rfl rfl rfl (v_fieldAddr0 T.fld_120_0_0 rfl) ?_
    refine rl_v rfl rfl rfl (by exact sat_cell hw (by (repeat first | with_reducible exact xH | apply xT); first | done | fail) rfl) (v_load T.scal_81 rfl) ?_
    refine xV rfl rfl rfl (v_move rfl) ?_
    refine rl_k rfl (k_callf Try.func73 rfl rfl rfl rfl ?_)
    refine Calls.mono (ris_calls i (hw.xP (A := RmAt rm p md))) ?_
    rw [decide_eq_true hi]
    rintro _ w ⟨rfl, hw⟩
    refine ⟨_, rfl, ?_⟩
    refine xV rfl rfl rfl (v_not rfl) ?_
    refine rl_nil (g_le (xK (xS rfl (xS rfl (xS rfl (xS rfl (xS rfl (xS rfl (Fr.le_refl _)))))))) ?_)
    refine g_cond_false rfl ?_
    refine g_skip (g_seq ?_)
    refine g_region ?_
    refine xV rfl rfl rfl (v_move rfl) ?_
    refine xV rfl rfl rfl (v_nilCheck rfl) ?_
    refine xV rfl rfl rfl (v_fieldAddr0 T.fld_120_3_3 rfl) ?_
    refine rl_v rfl rfl rfl (by exact sat_cell hw (by (repeat first | with_reducible exact xH | apply xT); first | done | fail) rfl) (v_load T.scal_61 rfl) ?_
    refine xV rfl rfl rfl (v_move rfl) ?_
    refine xV rfl rfl rfl (v_indexAddr T.sl_61_3_1 rfl rfl (by omega) (by omega)) ?_
    refine rl_v rfl rfl rfl (by exact own_cell hw (by (repeat first | with_reducible exact xH | apply xT); first | done | fail) (by first | rfl | assumption)) (v_load T.scal_3 rfl) ?_
    refine xV rfl rfl rfl (v_assign rfl) ?_
    refine rl_nil (g_le (xK (xS rfl (xS rfl (xS rfl (xS rfl (xS rfl (xS rfl (xS rfl (Fr.le_refl _))))))))) ?_)
    refine g_ret1 Try.func61 rfl rfl ?_
    exact ⟨rfl, hw.xQ⟩
  · rw [if_neg (fun h => hi ⟨h.1, by omega⟩)]
    refine calls_of_g (n := 19) Try.func61 rfl rfl rfl ?_
    change G _ _ _ _ _ [(0, _), (1, _)] _
    refine g_seq ?_
    refine g_region ?_
    refine xV rfl rfl rfl (v_assign rfl) ?_
    refine rl_nil (g_le (xK (Fr.le_refl _)) ?_)
    refine g_seq (g_seq ?_)
    refine g_region ?_
    refine xV rfl rfl rfl (v_move rfl) ?_
    refine xV rfl rfl rfl (v_nilCheck rfl) ?_
    refine xV rfl rfl rfl (v_fieldAddr0 T.fld_120_0_0 rfl) ?_
    refine rl_v rfl rfl rfl (by exact sat_cell hw (by (repeat first | with_reducible exact xH | apply xT); first | done | fail) rfl) (v_load T.scal_81 rfl) ?_
    refine xV rfl rfl rfl (v_move rfl) ?_
    refine rl_k rfl (k_callf Try.func73 rfl rfl rfl rfl ?_)
    refine Calls.mono (ris_calls i (hw.xP (A := RmAt rm p md))) ?_
    rw [decide_eq_false hi]
    rintro _ w ⟨rfl, hw⟩
    refine ⟨_, rfl, ?_⟩
    refine xV rfl rfl rfl (v_not rfl) ?_
    refine rl_nil (g_le (xK (xS rfl (xS rfl (xS rfl (xS rfl (xS rfl (xS rfl (Fr.le_refl _)))))))) ?_)
    refine g_cond_true rfl ?_
    refine g_seq ?_
    refine g_region ?_
    refine xV rfl rfl rfl (v_assign rfl) ?_
    refine rl_nil (g_le (xK (Fr.le_refl _)) ?_)
    refine g_ret1 Try.func61 rfl rfl ?_
    exact ⟨rfl, hw.xQ⟩
theorem within_calls {E : Env} {w : World} {L : List As} (x : Pl) (u : Int) (h0 : 0 ≤ u) (h1 : u ≤ 1048576) (hw : Sat E w L) :
    Calls Try.prog 74 #[.agg x.cells.toArray, .int .i64 u] w fun e w' => e = .returned (.bool (decide (1 ≤ x.len ∧ 0 ≤ x.off ∧ x.off ≤ u - x.len))) ∧ Sat E w' L := by
  refine calls_of_g (n := 28) Try.func74 rfl rfl rfl ?_
  change G _ _ _ _ _ [(0, _), (1, _)] _
  refine g_seq ?_
  refine g_region ?_
  refine rl_k rfl (k_box hw rfl rfl rfl (fun bk0_0 w hw => ?_))
  refine xV rfl rfl rfl (v_assign rfl) ?_
  refine rl_nil (g_le (xK (xK (Fr.le_refl _))) ?_)
  refine g_seq ?_
  refine g_region ?_
  refine xV rfl rfl rfl (v_fieldAddr0 T.fld_58_2_2 rfl) ?_
  refine rl_v rfl rfl rfl (by exact sat_cell hw (by (repeat first | with_reducible exact xH | apply xT); first | done | fail) rfl) (v_load T.scal_3 rfl) ?_
  refine xV rfl rfl rfl (v_geq rfl rfl) ?_
  refine xV rfl rfl rfl (v_move rfl) ?_
  refine rl_split (s := 8) rfl (fun g1_3 => ?_) (fun g1_3 => ?_)
  · try with_reducible exact ft_elim g1_3
    all_goals
      try replace g1_3 := of_decide_eq_true g1_3
      refine rl_vg (met_on rfl rfl rfl rfl) rfl rfl (S := fun _ => True) trivial (v_fieldAddr0 T.fld_58_1_1 rfl) ?_
      refine rl_vg (met_on rfl rfl rfl rfl) rfl rfl (by exact sat_cell hw (by (repeat first | with_reducible exact xH | apply xT); first | done | fail) rfl) (v_load T.scal_3 rfl) ?_
      refine rl_vg (met_on rfl rfl rfl rfl) rfl rfl (S := fun _ => True) trivial (v_geq rfl rfl) ?_
      refine xV rfl rfl rfl (v_pick_true rfl rfl) ?_
      refine xV rfl rfl rfl (v_move rfl) ?_
      refine rl_split (s := 13) rfl (fun g1_8 => ?_) (fun g1_8 => ?_)
      · try with_reducible exact ft_elim g1_8
        all_goals
          try replace g1_8 := of_decide_eq_true g1_8
          refine rl_vg (met_on rfl rfl rfl rfl) rfl rfl (S := fun _ => True) trivial (v_fieldAddr0 T.fld_58_2_2 rfl) ?_
          refine rl_vg (met_on rfl rfl rfl rfl) rfl rfl (by exact sat_cell hw (by (repeat first | with_reducible exact xH | apply xT); first | done | fail) rfl) (v_load T.scal_3 rfl) ?_
          refine rl_vg (met_on rfl rfl rfl rfl) rfl rfl (S := fun _ => True) trivial (v_move rfl) ?_
          refine rl_vg (met_on rfl rfl rfl rfl) rfl rfl (S := fun _ => True) trivial (v_leq rfl rfl) ?_
          refine xV rfl rfl rfl (v_pick_true rfl rfl) ?_
          refine xV rfl rfl rfl (v_move rfl) ?_
          refine rl_split (s := 19) rfl (fun g1_14 => ?_) (fun g1_14 => ?_)
          · try with_reducible exact ft_elim g1_14
            all_goals
              try replace g1_14 := of_decide_eq_true g1_14
              refine rl_vg (met_on rfl rfl rfl rfl) rfl rfl (S := fun _ => True) trivial (v_fieldAddr0 T.fld_58_1_1 rfl) ?_
              refine rl_vg (met_on rfl rfl rfl rfl) rfl rfl (by exact sat_cell hw (by (repeat first | with_reducible exact xH | apply xT); first | done | fail) rfl) (v_load T.scal_3 rfl) ?_
              refine rl_vg (met_on rfl rfl rfl rfl) rfl rfl (S := fun _ => True) trivial (v_move rfl) ?_
              refine rl_vg (met_on rfl rfl rfl rfl) rfl rfl (S := fun _ => True) trivial (v_fieldAddr0 T.fld_58_2_2 rfl) ?_
              refine rl_vg (met_on rfl rfl rfl rfl) rfl rfl (by exact sat_cell hw (by (repeat first | with_reducible exact xH | apply xT); first | done | fail) rfl) (v_load T.scal_3 rfl) ?_
              refine rl_vg (met_on rfl rfl rfl rfl) rfl rfl (S := fun _ => True) trivial (v_sub rfl rfl (by omega)) ?_
              refine rl_vg (met_on rfl rfl rfl rfl) rfl rfl (S := fun _ => True) trivial (v_leq rfl rfl) ?_
              refine xV rfl rfl rfl (v_pick_true rfl rfl) ?_
              refine xV rfl rfl rfl (v_assign rfl) ?_
              refine rl_nil (g_le (xK (xS rfl (xS rfl (xS rfl (xS rfl (xS rfl (xS rfl (xS rfl (xS rfl (xS rfl (xS rfl (xS rfl (xS rfl (xS rfl (xS rfl (xS rfl (xS rfl (xS rfl (xS rfl (xS rfl (xS rfl (xS rfl (xS rfl (xS rfl (xS rfl (xS rfl (xS rfl (Fr.le_refl _)))))))))))))))))))))))))))) ?_)
              refine g_ret1 Try.func74 rfl rfl ?_
              refine ⟨?_, hw.xQ⟩; congr 2; exact decide_eq_decide.2 (by omega)
          · try with_reducible exact tf_elim g1_14
            all_goals
              try replace g1_14 := of_decide_eq_false g1_14
              refine rl_off (met_off rfl rfl rfl rfl rfl) rfl rfl ?_
              refine rl_off (met_off rfl rfl rfl rfl rfl) rfl rfl ?_
              refine rl_off (met_off rfl rfl rfl rfl rfl) rfl rfl ?_
              refine rl_off (met_off rfl rfl rfl rfl rfl) rfl rfl ?_
              refine rl_off (met_off rfl rfl rfl rfl rfl) rfl rfl ?_
              refine rl_off (met_off rfl rfl rfl rfl rfl) rfl rfl ?_
              refine rl_off (met_off rfl rfl rfl rfl rfl) rfl rfl ?_
              refine xV rfl rfl rfl (v_pick_false rfl rfl) ?_
              refine xV rfl rfl rfl (v_assign rfl) ?_
              refine rl_nil (g_le (xK (xS rfl (xS rfl (xS rfl (xS rfl (xS rfl (xS rfl (xS rfl (xS rfl (xS rfl (xS rfl (xS rfl (xS rfl (xS rfl (xS rfl (xS rfl (xS rfl (xS rfl (xS rfl (xS rfl (xS rfl (xS rfl (xS rfl (xS rfl (xS rfl (xS rfl (xS rfl (Fr.le_refl _)))))))))))))))))))))))))))) ?_)
              refine g_ret1 Try.func74 rfl rfl ?_
              rw [decide_eq_false (by omega)]; exact ⟨rfl, hw.xQ⟩
      · try with_reducible exact tf_elim g1_8
        all_goals
          try replace g1_8 := of_decide_eq_false g1_8
          refine rl_off (met_off rfl rfl rfl rfl rfl) rfl rfl ?_
          refine rl_off (met_off rfl rfl rfl rfl rfl) rfl rfl ?_
          refine rl_off (met_off rfl rfl rfl rfl rfl) rfl rfl ?_
          refine rl_off (met_off rfl rfl rfl rfl rfl) rfl rfl ?_
          refine xV rfl rfl rfl (v_pick_false rfl rfl) ?_
          refine xV rfl rfl rfl (v_move rfl) ?_
          refine rl_off (met_off rfl rfl rfl rfl rfl) rfl rfl ?_
          refine rl_off (met_off rfl rfl rfl rfl rfl) rfl rfl ?_
          refine rl_off (met_off rfl rfl rfl rfl rfl) rfl rfl ?_
          refine rl_off (met_off rfl rfl rfl rfl rfl) rfl rfl ?_
          refine rl_off (met_off rfl rfl rfl rfl rfl) rfl rfl ?_
          refine rl_off (met_off rfl rfl rfl rfl rfl) rfl rfl ?_
          refine rl_off (met_off rfl rfl rfl rfl rfl) rfl rfl ?_
          refine xV rfl rfl rfl (v_pick_false rfl rfl) ?_
          refine xV rfl rfl rfl (v_assign rfl) ?_
          refine rl_nil (g_le (xK (xS rfl (xS rfl (xS rfl (xS rfl (xS rfl (xS rfl (xS rfl (xS rfl (xS rfl (xS rfl (xS rfl (xS rfl (xS rfl (xS rfl (xS rfl (xS rfl (xS rfl (xS rfl (xS rfl (xS rfl (xS rfl (xS rfl (xS rfl (xS rfl (xS rfl (Fr.le_refl _))))))))))))))))))))))))))) ?_)
          refine g_ret1 Try.func74 rfl rfl ?_
          rw [decide_eq_false (by omega)]; exact ⟨rfl, hw.xQ⟩
  · try with_reducible exact tf_elim g1_3
    all_goals
      try replace g1_3 := of_decide_eq_false g1_3
      refine rl_off (met_off rfl rfl rfl rfl rfl) rfl rfl ?_
      refine rl_off (met_off rfl rfl rfl rfl rfl) rfl rfl ?_
      refine rl_off (met_off rfl rfl rfl rfl rfl) rfl rfl ?_
      refine xV rfl rfl rfl (v_pick_false rfl rfl) ?_
      refine xV rfl rfl rfl (v_move rfl) ?_
      refine rl_off (met_off rfl rfl rfl rfl rfl) rfl rfl ?_
      refine rl_off (met_off rfl rfl rfl rfl rfl) rfl rfl ?_
      refine rl_off (met_off rfl rfl rfl rfl rfl) rfl rfl ?_
      refine rl_off (met_off rfl rfl rfl rfl rfl) rfl rfl ?_
      refine xV rfl rfl rfl (v_pick_false rfl rfl) ?_
      refine xV rfl rfl rfl (v_move rfl) ?_
      refine rl_off (met_off rfl rfl rfl rfl rfl) rfl rfl ?_
      refine rl_off (met_off rfl rfl rfl rfl rfl) rfl rfl ?_
      refine rl_off (met_off rfl rfl rfl rfl rfl) rfl rfl ?_
      refine rl_off (met_off rfl rfl rfl rfl rfl) rfl rfl ?_
      refine rl_off (met_off rfl rfl rfl rfl rfl) rfl rfl ?_
      refine rl_off (met_off rfl rfl rfl rfl rfl) rfl rfl ?_
      refine rl_off (met_off rfl rfl rfl rfl rfl) rfl rfl ?_
      refine xV rfl rfl rfl (v_pick_false rfl rfl) ?_
      refine xV rfl rfl rfl (v_assign rfl) ?_
      refine rl_nil (g_le (xK (xS rfl (xS rfl (xS rfl (xS rfl (xS rfl (xS rfl (xS rfl (xS rfl (xS rfl (xS rfl (xS rfl (xS rfl (xS rfl (xS rfl (xS rfl (xS rfl (xS rfl (xS rfl (xS rfl (xS rfl (xS rfl (xS rfl (xS rfl (xS rfl (Fr.le_refl _)))))))))))))))))))))))))) ?_)
      refine g_ret1 Try.func74 rfl rfl ?_
      rw [decide_eq_false (by omega)]; exact ⟨rfl, hw.xQ⟩
theorem ord_f75_r7_R14b : orderOfB Try.f75 7 [] (.a 0 (.a 1 (.a 2 (.a 3 (.a 5 (.a 6 (.a 7 (.a 8 (.v 4 (.k 9 (.k 10 (.k 11 (.a 12 (.a 13 (.a 14 (.a 15 (.a 17 (.a 18 (.a 19 (.a 20 (.a 22 (.a 23 (.a 24 (.a 25 (.v 16 (.v 21 (.k 26 (.k 27 (.k 28 (.k 29 (.k 30 (.a 31 (.a 32 (.a 33 (.a 34 (.a 36 (.a 37 (.a 38 (.a 39 (.a 41 (.a 42 (.a 43 (.a 44 (.v 35 (.v 40 (.k 45 (.k 46 (.k 47 (.k 48 .done))))))))))))))))))))))))))))))))))))))))))))))))) = true := by kernel_rfl
set_option maxHeartbeats 2000000 in
theorem overlap_calls {E : Env} {w : World} {L : List As} {A : As} {v : Value} {xs : List Pl} (hS : SrcA A v xs) (hok : ∀ p ∈ xs, 0 ≤ p.off ∧ p.off ≤ 1048576 ∧ 1 ≤ p.len ∧ p.len ≤ 1048576) (hw : Sat E w (A :: L)) :
    Calls Try.prog 75 #[v] w fun e w' => ∃ r, e = .returned (.bool r) ∧ (r = false ↔ xs.Pairwise apart) ∧ Sat E w' (A :: L) := by
  obtain ⟨a, c, rfl, hn, hat⟩ := hS
  refine calls_of_g (n := 65) Try.func75 rfl rfl rfl ?_
  change G _ _ _ _ _ [(0, _)] _
  refine g_seq ?_
  refine g_region ?_
  refine xV rfl rfl rfl (v_assign rfl) ?_
  refine rl_nil (g_le (xK (Fr.le_refl _)) ?_)
  refine g_seq (g_seq ?_)
  refine g_region ?_
  refine xV rfl rfl rfl (v_assign rfl) ?_
  refine rl_nil (g_le (xK (Fr.le_refl _)) ?_)
  refine g_block ?_
  refine g_loopC (σ := Nat) (fun C x => (3, .int .i64 (x : Nat)) :: C) [(0, _), (2, _)] (by repeat (first | exact Fr.le_nil _ | refine Fr.le_cons rfl ?_)) (fun z w => z ≤ xs.length ∧ (∀ i k p q, k < i → i < z → xs[i]? = some p → xs[k]? = some q → apart p q) ∧ Sat E w (A :: L)) (fun z => xs.length - z) ?_ 0 (by repeat (first | exact Fr.le_nil _ | refine Fr.le_cons rfl ?_)) ⟨by simp, by simp, hw⟩
  rintro i w ⟨hi, hall, hw⟩ ih
  refine g_seq (g_seq ?_)
  refine g_region ?_
  refine xV rfl rfl rfl (v_move rfl) ?_
  refine xV rfl rfl rfl (v_move rfl) ?_
  refine xV rfl rfl rfl (v_lenSlice T.sl_70_58_3 rfl) ?_
  refine xV rfl rfl rfl (v_lss rfl rfl) ?_
  refine rl_nil (g_le (xK (xK (xK (xK (Fr.le_refl _))))) ?_)
  refine g_cond rfl (fun h1 => ?_) (fun h1 => ?_)
  · try with_reducible exact ft_elim h1
    all_goals
      try replace h1 := of_decide_eq_true h1
      refine g_skip (g_seq (g_block (g_seq ?_)))
      have hlt : i < xs.length := by omega
      have hx : xs[i]? = some xs[i] := List.getElem?_eq_getElem hlt
      generalize xs[i] = x at hx
      obtain ⟨b, o, hab, hcx⟩ := hat i x hx
      subst hab
      rw [show i * 3 = (i : Int).toNat * 3 by omega] at hcx
      have hxo := hok x (List.mem_of_getElem? hx)
      refine g_region ?_
      refine xV rfl rfl rfl (v_assign rfl) ?_
      refine rl_nil (g_le (xK (Fr.le_refl _)) ?_)
      refine g_block ?_
      refine g_loopC (σ := Nat) (fun C x => (4, .int .i64 (x : Nat)) :: C) [(0, _), (2, _), (3, _), (5, _), (6, _), (7, _), (8, _)] (by repeat (first | exact Fr.le_nil _ | refine Fr.le_cons rfl ?_)) (fun z w => z ≤ i ∧ (∀ k q, k < z → xs[k]? = some q → apart x q) ∧ Sat E w (A :: L)) (fun z => i - z) ?_ 0 (by repeat (first | exact Fr.le_nil _ | refine Fr.le_cons rfl ?_)) ⟨by simp, by simp, hw⟩
      rintro k w ⟨hk, hin, hw⟩ ih2
      refine g_seq (g_seq ?_)
      refine g_region ?_
      refine xV rfl rfl rfl (v_move rfl) ?_
      refine xV rfl rfl rfl (v_move rfl) ?_
      refine xV rfl rfl rfl (v_lss rfl rfl) ?_
      refine rl_nil (g_le (xK (xK (xK (Fr.le_refl _)))) ?_)
      refine g_cond rfl (fun h2 => ?_) (fun h2 => ?_)
      · try with_reducible exact ft_elim h2
        all_goals
          try replace h2 := of_decide_eq_true h2
          refine g_skip (g_seq (g_block (g_seq ?_)))
          have hkl : k < i := by omega
          obtain ⟨y, hy⟩ : ∃ y, xs[k]? = some y := ⟨_, List.getElem?_eq_getElem (by omega)⟩
          obtain ⟨b2, o2, hab2, hcy⟩ := hat k y hy
          cases hab2
          rw [show k * 3 = (k : Int).toNat * 3 by omega] at hcy
          have hyo := hok y (List.mem_of_getElem? hy)
          have hx0 : ∀ (w : World) (M : List As), Sat E w (A :: M) → w.cell? ⟨b, o + (i : Int).toNat * 3, none⟩ = some (.int .i64 x.seg) := fun w M h => (hcx E w M h).1
          have hx1 : ∀ (w : World) (M : List As), Sat E w (A :: M) → w.cell? ⟨b, o + (i : Int).toNat * 3 + 1, none⟩ = some (.int .i64 x.off) := fun w M h => (hcx E w M h).2.1
          have hx2 : ∀ (w : World) (M : List As), Sat E w (A :: M) → w.cell? ⟨b, o + (i : Int).toNat * 3 + 2, none⟩ = some (.int .i64 x.len) := fun w M h => (hcx E w M h).2.2.1
          have hy0 : ∀ (w : World) (M : List As), Sat E w (A :: M) → w.cell? ⟨b, o + (k : Int).toNat * 3, none⟩ = some (.int .i64 y.seg) := fun w M h => (hcy E w M h).1
          have hy1 : ∀ (w : World) (M : List As), Sat E w (A :: M) → w.cell? ⟨b, o + (k : Int).toNat * 3 + 1, none⟩ = some (.int .i64 y.off) := fun w M h => (hcy E w M h).2.1
          have hy2 : ∀ (w : World) (M : List As), Sat E w (A :: M) → w.cell? ⟨b, o + (k : Int).toNat * 3 + 2, none⟩ = some (.int .i64 y.len) := fun w M h => (hcy E w M h).2.2.1
          refine g_drawR ord_f75_r7_R14b (by kernel_rfl) T.mixed hw (fun w hw => ?_)
          refine rs_a 0 rfl rfl rfl rfl (v_move rfl) ?_
          refine rs_a 1 rfl rfl rfl rfl (v_move rfl) ?_
          refine rs_a 2 rfl rfl rfl rfl (v_indexAddr T.sl_70_58_3 rfl rfl (by omega) (by omega)) ?_
          refine rs_a 3 rfl rfl rfl rfl (v_fieldAddr T.fld_58_0_0 rfl) ?_
          refine rs_a 5 rfl rfl rfl rfl (v_move rfl) ?_
          refine rs_a 6 rfl rfl rfl rfl (v_move rfl) ?_
          refine rs_a 7 rfl rfl rfl rfl (v_indexAddr T.sl_70_58_3 rfl rfl (by omega) (by omega)) ?_
          refine rs_a 8 rfl rfl rfl rfl (v_fieldAddr T.fld_58_0_0 rfl) ?_
          refine rs_v 4 rfl rfl rfl rfl (OpV.mono (v_load T.scal_3 rfl) (fun w hw => by exact hx0 _ _ hw)) (by exact hw) ?_
          refine rs_kv 9 rfl rfl rfl rfl (by exact hy0 _ _ hw) (v_load T.scal_3 rfl) ?_
          refine rs_kv 10 rfl rfl rfl rfl (S' := fun _ => True) trivial (v_eql rfl rfl) ?_
          refine rs_kv 11 rfl rfl rfl rfl (S' := fun _ => True) trivial (v_move rfl) ?_
          refine rs_split (s := 27) rfl (fun g7_11 => ?_) (fun g7_11 => ?_)
          · try with_reducible exact ft_elim g7_11
            all_goals
              try replace g7_11 := of_decide_eq_true g7_11
              refine rs_ag 12 rfl (met_on rfl rfl rfl rfl) rfl rfl (v_move rfl) ?_
              refine rs_ag 13 rfl (met_on rfl rfl rfl rfl) rfl rfl (v_move rfl) ?_
              refine rs_ag 14 rfl (met_on rfl rfl rfl rfl) rfl rfl (v_indexAddr T.sl_70_58_3 rfl rfl (by omega) (by omega)) ?_
              refine rs_ag 15 rfl (met_on rfl rfl rfl rfl) rfl rfl (v_fieldAddr T.fld_58_1_1 rfl) ?_
              refine rs_ag 17 rfl (met_on rfl rfl rfl rfl) rfl rfl (v_move rfl) ?_
              refine rs_ag 18 rfl (met_on rfl rfl rfl rfl) rfl rfl (v_move rfl) ?_
              refine rs_ag 19 rfl (met_on rfl rfl rfl rfl) rfl rfl (v_indexAddr T.sl_70_58_3 rfl rfl (by omega) (by omega)) ?_
              refine rs_ag 20 rfl (met_on rfl rfl rfl rfl) rfl rfl (v_fieldAddr T.fld_58_1_1 rfl) ?_
              refine rs_ag 22 rfl (met_on rfl rfl rfl rfl) rfl rfl (v_move rfl) ?_
              refine rs_ag 23 rfl (met_on rfl rfl rfl rfl) rfl rfl (v_move rfl) ?_
              refine rs_ag 24 rfl (met_on rfl rfl rfl rfl) rfl rfl (v_indexAddr T.sl_70_58_3 rfl rfl (by omega) (by omega)) ?_
              refine rs_ag 25 rfl (met_on rfl rfl rfl rfl) rfl rfl (v_fieldAddr T.fld_58_2_2 rfl) ?_
              refine rs_vg 16 rfl (met_on rfl rfl rfl rfl) rfl rfl (OpV.mono (v_load T.scal_3 rfl) (fun w hw => by exact hx1 _ _ hw)) (by exact hw) ?_
              refine rs_vg 21 rfl (met_on rfl rfl rfl rfl) rfl rfl (OpV.mono (v_load T.scal_3 rfl) (fun w hw => by exact hy1 _ _ hw)) (by exact hw) ?_
              refine rs_kvg 26 rfl (met_on rfl rfl rfl rfl) rfl rfl (by exact hy2 _ _ hw) (v_load T.scal_3 rfl) ?_
              refine rs_kvg 27 rfl (met_on rfl rfl rfl rfl) rfl rfl (S' := fun _ => True) trivial (v_add rfl rfl (by omega)) ?_
              refine rs_kvg 28 rfl (met_on rfl rfl rfl rfl) rfl rfl (S' := fun _ => True) trivial (v_lss rfl rfl) ?_
              refine rs_kv 29 rfl rfl rfl rfl (S' := fun _ => True) trivial (v_pick_true rfl rfl) ?_
              refine rs_kv 30 rfl rfl rfl rfl (S' := fun _ => True) trivial (v_move rfl) ?_
              refine rs_split (s := 46) rfl (fun g7_30 => ?_) (fun g7_30 => ?_)
              · try with_reducible exact ft_elim g7_30
                all_goals
                  try replace g7_30 := of_decide_eq_true g7_30
                  refine rs_ag 31 rfl (met_on rfl rfl rfl rfl) rfl rfl (v_move rfl) ?_
                  refine rs_ag 32 rfl (met_on rfl rfl rfl rfl) rfl rfl (v_move rfl) ?_
                  refine rs_ag 33 rfl (met_on rfl rfl rfl rfl) rfl rfl (v_indexAddr T.sl_70_58_3 rfl rfl (by omega) (by omega)) ?_
                  refine rs_ag 34 rfl (met_on rfl rfl rfl rfl) rfl rfl (v_fieldAddr T.fld_58_1_1 rfl) ?_
                  refine rs_ag 36 rfl (met_on rfl rfl rfl rfl) rfl rfl (v_move rfl) ?_
                  refine rs_ag 37 rfl (met_on rfl rfl rfl rfl) rfl rfl (v_move rfl) ?_
                  refine rs_ag 38 rfl (met_on rfl rfl rfl rfl) rfl rfl (v_indexAddr T.sl_70_58_3 rfl rfl (by omega) (by omega)) ?_
                  refine rs_ag 39 rfl (met_on rfl rfl rfl rfl) rfl rfl (v_fieldAddr T.fld_58_1_1 rfl) ?_
                  refine rs_ag 41 rfl (met_on rfl rfl rfl rfl) rfl rfl (v_move rfl) ?_
                  refine rs_ag 42 rfl (met_on rfl rfl rfl rfl) rfl rfl (v_move rfl) ?_
                  refine rs_ag 43 rfl (met_on rfl rfl rfl rfl) rfl rfl (v_indexAddr T.sl_70_58_3 rfl rfl (by omega) (by omega)) ?_
                  refine rs_ag 44 rfl (met_on rfl rfl rfl rfl) rfl rfl (v_fieldAddr T.fld_58_2_2 rfl) ?_
                  refine rs_vg 35 rfl (met_on rfl rfl rfl rfl) rfl rfl (OpV.mono (v_load T.scal_3 rfl) (fun w hw => by exact hy1 _ _ hw)) (by exact hw) ?_
                  refine rs_vg 40 rfl (met_on rfl rfl rfl rfl) rfl rfl (OpV.mono (v_load T.scal_3 rfl) (fun w hw => by exact hx1 _ _ hw)) (by exact hw) ?_
                  refine rs_kvg 45 rfl (met_on rfl rfl rfl rfl) rfl rfl (by exact hx2 _ _ hw) (v_load T.scal_3 rfl) ?_
                  refine rs_kvg 46 rfl (met_on rfl rfl rfl rfl) rfl rfl (S' := fun _ => True) trivial (v_add rfl rfl (by omega)) ?_
                  refine rs_kvg 47 rfl (met_on rfl rfl rfl rfl) rfl rfl (S' := fun _ => True) trivial (v_lss rfl rfl) ?_
                  refine rs_kv 48 rfl rfl rfl rfl (S' := fun _ => True) trivial (v_pick_true rfl rfl) ?_
                  refine rs_done (g_le (xK (xK (xK (xK (xK (xK (xK (xK (xK (xK (xK (xK (xK (xK (xK (xK (xK (xK (xK (xK (xK (xK (xK (xK (xK (xK (xK (xK (xK (xK (xK (xK (xK (xK (xK (xK (xK (xK (xK (xK (xK (xK (xK (xK (xK (xK (xK (xK (xK (xK (xK (Fr.le_refl _)))))))))))))))))))))))))))))))))))))))))))))))))))) ?_)
                  refine g_cond rfl (fun h3 => ?_) (fun h3 => ?_)
                  · try with_reducible exact ft_elim h3
                    all_goals
                      try replace h3 := of_decide_eq_true h3
                      refine g_seq ?_
                      refine g_region ?_
                      refine xV rfl rfl rfl (v_assign rfl) ?_
                      refine rl_nil (g_le (xK (Fr.le_refl _)) ?_)
                      refine g_ret1 Try.func75 rfl rfl ?_
                      refine ⟨true, rfl, ⟨fun h => absurd h (by simp), fun h => ?_⟩, hw⟩
                      have h9 := List.pairwise_iff_getElem.1 h k i (by omega) hlt hkl
                      have e1 : xs[i] = x := by rw [List.getElem?_eq_getElem hlt] at hx; exact Option.some.inj hx
                      have e2 : xs[k] = y := by rw [List.getElem?_eq_getElem (by omega)] at hy; exact Option.some.inj hy
                      rw [e1, e2] at h9
                      have h10 := h9 (by omega)
                      exfalso
                      omega
                  · try with_reducible exact tf_elim h3
                    all_goals
                      try replace h3 := of_decide_eq_false h3
                      refine g_skip (g_inBlock ?_)
                      refine g_region ?_
                      refine xV rfl rfl rfl (v_move rfl) ?_
                      refine xV rfl rfl rfl (v_add rfl rfl (by omega)) ?_
                      refine xV rfl rfl rfl (v_assign rfl) ?_
                      refine rl_nil (g_le (xK (xK (xK (Fr.le_refl _)))) ?_)
                      refine g_le (by repeat (first | exact Fr.le_nil _ | refine Fr.le_cons rfl ?_)) (ih2 (k + 1) w ⟨by omega, fun j q hj hq => ?_, hw⟩ (by omega))
                      rcases Nat.lt_or_ge j k with h9 | h9
                      · exact hin j q h9 hq
                      · obtain rfl : j = k := by omega
                        rw [hy] at hq
                        obtain rfl := Option.some.inj hq
                        intro he
                        omega
              · try with_reducible exact tf_elim g7_30
                all_goals
                  try replace g7_30 := of_decide_eq_false g7_30
                  refine rs_aoff 31 rfl (met_off rfl rfl rfl rfl rfl) rfl rfl ?_
                  refine rs_aoff 32 rfl (met_off rfl rfl rfl rfl rfl) rfl rfl ?_
                  refine rs_aoff 33 rfl (met_off rfl rfl rfl rfl rfl) rfl rfl ?_
                  refine rs_aoff 34 rfl (met_off rfl rfl rfl rfl rfl) rfl rfl ?_
                  refine rs_aoff 36 rfl (met_off rfl rfl rfl rfl rfl) rfl rfl ?_
                  refine rs_aoff 37 rfl (met_off rfl rfl rfl rfl rfl) rfl rfl ?_
                  refine rs_aoff 38 rfl (met_off rfl rfl rfl rfl rfl) rfl rfl ?_
                  refine rs_aoff 39 rfl (met_off rfl rfl rfl rfl rfl) rfl rfl ?_
                  refine rs_aoff 41 rfl (met_off rfl rfl rfl rfl rfl) rfl rfl ?_
                  refine rs_aoff 42 rfl (met_off rfl rfl rfl rfl rfl) rfl rfl ?_
                  refine rs_aoff 43 rfl (met_off rfl rfl rfl rfl rfl) rfl rfl ?_
                  refine rs_aoff 44 rfl (met_off rfl rfl rfl rfl rfl) rfl rfl ?_
                  refine rs_voff 35 rfl (met_off rfl rfl rfl rfl rfl) rfl rfl (by exact hw) ?_
                  refine rs_voff 40 rfl (met_off rfl rfl rfl rfl rfl) rfl rfl (by exact hw) ?_
                  refine rs_koff 45 rfl (met_off rfl rfl rfl rfl rfl) rfl rfl ?_
                  refine rs_koff 46 rfl (met_off rfl rfl rfl rfl rfl) rfl rfl ?_
                  refine rs_koff 47 rfl (met_off rfl rfl rfl rfl rfl) rfl rfl ?_
                  refine rs_kv 48 rfl rfl rfl rfl (S' := fun _ => True) trivial (v_pick_false rfl rfl) ?_
                  refine rs_done (g_le (xK (xK (xK (xK (xK (xK (xK (xK (xK (xK (xK (xK (xK (xK (xK (xK (xK (xK (xK (xK (xK (xK (xK (xK (xK (xK (xK (xK (xK (xK (xK (xK (xK (xK (xK (xK (xK (xK (xK (xK (xK (xK (xK (xK (xK (xK (xK (xK (xK (xK (xK (Fr.le_refl _)))))))))))))))))))))))))))))))))))))))))))))))))))) ?_)
                  refine g_cond_false rfl ?_
                  refine g_skip (g_inBlock ?_)
                  refine g_region ?_
                  refine xV rfl rfl rfl (v_move rfl) ?_
                  refine xV rfl rfl rfl (v_add rfl rfl (by omega)) ?_
                  refine xV rfl rfl rfl (v_assign rfl) ?_
                  refine rl_nil (g_le (xK (xK (xK (Fr.le_refl _)))) ?_)
                  refine g_le (by repeat (first | exact Fr.le_nil _ | refine Fr.le_cons rfl ?_)) (ih2 (k + 1) w ⟨by omega, fun j q hj hq => ?_, hw⟩ (by omega))
                  rcases Nat.lt_or_ge j k with h9 | h9
                  · exact hin j q h9 hq
                  · obtain rfl : j = k := by omega
                    rw [hy] at hq
                    obtain rfl := Option.some.inj hq
                    intro he
                    omega
          · try with_reducible exact tf_elim g7_11
            all_goals
              try replace g7_11 := of_decide_eq_false g7_11
              refine rs_aoff 12 rfl (met_off rfl rfl rfl rfl rfl) rfl rfl ?_
              refine rs_aoff 13 rfl (met_off rfl rfl rfl rfl rfl) rfl rfl ?_
              refine rs_aoff 14 rfl (met_off rfl rfl rfl rfl rfl) rfl rfl ?_
              refine rs_aoff 15 rfl (met_off rfl rfl rfl rfl rfl) rfl rfl ?_
              refine rs_aoff 17 rfl (met_off rfl rfl rfl rfl rfl) rfl rfl ?_
              refine rs_aoff 18 rfl (met_off rfl rfl rfl rfl rfl) rfl rfl ?_
              refine rs_aoff 19 rfl (met_off rfl rfl rfl rfl rfl) rfl rfl ?_
              refine rs_aoff 20 rfl (met_off rfl rfl rfl rfl rfl) rfl rfl ?_
              refine rs_aoff 22 rfl (met_off rfl rfl rfl rfl rfl) rfl rfl ?_
              refine rs_aoff 23 rfl (met_off rfl rfl rfl rfl rfl) rfl rfl ?_
              refine rs_aoff 24 rfl (met_off rfl rfl rfl rfl rfl) rfl rfl ?_
              refine rs_aoff 25 rfl (met_off rfl rfl rfl rfl rfl) rfl rfl ?_
              refine rs_voff 16 rfl (met_off rfl rfl rfl rfl rfl) rfl rfl (by exact hw) ?_
              refine rs_voff 21 rfl (met_off rfl rfl rfl rfl rfl) rfl rfl (by exact hw) ?_
              refine rs_koff 26 rfl (met_off rfl rfl rfl rfl rfl) rfl rfl ?_
              refine rs_koff 27 rfl (met_off rfl rfl rfl rfl rfl) rfl rfl ?_
              refine rs_koff 28 rfl (met_off rfl rfl rfl rfl rfl) rfl rfl ?_
              refine rs_kv 29 rfl rfl rfl rfl (S' := fun _ => True) trivial (v_pick_false rfl rfl) ?_
              refine rs_kv 30 rfl rfl rfl rfl (S' := fun _ => True) trivial (v_move rfl) ?_
              refine rs_aoff 31 rfl (met_off rfl rfl rfl rfl rfl) rfl rfl ?_
              refine rs_aoff 32 rfl (met_off rfl rfl rfl rfl rfl) rfl rfl ?_
              refine rs_aoff 33 rfl (met_off rfl rfl rfl rfl rfl) rfl rfl ?_
              refine rs_aoff 34 rfl (met_off rfl rfl rfl rfl rfl) rfl rfl ?_
              refine rs_aoff 36 rfl (met_off rfl rfl rfl rfl rfl) rfl rfl ?_
              refine rs_aoff 37 rfl (met_off rfl rfl rfl rfl rfl) rfl rfl ?_
              refine rs_aoff 38 rfl (met_off rfl rfl rfl rfl rfl) rfl rfl ?_
              refine rs_aoff 39 rfl (met_off rfl rfl rfl rfl rfl) rfl rfl ?_
              refine rs_aoff 41 rfl (met_off rfl rfl rfl rfl rfl) rfl rfl ?_
              refine rs_aoff 42 rfl (met_off rfl rfl rfl rfl rfl) rfl rfl ?_
              refine rs_aoff 43 rfl (met_off rfl rfl rfl rfl rfl) rfl rfl ?_
              refine rs_aoff 44 rfl (met_off rfl rfl rfl rfl rfl) rfl rfl ?_
              refine rs_voff 35 rfl (met_off rfl rfl rfl rfl rfl) rfl rfl (by exact hw) ?_
              refine rs_voff 40 rfl (met_off rfl rfl rfl rfl rfl) rfl rfl (by exact hw) ?_
              refine rs_koff 45 rfl (met_off rfl rfl rfl rfl rfl) rfl rfl ?_
              refine rs_koff 46 rfl (met_off rfl rfl rfl rfl rfl) rfl rfl ?_
              refine rs_koff 47 rfl (met_off rfl rfl rfl rfl rfl) rfl rfl ?_
              refine rs_kv 48 rfl rfl rfl rfl (S' := fun _ => True) trivial (v_pick_false rfl rfl) ?_
              refine rs_done (g_le (xK (xK (xK (xK (xK (xK (xK (xK (xK (xK (xK (xK (xK (xK (xK (xK (xK (xK (xK (xK (xK (xK (xK (xK (xK (xK (xK (xK (xK (xK (xK (xK (xK (xK (xK (xK (xK (xK (xK (xK (xK (xK (xK (xK (xK (xK (xK (xK (xK (xK (Fr.le_refl _))))))))))))))))))))))))))))))))))))))))))))))))))) ?_)
              refine g_cond_false rfl ?_
              refine g_skip (g_inBlock ?_)
              refine g_region ?_
              refine xV rfl rfl rfl (v_move rfl) ?_
              refine xV rfl rfl rfl (v_add rfl rfl (by omega)) ?_
              refine xV rfl rfl rfl (v_assign rfl) ?_
              refine rl_nil (g_le (xK (xK (xK (Fr.le_refl _)))) ?_)
              refine g_le (by repeat (first | exact Fr.le_nil _ | refine Fr.le_cons rfl ?_)) (ih2 (k + 1) w ⟨by omega, fun j q hj hq => ?_, hw⟩ (by omega))
              rcases Nat.lt_or_ge j k with h9 | h9
              · exact hin j q h9 hq
              · obtain rfl : j = k := by omega
                rw [hy] at hq
                obtain rfl := Option.some.inj hq
                intro he
                omega
      · try with_reducible exact tf_elim h2
        all_goals
          try replace h2 := of_decide_eq_false h2
          refine g_exit rfl (g_inBlock ?_)
          refine g_region ?_
          refine xV rfl rfl rfl (v_move rfl) ?_
          refine xV rfl rfl rfl (v_add rfl rfl (by omega)) ?_
          refine xV rfl rfl rfl (v_assign rfl) ?_
          refine rl_nil (g_le (xK (xK (xK (Fr.le_refl _)))) ?_)
          refine g_le (by repeat (first | exact Fr.le_nil _ | refine Fr.le_cons rfl ?_)) (ih (i + 1) w ⟨by omega, fun j1 j2 p q h1 h2 hp hq => ?_, hw⟩ (by omega))
          rcases Nat.lt_or_ge j1 i with h9 | h9
          · exact hall j1 j2 p q h1 h9 hp hq
          · obtain rfl : j1 = i := by omega
            rw [hx] at hp
            obtain rfl := Option.some.inj hp
            exact hin j2 q (by omega) hq
  · try with_reducible exact tf_elim h1
    all_goals
      try replace h1 := of_decide_eq_false h1
      refine g_exit rfl (g_seq ?_)
      refine g_region ?_
      refine xV rfl rfl rfl (v_assign rfl) ?_
      refine rl_nil (g_le (xK (Fr.le_refl _)) ?_)
      refine g_ret1 Try.func75 rfl rfl ?_
      refine ⟨false, rfl, ⟨fun _ => ?_, fun _ => rfl⟩, hw⟩
      rw [List.pairwise_iff_getElem]
      intro j1 j2 h1 h2 h3
      exact apart_symm (hall j2 j1 _ _ h3 (by omega) (List.getElem?_eq_getElem h2) (List.getElem?_eq_getElem h1))
end Go.Proofs.Ytipdklbedpkobaa
