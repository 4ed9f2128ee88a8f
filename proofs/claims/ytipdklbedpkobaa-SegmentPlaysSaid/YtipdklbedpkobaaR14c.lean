/-
  The document's log (letheref14): New, Append, accounts, Settle, Copy.
-/
import Derived.Test.YtipdklbedpkobaaR14b
namespace Go.Proofs.Ytipdklbedpkobaa
set_option maxRecDepth 8000
set_option linter.unusedSimpArgs false
set_option linter.unusedVariables false
open Go Xe Go.Lib
theorem rset {f : Sg → Int} {g : Sg → Int} {rs : List Sg} {i : Nat} {x y : Sg} (h : rs[i]? = some x) (hy : f y = g y) (he : ∀ j z, rs[j]? = some z → j ≠ i → f z = g z) : (rs.map fun x => Value.int .i64 (f x)).set i (Value.int .i64 (g y)) = (rs.set i y).map fun x => Value.int .i64 (g x) := by
  apply List.ext_getElem?
  intro j
  by_cases hj : j = i
  · subst hj
    have hi := (List.getElem?_eq_some_iff.1 h).1
    rw [List.getElem?_set_self (by rw [List.length_map]; exact hi), List.getElem?_map, List.getElem?_set_self hi]; rfl
  · rw [List.getElem?_set_ne (fun e => hj e.symm), List.getElem?_map, List.getElem?_map, List.getElem?_set_ne (fun e => hj e.symm)]
    cases hz : rs[j]? with
    | none => rfl
    | some z => simp only [Option.map_some]; rw [he j z hz hj]
theorem kset {rs : List Sg} {i : Nat} {x y : Sg} (h : rs[i]? = some x) : (rs.map fun x => Value.int .i64 x.kind).set i (Value.int .i64 y.kind) = (rs.set i y).map fun x => Value.int .i64 x.kind := rset (f := Sg.kind) (g := Sg.kind) h rfl (fun _ _ _ _ => rfl)
theorem uset {rs : List Sg} {i : Nat} {x y : Sg} (h : rs[i]? = some x) : (rs.map fun x => Value.int .i64 x.used).set i (Value.int .i64 y.used) = (rs.set i y).map fun x => Value.int .i64 x.used := rset (f := Sg.used) (g := Sg.used) h rfl (fun _ _ _ _ => rfl)
theorem lset {rs : List Sg} {i : Nat} {x y : Sg} (h : rs[i]? = some x) : (rs.map fun x => Value.int .i64 x.live).set i (Value.int .i64 y.live) = (rs.set i y).map fun x => Value.int .i64 x.live := rset (f := Sg.live) (g := Sg.live) h rfl (fun _ _ _ _ => rfl)
theorem set_same {f : Sg → Int} {rs : List Sg} {i : Nat} {x y : Sg} (h : rs[i]? = some x) (hy : f y = f x) : ((rs.set i y).map fun x => Value.int .i64 (f x)) = rs.map fun x => Value.int .i64 (f x) := by
  apply List.ext_getElem?
  intro j
  rw [List.getElem?_map, List.getElem?_map]
  by_cases hj : j = i
  · subst hj
    rw [List.getElem?_set_self (List.getElem?_eq_some_iff.1 h).1, h]; simp only [Option.map_some]; rw [hy]
  · rw [List.getElem?_set_ne (fun e => hj e.symm)]
theorem ord_f76_r7_R14c : orderOfB Try.f76 7 [27] (.a 0 (.a 1 (.a 2 (.a 4 (.a 5 (.a 6 (.a 7 (.a 9 (.a 10 (.a 11 (.a 13 (.a 14 (.a 15 (.a 16 (.a 20 (.a 21 (.a 22 (.a 23 (.v 3 (.v 8 (.v 12 (.v 17 (.a 18 (.v 19 (.k 24 (.k 25 (.k 26 (.k 27 .done)))))))))))))))))))))))))))) = true := by kernel_rfl
set_option maxHeartbeats 2000000 in
theorem accounts_calls {E : Env} {w : World} {L : List As} {q rm k1 k2 k3 c1 c2 c3 : Nat} {rs : List Sg} {A : As} {v : Value} {xs : List Pl} (hb : rs.length ≤ 4096) (hS : SrcA A v xs) (hwi : ∀ p ∈ xs, 0 ≤ p.seg ∧ p.seg < rs.length ∧ 1 ≤ p.len ∧ p.len ≤ 1048576)
    (hw : Sat E w (pt q (.cells [Value.pointer (some ⟨rm, 0, none⟩), .slice (some ⟨k1, 0, none⟩) (rs : List Sg).length c1, .slice (some ⟨k2, 0, none⟩) (rs : List Sg).length c2, .slice (some ⟨k3, 0, none⟩) (rs : List Sg).length c3].toArray 120 (0, 0)) :: OwnSl 3 1 (.slice (some ⟨k1, 0, none⟩) (rs).length c1) (rs).length ((rs).map fun x => Value.int .i64 x.kind) :: OwnSl 3 1 (.slice (some ⟨k2, 0, none⟩) (rs).length c2) (rs).length ((rs).map fun x => Value.int .i64 x.used) :: OwnSl 3 1 (.slice (some ⟨k3, 0, none⟩) (rs).length c3) (rs).length ((rs).map fun x => Value.int .i64 x.live) :: A :: L)) :
    Calls Try.prog 76 #[.pointer (some ⟨q, 0, none⟩), v] w fun e w' => e = .returned (.tuple #[]) ∧ Sat E w' (pt q (.cells [Value.pointer (some ⟨rm, 0, none⟩), .slice (some ⟨k1, 0, none⟩) ((lived rs xs) : List Sg).length c1, .slice (some ⟨k2, 0, none⟩) ((lived rs xs) : List Sg).length c2, .slice (some ⟨k3, 0, none⟩) ((lived rs xs) : List Sg).length c3].toArray 120 (0, 0)) :: OwnSl 3 1 (.slice (some ⟨k1, 0, none⟩) ((lived rs xs)).length c1) ((lived rs xs)).length (((lived rs xs)).map fun x => Value.int .i64 x.kind) :: OwnSl 3 1 (.slice (some ⟨k2, 0, none⟩) ((lived rs xs)).length c2) ((lived rs xs)).length (((lived rs xs)).map fun x => Value.int .i64 x.used) :: OwnSl 3 1 (.slice (some ⟨k3, 0, none⟩) ((lived rs xs)).length c3) ((lived rs xs)).length (((lived rs xs)).map fun x => Value.int .i64 x.live) :: A :: L) := by
  obtain ⟨a, c', rfl, hn, hat⟩ := hS
  refine calls_of_g (n := 54) Try.func76 rfl rfl rfl ?_
  change G _ _ _ _ _ [(0, _), (1, _)] _
  refine g_seq (g_seq ?_)
  refine g_region ?_
  refine xV rfl rfl rfl (v_assign rfl) ?_
  refine rl_nil (g_le (xK (Fr.le_refl _)) ?_)
  refine g_block ?_
  refine g_loopC (σ := Nat) (fun C x => (4, .int .i64 (x : Nat)) :: C) [(0, _), (1, _)] (by repeat (first | exact Fr.le_nil _ | refine Fr.le_cons rfl ?_)) (fun z w => z ≤ rs.length ∧ Sat E w (OwnSl 3 1 (.slice (some ⟨k3, 0, none⟩) rs.length c3) rs.length ((upTo zl rs z).map fun x => Value.int .i64 x.live) :: pt q (.cells [Value.pointer (some ⟨rm, 0, none⟩), .slice (some ⟨k1, 0, none⟩) rs.length c1, .slice (some ⟨k2, 0, none⟩) rs.length c2, .slice (some ⟨k3, 0, none⟩) rs.length c3].toArray 120 (0, 0)) :: OwnSl 3 1 (.slice (some ⟨k1, 0, none⟩) rs.length c1) rs.length (rs.map fun x => Value.int .i64 x.kind) :: OwnSl 3 1 (.slice (some ⟨k2, 0, none⟩) rs.length c2) rs.length (rs.map fun x => Value.int .i64 x.used) :: A :: L)) (fun z => rs.length - z) ?_ 0 (by repeat (first | exact Fr.le_nil _ | refine Fr.le_cons rfl ?_)) ⟨by simp, by rw [upTo_zero]; exact hw.xQ⟩
  rintro i w ⟨hi, hw⟩ ih
  refine g_seq (g_seq ?_)
  refine g_region ?_
  refine xV rfl rfl rfl (v_move rfl) ?_
  refine xV rfl rfl rfl (v_move rfl) ?_
  refine xV rfl rfl rfl (v_nilCheck rfl) ?_
  refine xV rfl rfl rfl (v_fieldAddr0 T.fld_120_3_3 rfl) ?_
  refine rl_v rfl rfl rfl (by exact sat_cell hw (by (repeat first | with_reducible exact xH | apply xT); first | done | fail) rfl) (v_load T.scal_61 rfl) ?_
  refine xV rfl rfl rfl (v_lenSlice T.sl_61_3_1 rfl) ?_
  refine xV rfl rfl rfl (v_lss rfl rfl) ?_
  refine rl_nil (g_le (xK (xK (xK (xK (xK (xK (xK (Fr.le_refl _)))))))) ?_)
  refine g_cond rfl (fun h1 => ?_) (fun h1 => ?_)
  · try with_reducible exact ft_elim h1
    all_goals
      try replace h1 := of_decide_eq_true h1
      refine g_skip (g_seq (g_block ?_))
      have hlt : i < rs.length := by omega
      have hx : rs[i]? = some rs[i] := List.getElem?_eq_getElem hlt
      generalize rs[i] = x at hx
      have hst : 0 + (i : Int).toNat * 1 < ((upTo zl rs i).map fun x => Value.int .i64 x.live).length := by rw [List.length_map, upTo_len]; omega
      refine g_region ?_
      refine xV rfl rfl rfl (v_move rfl) ?_
      refine xV rfl rfl rfl (v_nilCheck rfl) ?_
      refine xV rfl rfl rfl (v_fieldAddr0 T.fld_120_3_3 rfl) ?_
      refine rl_v rfl rfl rfl (by exact sat_cell hw (by (repeat first | with_reducible exact xH | apply xT); first | done | fail) rfl) (v_load T.scal_61 rfl) ?_
      refine xV rfl rfl rfl (v_move rfl) ?_
      refine xV rfl rfl rfl (v_indexAddr T.sl_61_3_1 rfl rfl (by omega) (by omega)) ?_
      refine rl_k rfl (k_storeOwn hw T.scal_3 rfl rfl rfl (by (repeat first | with_reducible exact xH | apply xT); first | done | fail) (by assumption) (fun w hw => ?_))
      refine rl_nil (g_le (xK (xK (xK (xK (xK (xK (Fr.le_refl _))))))) ?_)
      refine g_inBlock ?_
      refine g_region ?_
      refine xV rfl rfl rfl (v_move rfl) ?_
      refine xV rfl rfl rfl (v_add rfl rfl (by omega)) ?_
      refine xV rfl rfl rfl (v_assign rfl) ?_
      refine rl_nil (g_le (xK (xK (xK (Fr.le_refl _)))) ?_)
      rw [show 0 + (i : Int).toNat * 1 = i by omega, show (Value.int IntKind.i64 0) = Value.int .i64 (zl x).live from rfl, lset (upTo_at hx), upTo_succ hx] at hw
      exact g_le (by repeat (first | exact Fr.le_nil _ | refine Fr.le_cons rfl ?_)) (ih (i + 1) w ⟨by omega, hw.xQ⟩ (by omega))
  · try with_reducible exact tf_elim h1
    all_goals
      try replace h1 := of_decide_eq_false h1
      refine g_exit rfl (g_seq ?_)
      obtain rfl : i = rs.length := by omega
      rw [upTo_all, ← lived_nil] at hw
      refine g_region ?_
      refine xV rfl rfl rfl (v_assign rfl) ?_
      refine rl_nil (g_le (xK (Fr.le_refl _)) ?_)
      refine g_block ?_
      refine g_loopC (σ := Nat) (fun C x => (5, .int .i64 (x : Nat)) :: C) [(0, _), (1, _)] (by repeat (first | exact Fr.le_nil _ | refine Fr.le_cons rfl ?_)) (fun z w => z ≤ xs.length ∧ Sat E w (OwnSl 3 1 (.slice (some ⟨k3, 0, none⟩) rs.length c3) rs.length ((lived rs (xs.take z)).map fun x => Value.int .i64 x.live) :: pt q (.cells [Value.pointer (some ⟨rm, 0, none⟩), .slice (some ⟨k1, 0, none⟩) rs.length c1, .slice (some ⟨k2, 0, none⟩) rs.length c2, .slice (some ⟨k3, 0, none⟩) rs.length c3].toArray 120 (0, 0)) :: OwnSl 3 1 (.slice (some ⟨k1, 0, none⟩) rs.length c1) rs.length (rs.map fun x => Value.int .i64 x.kind) :: OwnSl 3 1 (.slice (some ⟨k2, 0, none⟩) rs.length c2) rs.length (rs.map fun x => Value.int .i64 x.used) :: A :: L)) (fun z => xs.length - z) ?_ 0 (by repeat (first | exact Fr.le_nil _ | refine Fr.le_cons rfl ?_)) ⟨by simp, by rw [List.take_zero]; exact hw.xQ⟩
      rintro i w ⟨hi, hw⟩ ih
      refine g_seq (g_seq ?_)
      refine g_region ?_
      refine xV rfl rfl rfl (v_move rfl) ?_
      refine xV rfl rfl rfl (v_move rfl) ?_
      refine xV rfl rfl rfl (v_lenSlice T.sl_70_58_3 rfl) ?_
      refine xV rfl rfl rfl (v_lss rfl rfl) ?_
      refine rl_nil (g_le (xK (xK (xK (xK (Fr.le_refl _))))) ?_)
      refine g_cond rfl (fun h2 => ?_) (fun h2 => ?_)
      · try with_reducible exact ft_elim h2
        all_goals
          try replace h2 := of_decide_eq_true h2
          refine g_skip (g_seq (g_block ?_))
          have hlt : i < xs.length := by omega
          have hx : xs[i]? = some xs[i] := List.getElem?_eq_getElem hlt
          generalize xs[i] = x at hx
          obtain ⟨b', o', hab, hcx⟩ := hat i x hx
          subst hab
          rw [show i * 3 = (i : Int).toNat * 3 by omega] at hcx
          obtain ⟨hx1, hx2, hx3, hx4⟩ := hwi x (List.mem_of_getElem? hx)
          obtain ⟨y, hy⟩ : ∃ y, rs[x.seg.toNat]? = some y := ⟨_, List.getElem?_eq_getElem (by omega)⟩
          have hlb := liveOf_bound 1048576 (xs.take i) x.seg.toNat (fun p hp => by have := hwi p (List.mem_of_mem_take hp); omega)
          have htl : (xs.take i).length ≤ xs.length := by rw [List.length_take]; omega
          have hlv := lget hx1 (lived_at (xs.take i) hy)
          dsimp only at hlv
          have hst : 0 + x.seg.toNat * 1 < ((lived rs (xs.take i)).map fun x => Value.int .i64 x.live).length := by rw [List.length_map, lived_len]; omega
          have hs0 : ∀ (w : World) (M : List As), Sat E w (A :: M) → w.cell? ⟨b', o' + (i : Int).toNat * 3, none⟩ = some (.int .i64 x.seg) := fun w M h => (hcx E w M h).1
          have hs2 : ∀ (w : World) (M : List As), Sat E w (A :: M) → w.cell? ⟨b', o' + (i : Int).toNat * 3 + 2, none⟩ = some (.int .i64 x.len) := fun w M h => (hcx E w M h).2.2.1
          refine g_drawR ord_f76_r7_R14c (by kernel_rfl) T.mixed hw (fun w hw => ?_)
          refine rs_a 0 rfl rfl rfl rfl (v_move rfl) ?_
          refine rs_a 1 rfl rfl rfl rfl (v_nilCheck rfl) ?_
          refine rs_a 2 rfl rfl rfl rfl (v_fieldAddr0 T.fld_120_3_3 rfl) ?_
          refine rs_a 4 rfl rfl rfl rfl (v_move rfl) ?_
          refine rs_a 5 rfl rfl rfl rfl (v_move rfl) ?_
          refine rs_a 6 rfl rfl rfl rfl (v_indexAddr T.sl_70_58_3 rfl rfl (by omega) (by omega)) ?_
          refine rs_a 7 rfl rfl rfl rfl (v_fieldAddr T.fld_58_0_0 rfl) ?_
          refine rs_a 9 rfl rfl rfl rfl (v_move rfl) ?_
          refine rs_a 10 rfl rfl rfl rfl (v_nilCheck rfl) ?_
          refine rs_a 11 rfl rfl rfl rfl (v_fieldAddr0 T.fld_120_3_3 rfl) ?_
          refine rs_a 13 rfl rfl rfl rfl (v_move rfl) ?_
          refine rs_a 14 rfl rfl rfl rfl (v_move rfl) ?_
          refine rs_a 15 rfl rfl rfl rfl (v_indexAddr T.sl_70_58_3 rfl rfl (by omega) (by omega)) ?_
          refine rs_a 16 rfl rfl rfl rfl (v_fieldAddr T.fld_58_0_0 rfl) ?_
          refine rs_a 20 rfl rfl rfl rfl (v_move rfl) ?_
          refine rs_a 21 rfl rfl rfl rfl (v_move rfl) ?_
          refine rs_a 22 rfl rfl rfl rfl (v_indexAddr T.sl_70_58_3 rfl rfl (by omega) (by omega)) ?_
          refine rs_a 23 rfl rfl rfl rfl (v_fieldAddr T.fld_58_2_2 rfl) ?_
          refine rs_v 3 rfl rfl rfl rfl (OpV.mono (v_load T.scal_61 rfl) (fun w hw => by exact sat_cell hw (by (repeat first | with_reducible exact xH | apply xT); first | done | fail) rfl)) (by exact hw) ?_
          refine rs_v 8 rfl rfl rfl rfl (OpV.mono (v_load T.scal_3 rfl) (fun w hw => by exact hs0 _ _ (hw.xP))) (by exact hw) ?_
          refine rs_v 12 rfl rfl rfl rfl (OpV.mono (v_load T.scal_61 rfl) (fun w hw => by exact sat_cell hw (by (repeat first | with_reducible exact xH | apply xT); first | done | fail) rfl)) (by exact hw) ?_
          refine rs_v 17 rfl rfl rfl rfl (OpV.mono (v_load T.scal_3 rfl) (fun w hw => by exact hs0 _ _ (hw.xP))) (by exact hw) ?_
          refine rs_a 18 rfl rfl rfl rfl (v_indexAddr T.sl_61_3_1 rfl rfl (by omega) (by omega)) ?_
          refine rs_v 19 rfl rfl rfl rfl (OpV.mono (v_load T.scal_3 rfl) (fun w hw => by exact own_cell hw (by (repeat first | with_reducible exact xH | apply xT); first | done | fail) (by first | rfl | assumption))) (by exact hw) ?_
          refine rs_kv 24 rfl rfl rfl rfl (by exact hs2 _ _ (hw.xP)) (v_load T.scal_3 rfl) ?_
          refine rs_kv 25 rfl rfl rfl rfl (S' := fun _ => True) trivial (v_add rfl rfl (by omega)) ?_
          refine rs_kv 26 rfl rfl rfl rfl (S' := fun _ => True) trivial (v_indexAddr T.sl_61_3_1 rfl rfl (by omega) (by omega)) ?_
          refine rs_k 27 rfl rfl (k_storeOwn hw T.scal_3 rfl rfl rfl (by (repeat first | with_reducible exact xH | apply xT); first | done | fail) (by assumption) (fun w hw => ?_))
          refine ⟨fun hn => absurd (by decide) hn, ?_⟩
          refine rs_done (g_le (xK (xK (xK (xK (xK (xK (xK (xK (xK (xK (xK (xK (xK (xK (xK (xK (xK (xK (xK (xK (xK (xK (xK (xK (xK (xK (xK (Fr.le_refl _)))))))))))))))))))))))))))) ?_)
          refine g_inBlock ?_
          refine g_region ?_
          refine xV rfl rfl rfl (v_move rfl) ?_
          refine xV rfl rfl rfl (v_add rfl rfl (by omega)) ?_
          refine xV rfl rfl rfl (v_assign rfl) ?_
          refine rl_nil (g_le (xK (xK (xK (Fr.le_refl _)))) ?_)
          have e9 : (liveOf (xs.take i) x.seg.toNat + x.len) = (⟨y.kind, y.used, liveOf (xs.take i) x.seg.toNat + x.len⟩ : Sg).live := rfl
          rw [show 0 + x.seg.toNat * 1 = x.seg.toNat by omega, e9, lset (lived_at _ hy), lived_snoc _ hx1 hy] at hw
          refine g_le (by repeat (first | exact Fr.le_nil _ | refine Fr.le_cons rfl ?_)) (ih (i + 1) w ⟨by omega, ?_⟩ (by omega))
          rw [List.take_add_one, hx, Option.toList_some]
          exact hw.xQ
      · try with_reducible exact tf_elim h2
        all_goals
          try replace h2 := of_decide_eq_false h2
          refine g_exit rfl ?_
          refine g_end0 Try.func76 rfl ?_
          obtain rfl : i = xs.length := by omega
          rw [List.take_length] at hw
          have hkk : ((lived rs xs).map fun x => Value.int .i64 x.kind) = rs.map fun x => Value.int .i64 x.kind := by apply List.ext_getElem?; intro j; unfold lived; rw [List.getElem?_map, List.getElem?_map, List.getElem?_mapIdx, Option.map_map]; rfl
          have huu : ((lived rs xs).map fun x => Value.int .i64 x.used) = rs.map fun x => Value.int .i64 x.used := by apply List.ext_getElem?; intro j; unfold lived; rw [List.getElem?_map, List.getElem?_map, List.getElem?_mapIdx, Option.map_map]; rfl
          refine ⟨rfl, ?_⟩
          rw [lived_len, hkk, huu]
          exact hw.xQ
theorem ord_f52_r5_R14c : orderOfB Try.f52 5 [] (.a 0 (.a 1 (.a 2 (.a 4 (.v 3 (.k 5 (.k 6 (.k 7 (.k 8 (.a 9 (.a 10 (.a 11 (.a 13 (.v 12 (.k 14 (.k 15 (.k 16 (.k 17 (.k 18 (.k 19 (.a 21 (.a 22 (.a 23 (.a 25 (.v 20 (.v 24 (.k 26 (.k 27 (.k 28 (.k 29 (.k 30 (.k 31 .done)))))))))))))))))))))))))))))))) = true := by kernel_rfl
set_option maxHeartbeats 2000000 in
theorem rsettle_calls {E : Env} {w : World} {L : List As} {q rm p k1 k2 k3 c1 c2 c3 : Nat} {rs : List Sg} {md : Md} {A : As} {v : Value} {xs : List Pl} (hb : rs.length ≤ 4096) (hl : md.segs.length = rs.length) (hu : ∀ x ∈ rs, 0 ≤ x.used ∧ x.used ≤ 1048576) (hS : SrcA A v xs) (hok : ∀ p ∈ xs, p.len ≤ 9223372036854775807)
    (hw : Sat E w (pt q (.cells [Value.pointer (some ⟨rm, 0, none⟩), .slice (some ⟨k1, 0, none⟩) (rs : List Sg).length c1, .slice (some ⟨k2, 0, none⟩) (rs : List Sg).length c2, .slice (some ⟨k3, 0, none⟩) (rs : List Sg).length c3].toArray 120 (0, 0)) :: OwnSl 3 1 (.slice (some ⟨k1, 0, none⟩) (rs).length c1) (rs).length ((rs).map fun x => Value.int .i64 x.kind) :: OwnSl 3 1 (.slice (some ⟨k2, 0, none⟩) (rs).length c2) (rs).length ((rs).map fun x => Value.int .i64 x.used) :: OwnSl 3 1 (.slice (some ⟨k3, 0, none⟩) (rs).length c3) (rs).length ((rs).map fun x => Value.int .i64 x.live) :: RmAt rm p md :: A :: L)) :
    Calls Try.prog 52 #[.pointer (some ⟨q, 0, none⟩), v] w fun e w' => ∃ r : Bool, e = .returned (.int .i64 (if r then 0 else 121)) ∧ (r = true ↔ fitsP (usedS rs) rs.length xs) ∧ Sat E w' (pt q (.cells [Value.pointer (some ⟨rm, 0, none⟩), .slice (some ⟨k1, 0, none⟩) (((if r then settled rs xs else rs)) : List Sg).length c1, .slice (some ⟨k2, 0, none⟩) (((if r then settled rs xs else rs)) : List Sg).length c2, .slice (some ⟨k3, 0, none⟩) (((if r then settled rs xs else rs)) : List Sg).length c3].toArray 120 (0, 0)) :: OwnSl 3 1 (.slice (some ⟨k1, 0, none⟩) (((if r then settled rs xs else rs))).length c1) (((if r then settled rs xs else rs))).length ((((if r then settled rs xs else rs))).map fun x => Value.int .i64 x.kind) :: OwnSl 3 1 (.slice (some ⟨k2, 0, none⟩) (((if r then settled rs xs else rs))).length c2) (((if r then settled rs xs else rs))).length ((((if r then settled rs xs else rs))).map fun x => Value.int .i64 x.used) :: OwnSl 3 1 (.slice (some ⟨k3, 0, none⟩) (((if r then settled rs xs else rs))).length c3) (((if r then settled rs xs else rs))).length ((((if r then settled rs xs else rs))).map fun x => Value.int .i64 x.live) :: RmAt rm p md :: A :: L) := by
  have hub := usedS_bound hu
  obtain ⟨a, c', rfl, hn, hat⟩ := id hS
  refine calls_of_g (n := 88) Try.func52 rfl rfl rfl ?_
  change G _ _ _ _ _ [(0, _), (1, _)] _
  refine g_seq ?_
  refine g_region ?_
  refine xV rfl rfl rfl (v_assign rfl) ?_
  refine rl_nil (g_le (xK (Fr.le_refl _)) ?_)
  refine g_seq (g_seq ?_)
  refine g_region ?_
  refine xV rfl rfl rfl (v_assign rfl) ?_
  refine rl_nil (g_le (xK (Fr.le_refl _)) ?_)
  refine g_block ?_
  refine g_loopC (σ := Nat) (fun C x => (5, .int .i64 (x : Nat)) :: C) [(0, _), (1, _), (4, _)] (by repeat (first | exact Fr.le_nil _ | refine Fr.le_cons rfl ?_)) (fun z w => z ≤ xs.length ∧ (∀ j p, j < z → xs[j]? = some p → within (usedS rs) rs.length p) ∧ Sat E w (RmAt rm p md :: pt q (.cells [Value.pointer (some ⟨rm, 0, none⟩), .slice (some ⟨k1, 0, none⟩) (rs : List Sg).length c1, .slice (some ⟨k2, 0, none⟩) (rs : List Sg).length c2, .slice (some ⟨k3, 0, none⟩) (rs : List Sg).length c3].toArray 120 (0, 0)) :: OwnSl 3 1 (.slice (some ⟨k1, 0, none⟩) (rs).length c1) (rs).length ((rs).map fun x => Value.int .i64 x.kind) :: OwnSl 3 1 (.slice (some ⟨k2, 0, none⟩) (rs).length c2) (rs).length ((rs).map fun x => Value.int .i64 x.used) :: OwnSl 3 1 (.slice (some ⟨k3, 0, none⟩) (rs).length c3) (rs).length ((rs).map fun x => Value.int .i64 x.live) :: A :: L)) (fun z => xs.length - z) ?_ 0 (by repeat (first | exact Fr.le_nil _ | refine Fr.le_cons rfl ?_)) ⟨by simp, by simp, hw.xQ⟩
  rintro i w ⟨hi, hall, hw⟩ ih
  refine g_seq (g_seq ?_)
  refine g_region ?_
  refine xV rfl rfl rfl (v_move rfl) ?_
  refine xV rfl rfl rfl (v_move rfl) ?_
  refine xV rfl rfl rfl (v_lenSlice T.sl_70_58_3 rfl) ?_
  refine xV rfl rfl rfl (v_lss rfl rfl) ?_
  refine rl_nil (g_le (xK (xK (xK (xK (Fr.le_refl _))))) ?_)
  refine g_cond rfl (fun h1 => ?_) (fun h1 => ?_)
  · try with_reducible exact ft_elim h1
    all_goals
      try replace h1 := of_decide_eq_true h1
      refine g_skip (g_seq (g_block (g_seq ?_)))
      have hlt : i < xs.length := by omega
      have hx : xs[i]? = some xs[i] := List.getElem?_eq_getElem hlt
      generalize xs[i] = x at hx
      obtain ⟨b', o', hab, hcx⟩ := hat i x hx
      subst hab
      rw [show i * 3 = (i : Int).toNat * 3 by omega] at hcx
      have hxl := hok x (List.mem_of_getElem? hx)
      refine g_region ?_
      refine xV rfl rfl rfl (v_move rfl) ?_
      refine xV rfl rfl rfl (v_move rfl) ?_
      refine xV rfl rfl rfl (v_indexAddr T.sl_70_58_3 rfl rfl (by omega) (by omega)) ?_
      refine rl_v rfl rfl rfl (by exact hcx _ _ _ (hw.xP)) (v_loadAgg (vs := [_, _, _]) T.agg_58_3 rfl rfl) ?_
      refine rl_k rfl (k_alloc hw T.zero_58 rfl rfl (fun bk4_4 w hw => ?_))
      refine rl_k rfl (k_storeWhole hw T.agg_58_3 rfl rfl (by simp [Value.oneCell']) rfl (by (repeat first | with_reducible exact xH | apply xT); first | done | fail) rfl (fun w hw => ?_))
      refine rl_nil (g_le (xK (xK (xK (xK (xK (Fr.le_refl _)))))) ?_)
      refine g_seq ?_
      have hw := hw.xP (A := RmAt rm p md)
      refine g_drawB ord_f52_r5_R14c (by kernel_rfl) T.mixed (fun w hw => (hw.pick .at0).drop) hw (fun w hw => ?_)
      refine rs_a 0 rfl rfl rfl rfl (v_move rfl) ?_
      refine rs_a 1 rfl rfl rfl rfl (v_nilCheck rfl) ?_
      refine rs_a 2 rfl rfl rfl rfl (v_fieldAddr0 T.fld_120_0_0 rfl) ?_
      refine rs_a 4 rfl rfl rfl rfl (v_fieldAddr0 T.fld_58_0_0 rfl) ?_
      refine rs_v 3 rfl rfl rfl rfl (OpV.mono (v_load T.scal_81 rfl) (fun w hw => by exact sat_cell hw (by (repeat first | with_reducible exact xH | apply xT); first | done | fail) rfl)) (by exact Sat.sub hw (by (repeat (first | with_reducible exact Sub.refl _ | exact Sub.nil _ | (apply Sub.cons; focus ((repeat (first | with_reducible exact Pick.here _ | apply Pick.there)); (first | done | fail))) | with_reducible apply Sub.drop)); first | done | fail)) ?_
      refine rs_kv 5 rfl rfl rfl rfl (by exact sat_cell hw (by (repeat first | with_reducible exact xH | apply xT); first | done | fail) rfl) (v_load T.scal_3 rfl) ?_
      refine rs_k 6 rfl rfl (k_callf Try.func73 rfl rfl rfl rfl ?_)
      refine Calls.mono (ris_calls x.seg hw) ?_
      rintro _ w ⟨rfl, hw⟩
      refine ⟨_, rfl, ?_⟩
      refine ⟨fun _ => (by exact Sat.sub hw (by (repeat (first | with_reducible exact Sub.refl _ | exact Sub.nil _ | (apply Sub.cons; focus ((repeat (first | with_reducible exact Pick.here _ | apply Pick.there)); (first | done | fail))) | with_reducible apply Sub.drop)); first | done | fail)), ?_⟩
      refine rs_kv 7 rfl rfl rfl rfl (S' := fun _ => True) trivial (v_not rfl) ?_
      refine rs_kv 8 rfl rfl rfl rfl (S' := fun _ => True) trivial (v_move rfl) ?_
      refine rs_split (s := 26) rfl (fun g5_8 => ?_) (fun g5_8 => ?_)
      · try with_reducible exact ft_elim g5_8
        all_goals
          try replace g5_8 := of_decide_eq_true g5_8
          refine rs_aoff 9 rfl (met_off rfl rfl rfl rfl rfl) rfl rfl ?_
          refine rs_aoff 10 rfl (met_off rfl rfl rfl rfl rfl) rfl rfl ?_
          refine rs_aoff 11 rfl (met_off rfl rfl rfl rfl rfl) rfl rfl ?_
          refine rs_aoff 13 rfl (met_off rfl rfl rfl rfl rfl) rfl rfl ?_
          refine rs_voff 12 rfl (met_off rfl rfl rfl rfl rfl) rfl rfl (by exact Sat.sub hw (by (repeat (first | with_reducible exact Sub.refl _ | exact Sub.nil _ | (apply Sub.cons; focus ((repeat (first | with_reducible exact Pick.here _ | apply Pick.there)); (first | done | fail))) | with_reducible apply Sub.drop)); first | done | fail)) ?_
          refine rs_koff 14 rfl (met_off rfl rfl rfl rfl rfl) rfl rfl ?_
          refine rs_koff 15 rfl (met_off rfl rfl rfl rfl rfl) rfl rfl ?_
          refine rs_koff 16 rfl (met_off rfl rfl rfl rfl rfl) rfl rfl ?_
          refine rs_koff 17 rfl (met_off rfl rfl rfl rfl rfl) rfl rfl ?_
          refine rs_kv 18 rfl rfl rfl rfl (S' := fun _ => True) trivial (v_pick_true rfl rfl) ?_
          refine rs_kv 19 rfl rfl rfl rfl (S' := fun _ => True) trivial (v_move rfl) ?_
          refine rs_aoff 21 rfl (met_off rfl rfl rfl rfl rfl) rfl rfl ?_
          refine rs_aoff 22 rfl (met_off rfl rfl rfl rfl rfl) rfl rfl ?_
          refine rs_aoff 23 rfl (met_off rfl rfl rfl rfl rfl) rfl rfl ?_
          refine rs_aoff 25 rfl (met_off rfl rfl rfl rfl rfl) rfl rfl ?_
          refine rs_voff 20 rfl (met_off rfl rfl rfl rfl rfl) rfl rfl (by exact Sat.sub hw (by (repeat (first | with_reducible exact Sub.refl _ | exact Sub.nil _ | (apply Sub.cons; focus ((repeat (first | with_reducible exact Pick.here _ | apply Pick.there)); (first | done | fail))) | with_reducible apply Sub.drop)); first | done | fail)) ?_
          refine rs_voff 24 rfl (met_off rfl rfl rfl rfl rfl) rfl rfl (by exact Sat.sub hw (by (repeat (first | with_reducible exact Sub.refl _ | exact Sub.nil _ | (apply Sub.cons; focus ((repeat (first | with_reducible exact Pick.here _ | apply Pick.there)); (first | done | fail))) | with_reducible apply Sub.drop)); first | done | fail)) ?_
          refine rs_koff 26 rfl (met_off rfl rfl rfl rfl rfl) rfl rfl ?_
          refine rs_koff 27 rfl (met_off rfl rfl rfl rfl rfl) rfl rfl ?_
          refine rs_koff 28 rfl (met_off rfl rfl rfl rfl rfl) rfl rfl ?_
          refine rs_koff 29 rfl (met_off rfl rfl rfl rfl rfl) rfl rfl ?_
          refine rs_koff 30 rfl (met_off rfl rfl rfl rfl rfl) rfl rfl ?_
          refine rs_kv 31 rfl rfl rfl rfl (S' := fun _ => True) trivial (v_pick_true rfl rfl) ?_
          refine rs_done (g_le (xK (xK (xK (xK (xK (xK (xK (xK (xK (xK (xK (xK (xK (xK (xK (xK (xK (xK (xK (xK (xK (xK (xK (xK (xK (xK (xK (xK (xK (xK (xK (xK (xK (Fr.le_refl _)))))))))))))))))))))))))))))))))) ?_)
          refine g_cond_true rfl ?_
          refine g_seq ?_
          refine g_region ?_
          refine xV rfl rfl rfl (v_assign rfl) ?_
          refine rl_nil (g_le (xK (Fr.le_refl _)) ?_)
          refine g_ret1 Try.func52 rfl rfl ?_
          refine ⟨false, rfl, ⟨fun h => absurd h (by simp), fun h => ?_⟩, (hw.xQ : Sat E w (pt q (.cells [Value.pointer (some ⟨rm, 0, none⟩), .slice (some ⟨k1, 0, none⟩) (rs : List Sg).length c1, .slice (some ⟨k2, 0, none⟩) (rs : List Sg).length c2, .slice (some ⟨k3, 0, none⟩) (rs : List Sg).length c3].toArray 120 (0, 0)) :: OwnSl 3 1 (.slice (some ⟨k1, 0, none⟩) (rs).length c1) (rs).length ((rs).map fun x => Value.int .i64 x.kind) :: OwnSl 3 1 (.slice (some ⟨k2, 0, none⟩) (rs).length c2) (rs).length ((rs).map fun x => Value.int .i64 x.used) :: OwnSl 3 1 (.slice (some ⟨k3, 0, none⟩) (rs).length c3) (rs).length ((rs).map fun x => Value.int .i64 x.live) :: RmAt rm p md :: A :: L))⟩
          have h9 := h.1 x (List.mem_of_getElem? hx)
          unfold within usedS at h9
          exfalso
          have h10 : ¬ md.is x.seg := by simpa using g5_8
          exact h10 ⟨h9.1, by omega⟩
      · try with_reducible exact tf_elim g5_8
        all_goals
          try replace g5_8 := of_decide_eq_false g5_8
          have his : md.is x.seg := by simpa using g5_8
          have hs1 := his.1
          have hs2 := his.2
          have hsx := sgAt_some (ss := rs) hs1 (by omega)
          have hkg := kget hs1 hsx
          have hug := uget hs1 hsx
          have hux := hu _ (List.mem_of_getElem? hsx)
          refine rs_ag 9 rfl (met_on rfl rfl rfl rfl) rfl rfl (v_move rfl) ?_
          refine rs_ag 10 rfl (met_on rfl rfl rfl rfl) rfl rfl (v_nilCheck rfl) ?_
          refine rs_ag 11 rfl (met_on rfl rfl rfl rfl) rfl rfl (v_fieldAddr0 T.fld_120_1_1 rfl) ?_
          refine rs_ag 13 rfl (met_on rfl rfl rfl rfl) rfl rfl (v_fieldAddr0 T.fld_58_0_0 rfl) ?_
          refine rs_vg 12 rfl (met_on rfl rfl rfl rfl) rfl rfl (OpV.mono (v_load T.scal_61 rfl) (fun w hw => by exact sat_cell hw (by (repeat first | with_reducible exact xH | apply xT); first | done | fail) rfl)) (by exact Sat.sub hw (by (repeat (first | with_reducible exact Sub.refl _ | exact Sub.nil _ | (apply Sub.cons; focus ((repeat (first | with_reducible exact Pick.here _ | apply Pick.there)); (first | done | fail))) | with_reducible apply Sub.drop)); first | done | fail)) ?_
          refine rs_kvg 14 rfl (met_on rfl rfl rfl rfl) rfl rfl (by exact sat_cell hw (by (repeat first | with_reducible exact xH | apply xT); first | done | fail) rfl) (v_load T.scal_3 rfl) ?_
          refine rs_kvg 15 rfl (met_on rfl rfl rfl rfl) rfl rfl (S' := fun _ => True) trivial (v_indexAddr T.sl_61_3_1 rfl rfl (by omega) (by omega)) ?_
          refine rs_kvg 16 rfl (met_on rfl rfl rfl rfl) rfl rfl (by exact own_cell hw (by (repeat first | with_reducible exact xH | apply xT); first | done | fail) (by first | rfl | assumption)) (v_load T.scal_3 rfl) ?_
          refine rs_kvg 17 rfl (met_on rfl rfl rfl rfl) rfl rfl (S' := fun _ => True) trivial (v_eql rfl rfl) ?_
          refine rs_kv 18 rfl rfl rfl rfl (S' := fun _ => True) trivial (v_pick_false rfl rfl) ?_
          refine rs_kv 19 rfl rfl rfl rfl (S' := fun _ => True) trivial (v_move rfl) ?_
          refine rs_split (s := 37) rfl (fun g5_19 => ?_) (fun g5_19 => ?_)
          · try with_reducible exact ft_elim g5_19
            all_goals
              try replace g5_19 := of_decide_eq_true g5_19
              refine rs_aoff 21 rfl (met_off rfl rfl rfl rfl rfl) rfl rfl ?_
              refine rs_aoff 22 rfl (met_off rfl rfl rfl rfl rfl) rfl rfl ?_
              refine rs_aoff 23 rfl (met_off rfl rfl rfl rfl rfl) rfl rfl ?_
              refine rs_aoff 25 rfl (met_off rfl rfl rfl rfl rfl) rfl rfl ?_
              refine rs_voff 20 rfl (met_off rfl rfl rfl rfl rfl) rfl rfl (by exact Sat.sub hw (by (repeat (first | with_reducible exact Sub.refl _ | exact Sub.nil _ | (apply Sub.cons; focus ((repeat (first | with_reducible exact Pick.here _ | apply Pick.there)); (first | done | fail))) | with_reducible apply Sub.drop)); first | done | fail)) ?_
              refine rs_voff 24 rfl (met_off rfl rfl rfl rfl rfl) rfl rfl (by exact Sat.sub hw (by (repeat (first | with_reducible exact Sub.refl _ | exact Sub.nil _ | (apply Sub.cons; focus ((repeat (first | with_reducible exact Pick.here _ | apply Pick.there)); (first | done | fail))) | with_reducible apply Sub.drop)); first | done | fail)) ?_
              refine rs_koff 26 rfl (met_off rfl rfl rfl rfl rfl) rfl rfl ?_
              refine rs_koff 27 rfl (met_off rfl rfl rfl rfl rfl) rfl rfl ?_
              refine rs_koff 28 rfl (met_off rfl rfl rfl rfl rfl) rfl rfl ?_
              refine rs_koff 29 rfl (met_off rfl rfl rfl rfl rfl) rfl rfl ?_
              refine rs_koff 30 rfl (met_off rfl rfl rfl rfl rfl) rfl rfl ?_
              refine rs_kv 31 rfl rfl rfl rfl (S' := fun _ => True) trivial (v_pick_true rfl rfl) ?_
              refine rs_done (g_le (xK (xK (xK (xK (xK (xK (xK (xK (xK (xK (xK (xK (xK (xK (xK (xK (xK (xK (xK (xK (xK (xK (xK (xK (xK (xK (xK (xK (xK (xK (xK (xK (xK (xK (Fr.le_refl _))))))))))))))))))))))))))))))))))) ?_)
              refine g_cond_true rfl ?_
              refine g_seq ?_
              refine g_region ?_
              refine xV rfl rfl rfl (v_assign rfl) ?_
              refine rl_nil (g_le (xK (Fr.le_refl _)) ?_)
              refine g_ret1 Try.func52 rfl rfl ?_
              refine ⟨false, rfl, ⟨fun h => absurd h (by simp), fun h => ?_⟩, (hw.xQ : Sat E w (pt q (.cells [Value.pointer (some ⟨rm, 0, none⟩), .slice (some ⟨k1, 0, none⟩) (rs : List Sg).length c1, .slice (some ⟨k2, 0, none⟩) (rs : List Sg).length c2, .slice (some ⟨k3, 0, none⟩) (rs : List Sg).length c3].toArray 120 (0, 0)) :: OwnSl 3 1 (.slice (some ⟨k1, 0, none⟩) (rs).length c1) (rs).length ((rs).map fun x => Value.int .i64 x.kind) :: OwnSl 3 1 (.slice (some ⟨k2, 0, none⟩) (rs).length c2) (rs).length ((rs).map fun x => Value.int .i64 x.used) :: OwnSl 3 1 (.slice (some ⟨k3, 0, none⟩) (rs).length c3) (rs).length ((rs).map fun x => Value.int .i64 x.live) :: RmAt rm p md :: A :: L))⟩
              have h9 := h.1 x (List.mem_of_getElem? hx)
              unfold within usedS at h9
              exfalso
              rw [if_pos (by omega)] at h9
              omega
          · try with_reducible exact tf_elim g5_19
            all_goals
              try replace g5_19 := of_decide_eq_false g5_19
              refine rs_ag 21 rfl (met_on rfl rfl rfl rfl) rfl rfl (v_move rfl) ?_
              refine rs_ag 22 rfl (met_on rfl rfl rfl rfl) rfl rfl (v_nilCheck rfl) ?_
              refine rs_ag 23 rfl (met_on rfl rfl rfl rfl) rfl rfl (v_fieldAddr0 T.fld_120_2_2 rfl) ?_
              refine rs_ag 25 rfl (met_on rfl rfl rfl rfl) rfl rfl (v_fieldAddr0 T.fld_58_0_0 rfl) ?_
              refine rs_vg 20 rfl (met_on rfl rfl rfl rfl) rfl rfl (OpV.mono (v_loadAgg (vs := [_, _, _]) T.agg_58_3 rfl rfl) (fun w hw => by exact sat_cells hw (by (repeat first | with_reducible exact xH | apply xT); first | done | fail) ⟨rfl, rfl, rfl, trivial⟩)) (by exact Sat.sub hw (by (repeat (first | with_reducible exact Sub.refl _ | exact Sub.nil _ | (apply Sub.cons; focus ((repeat (first | with_reducible exact Pick.here _ | apply Pick.there)); (first | done | fail))) | with_reducible apply Sub.drop)); first | done | fail)) ?_
              refine rs_vg 24 rfl (met_on rfl rfl rfl rfl) rfl rfl (OpV.mono (v_load T.scal_61 rfl) (fun w hw => by exact sat_cell hw (by (repeat first | with_reducible exact xH | apply xT); first | done | fail) rfl)) (by exact Sat.sub hw (by (repeat (first | with_reducible exact Sub.refl _ | exact Sub.nil _ | (apply Sub.cons; focus ((repeat (first | with_reducible exact Pick.here _ | apply Pick.there)); (first | done | fail))) | with_reducible apply Sub.drop)); first | done | fail)) ?_
              refine rs_kvg 26 rfl (met_on rfl rfl rfl rfl) rfl rfl (by exact sat_cell hw (by (repeat first | with_reducible exact xH | apply xT); first | done | fail) rfl) (v_load T.scal_3 rfl) ?_
              refine rs_kvg 27 rfl (met_on rfl rfl rfl rfl) rfl rfl (S' := fun _ => True) trivial (v_indexAddr T.sl_61_3_1 rfl rfl (by omega) (by omega)) ?_
              refine rs_kvg 28 rfl (met_on rfl rfl rfl rfl) rfl rfl (by exact own_cell hw (by (repeat first | with_reducible exact xH | apply xT); first | done | fail) (by first | rfl | assumption)) (v_load T.scal_3 rfl) ?_
              refine rs_kg 29 rfl (met_on rfl rfl rfl rfl) (k_callf Try.func74 rfl rfl rfl rfl ?_)
              refine Calls.mono (within_calls x (sgAt rs x.seg).used (by omega) (by omega) hw) ?_
              rintro _ w ⟨rfl, hw⟩
              refine ⟨_, rfl, ?_⟩
              refine ⟨fun _ => (by exact Sat.sub hw (by (repeat (first | with_reducible exact Sub.refl _ | exact Sub.nil _ | (apply Sub.cons; focus ((repeat (first | with_reducible exact Pick.here _ | apply Pick.there)); (first | done | fail))) | with_reducible apply Sub.drop)); first | done | fail)), ?_⟩
              refine rs_kvg 30 rfl (met_on rfl rfl rfl rfl) rfl rfl (S' := fun _ => True) trivial (v_not rfl) ?_
              refine rs_kv 31 rfl rfl rfl rfl (S' := fun _ => True) trivial (v_pick_false rfl rfl) ?_
              refine rs_done (g_le (xK (xK (xK (xK (xK (xK (xK (xK (xK (xK (xK (xK (xK (xK (xK (xK (xK (xK (xK (xK (xK (xK (xK (xK (xK (xK (xK (xK (xK (xK (xK (xK (xK (xK (Fr.le_refl _))))))))))))))))))))))))))))))))))) ?_)
              refine g_cond rfl (fun h2 => ?_) (fun h2 => ?_)
              · try with_reducible exact ft_elim h2
                all_goals
                  try replace h2 := of_decide_eq_true h2
                  refine g_seq ?_
                  refine g_region ?_
                  refine xV rfl rfl rfl (v_assign rfl) ?_
                  refine rl_nil (g_le (xK (Fr.le_refl _)) ?_)
                  refine g_ret1 Try.func52 rfl rfl ?_
                  refine ⟨false, rfl, ⟨fun h => absurd h (by simp), fun h => ?_⟩, (hw.xQ : Sat E w (pt q (.cells [Value.pointer (some ⟨rm, 0, none⟩), .slice (some ⟨k1, 0, none⟩) (rs : List Sg).length c1, .slice (some ⟨k2, 0, none⟩) (rs : List Sg).length c2, .slice (some ⟨k3, 0, none⟩) (rs : List Sg).length c3].toArray 120 (0, 0)) :: OwnSl 3 1 (.slice (some ⟨k1, 0, none⟩) (rs).length c1) (rs).length ((rs).map fun x => Value.int .i64 x.kind) :: OwnSl 3 1 (.slice (some ⟨k2, 0, none⟩) (rs).length c2) (rs).length ((rs).map fun x => Value.int .i64 x.used) :: OwnSl 3 1 (.slice (some ⟨k3, 0, none⟩) (rs).length c3) (rs).length ((rs).map fun x => Value.int .i64 x.live) :: RmAt rm p md :: A :: L))⟩
                  have h9 := h.1 x (List.mem_of_getElem? hx)
                  unfold within usedS at h9
                  exfalso
                  simp at h2
                  rw [if_neg (by omega)] at h9
                  omega
              · try with_reducible exact tf_elim h2
                all_goals
                  try replace h2 := of_decide_eq_false h2
                  refine g_skip (g_inBlock ?_)
                  refine g_region ?_
                  refine xV rfl rfl rfl (v_move rfl) ?_
                  refine xV rfl rfl rfl (v_add rfl rfl (by omega)) ?_
                  refine xV rfl rfl rfl (v_assign rfl) ?_
                  refine rl_nil (g_le (xK (xK (xK (Fr.le_refl _)))) ?_)
                  refine g_le (by repeat (first | exact Fr.le_nil _ | refine Fr.le_cons rfl ?_)) (ih (i + 1) w ⟨by omega, fun j p hj hp => ?_, hw.xQ⟩ (by omega))
                  rcases Nat.lt_or_ge j i with h9 | h9
                  · exact hall j p h9 hp
                  · obtain rfl : j = i := by omega
                    rw [hx] at hp
                    obtain rfl := Option.some.inj hp
                    have h10 : 1 ≤ x.len ∧ 0 ≤ x.off ∧ x.off ≤ (sgAt rs x.seg).used - x.len := by simpa using h2
                    refine ⟨hs1, by omega, h10.1, h10.2.1, ?_⟩
                    unfold usedS
                    rw [if_neg (by omega)]
                    exact h10.2.2
  · try with_reducible exact tf_elim h1
    all_goals
      try replace h1 := of_decide_eq_false h1
      refine g_exit rfl (g_seq (g_seq ?_))
      have hwi : ∀ p ∈ xs, within (usedS rs) rs.length p := fun p hp => by
        obtain ⟨j, hj, hj2⟩ := List.getElem_of_mem hp
        exact hall j p (by omega) (by rw [List.getElem?_eq_getElem hj, hj2])
      have hwb : ∀ p ∈ xs, 0 ≤ p.seg ∧ p.seg < rs.length ∧ 0 ≤ p.off ∧ p.off ≤ 1048576 ∧ 1 ≤ p.len ∧ p.len ≤ 1048576 := fun p hp => by
        have h9 := hwi p hp
        unfold within at h9
        have h8 := hub p.seg h9.1 h9.2.1
        omega
      refine g_region ?_
      refine xV rfl rfl rfl (v_move rfl) ?_
      refine rl_k rfl (k_callf Try.func75 rfl rfl rfl rfl ?_)
      refine Calls.mono (overlap_calls hS (fun p hp => by have := hwb p hp; omega) (hw.xP (A := A))) ?_
      rintro _ w ⟨r, rfl, hr, hw⟩
      refine ⟨_, rfl, ?_⟩
      refine rl_nil (g_le (xK (xS rfl (Fr.le_refl _))) ?_)
      refine g_cond rfl (fun h3 => ?_) (fun h3 => ?_)
      · try with_reducible exact ft_elim h3
        all_goals
          try replace h3 := of_decide_eq_true h3
          subst h3
          skip
          refine g_seq ?_
          refine g_region ?_
          refine xV rfl rfl rfl (v_assign rfl) ?_
          refine rl_nil (g_le (xK (Fr.le_refl _)) ?_)
          refine g_ret1 Try.func52 rfl rfl ?_
          exact ⟨false, rfl, ⟨fun h => absurd h (by simp), fun h => absurd (hr.2 h.2) (by simp)⟩, (hw.xQ : Sat E w (pt q (.cells [Value.pointer (some ⟨rm, 0, none⟩), .slice (some ⟨k1, 0, none⟩) (rs : List Sg).length c1, .slice (some ⟨k2, 0, none⟩) (rs : List Sg).length c2, .slice (some ⟨k3, 0, none⟩) (rs : List Sg).length c3].toArray 120 (0, 0)) :: OwnSl 3 1 (.slice (some ⟨k1, 0, none⟩) (rs).length c1) (rs).length ((rs).map fun x => Value.int .i64 x.kind) :: OwnSl 3 1 (.slice (some ⟨k2, 0, none⟩) (rs).length c2) (rs).length ((rs).map fun x => Value.int .i64 x.used) :: OwnSl 3 1 (.slice (some ⟨k3, 0, none⟩) (rs).length c3) (rs).length ((rs).map fun x => Value.int .i64 x.live) :: RmAt rm p md :: A :: L))⟩
      · try with_reducible exact tf_elim h3
        all_goals
          try replace h3 := of_decide_eq_false h3
          subst h3
          have hfit : fitsP (usedS rs) rs.length xs := ⟨hwi, hr.1 rfl⟩
          refine g_skip (g_seq ?_)
          refine g_region ?_
          refine xV rfl rfl rfl (v_move rfl) ?_
          refine xV rfl rfl rfl (v_move rfl) ?_
          refine rl_k rfl (k_callf Try.func76 rfl rfl rfl rfl ?_)
          refine Calls.mono (accounts_calls hb hS (fun p hp => by have := hwb p hp; omega) (hw.xQ)) ?_
          rintro _ w ⟨rfl, hw⟩
          refine ⟨_, rfl, ?_⟩
          refine rl_nil (g_le (xS rfl (xS rfl (xS rfl (Fr.le_refl _)))) ?_)
          refine g_seq (g_seq ?_)
          have hll := lived_len rs xs
          have hss : settled rs xs = (lived rs xs).map fr := rfl
          generalize lived rs xs = s1 at hw hll hss
          clear ih
          refine g_region ?_
          refine xV rfl rfl rfl (v_assign rfl) ?_
          refine rl_nil (g_le (xK (Fr.le_refl _)) ?_)
          refine g_block ?_
          refine g_loopC (σ := Nat) (fun C x => (7, .int .i64 (x : Nat)) :: C) [(0, _), (4, _)] (by repeat (first | exact Fr.le_nil _ | refine Fr.le_cons rfl ?_)) (fun z w => z ≤ s1.length ∧ Sat E w (OwnSl 3 1 (.slice (some ⟨k1, 0, none⟩) s1.length c1) s1.length ((upTo fr s1 z).map fun x => Value.int .i64 x.kind) :: pt q (.cells [Value.pointer (some ⟨rm, 0, none⟩), .slice (some ⟨k1, 0, none⟩) s1.length c1, .slice (some ⟨k2, 0, none⟩) s1.length c2, .slice (some ⟨k3, 0, none⟩) s1.length c3].toArray 120 (0, 0)) :: OwnSl 3 1 (.slice (some ⟨k2, 0, none⟩) s1.length c2) s1.length (s1.map fun x => Value.int .i64 x.used) :: OwnSl 3 1 (.slice (some ⟨k3, 0, none⟩) s1.length c3) s1.length (s1.map fun x => Value.int .i64 x.live) :: RmAt rm p md :: A :: L)) (fun z => s1.length - z) ?_ 0 (by repeat (first | exact Fr.le_nil _ | refine Fr.le_cons rfl ?_)) ⟨by simp, by rw [upTo_zero]; exact hw.xQ⟩
          rintro i w ⟨hi, hw⟩ ih
          refine g_seq (g_seq ?_)
          refine g_region ?_
          refine xV rfl rfl rfl (v_move rfl) ?_
          refine xV rfl rfl rfl (v_move rfl) ?_
          refine xV rfl rfl rfl (v_nilCheck rfl) ?_
          refine xV rfl rfl rfl (v_fieldAddr0 T.fld_120_1_1 rfl) ?_
          refine rl_v rfl rfl rfl (by exact sat_cell hw (by (repeat first | with_reducible exact xH | apply xT); first | done | fail) rfl) (v_load T.scal_61 rfl) ?_
          refine xV rfl rfl rfl (v_lenSlice T.sl_61_3_1 rfl) ?_
          refine xV rfl rfl rfl (v_lss rfl rfl) ?_
          refine rl_nil (g_le (xK (xK (xK (xK (xK (xK (xK (Fr.le_refl _)))))))) ?_)
          refine g_cond rfl (fun h4 => ?_) (fun h4 => ?_)
          · try with_reducible exact ft_elim h4
            all_goals
              try replace h4 := of_decide_eq_true h4
              refine g_skip (g_seq (g_block (g_seq ?_)))
              have hlt : i < s1.length := by omega
              have hx : s1[i]? = some s1[i] := List.getElem?_eq_getElem hlt
              generalize s1[i] = x at hx
              have hkg := kget (i := (i : Int)) (by omega) (by rw [Int.toNat_natCast]; exact upTo_at (f := fr) hx)
              have hlg := lget (i := (i : Int)) (rs := s1) (by omega) (by rw [Int.toNat_natCast]; exact hx)
              have hst : 0 + (i : Int).toNat * 1 < ((upTo fr s1 i).map fun x => Value.int .i64 x.kind).length := by rw [List.length_map, upTo_len]; omega
              refine g_region ?_
              refine xV rfl rfl rfl (v_move rfl) ?_
              refine xV rfl rfl rfl (v_nilCheck rfl) ?_
              refine xV rfl rfl rfl (v_fieldAddr0 T.fld_120_1_1 rfl) ?_
              refine rl_v rfl rfl rfl (by exact sat_cell hw (by (repeat first | with_reducible exact xH | apply xT); first | done | fail) rfl) (v_load T.scal_61 rfl) ?_
              refine xV rfl rfl rfl (v_move rfl) ?_
              refine xV rfl rfl rfl (v_indexAddr T.sl_61_3_1 rfl rfl (by omega) (by omega)) ?_
              refine rl_v rfl rfl rfl (by exact own_cell hw (by (repeat first | with_reducible exact xH | apply xT); first | done | fail) (by first | rfl | assumption)) (v_load T.scal_3 rfl) ?_
              refine xV rfl rfl rfl (v_eql rfl rfl) ?_
              refine xV rfl rfl rfl (v_move rfl) ?_
              refine rl_split (s := 72) rfl (fun g13_8 => ?_) (fun g13_8 => ?_)
              · try with_reducible exact ft_elim g13_8
                all_goals
                  try replace g13_8 := of_decide_eq_true g13_8
                  refine rl_vg (met_on rfl rfl rfl rfl) rfl rfl (S := fun _ => True) trivial (v_move rfl) ?_
                  refine rl_vg (met_on rfl rfl rfl rfl) rfl rfl (S := fun _ => True) trivial (v_nilCheck rfl) ?_
                  refine rl_vg (met_on rfl rfl rfl rfl) rfl rfl (S := fun _ => True) trivial (v_fieldAddr0 T.fld_120_3_3 rfl) ?_
                  refine rl_vg (met_on rfl rfl rfl rfl) rfl rfl (by exact sat_cell hw (by (repeat first | with_reducible exact xH | apply xT); first | done | fail) rfl) (v_load T.scal_61 rfl) ?_
                  refine rl_vg (met_on rfl rfl rfl rfl) rfl rfl (S := fun _ => True) trivial (v_move rfl) ?_
                  refine rl_vg (met_on rfl rfl rfl rfl) rfl rfl (S := fun _ => True) trivial (v_indexAddr T.sl_61_3_1 rfl rfl (by omega) (by omega)) ?_
                  refine rl_vg (met_on rfl rfl rfl rfl) rfl rfl (by exact own_cell hw (by (repeat first | with_reducible exact xH | apply xT); first | done | fail) (by first | rfl | assumption)) (v_load T.scal_3 rfl) ?_
                  refine rl_vg (met_on rfl rfl rfl rfl) rfl rfl (S := fun _ => True) trivial (v_eql rfl rfl) ?_
                  refine xV rfl rfl rfl (v_pick_true rfl rfl) ?_
                  refine rl_nil (g_le (xK (xK (xK (xK (xK (xK (xK (xK (xK (xK (xK (xK (xK (xK (xK (xK (xK (xK (xK (Fr.le_refl _)))))))))))))))))))) ?_)
                  refine g_cond rfl (fun h5 => ?_) (fun h5 => ?_)
                  · try with_reducible exact ft_elim h5
                    all_goals
                      try replace h5 := of_decide_eq_true h5
                      refine g_region ?_
                      refine xV rfl rfl rfl (v_move rfl) ?_
                      refine xV rfl rfl rfl (v_nilCheck rfl) ?_
                      refine xV rfl rfl rfl (v_fieldAddr0 T.fld_120_1_1 rfl) ?_
                      refine rl_v rfl rfl rfl (by exact sat_cell hw (by (repeat first | with_reducible exact xH | apply xT); first | done | fail) rfl) (v_load T.scal_61 rfl) ?_
                      refine xV rfl rfl rfl (v_move rfl) ?_
                      refine xV rfl rfl rfl (v_indexAddr T.sl_61_3_1 rfl rfl (by omega) (by omega)) ?_
                      refine rl_k rfl (k_storeOwn hw T.scal_3 rfl rfl rfl (by (repeat first | with_reducible exact xH | apply xT); first | done | fail) (by assumption) (fun w hw => ?_))
                      refine rl_nil (g_le (xK (xK (xK (xK (xK (xK (Fr.le_refl _))))))) ?_)
                      refine g_inBlock ?_
                      refine g_region ?_
                      refine xV rfl rfl rfl (v_move rfl) ?_
                      refine xV rfl rfl rfl (v_add rfl rfl (by omega)) ?_
                      refine xV rfl rfl rfl (v_assign rfl) ?_
                      refine rl_nil (g_le (xK (xK (xK (Fr.le_refl _)))) ?_)
                      have hf : (fr x).kind = 1 := by unfold fr; rw [if_pos ⟨by omega, by omega⟩]
                      rw [show 0 + (i : Int).toNat * 1 = i by omega, ← hf, kset (upTo_at hx), upTo_succ hx] at hw
                      exact g_le (by repeat (first | exact Fr.le_nil _ | refine Fr.le_cons rfl ?_)) (ih (i + 1) w ⟨by omega, hw.xQ⟩ (by omega))
                  · try with_reducible exact tf_elim h5
                    all_goals
                      try replace h5 := of_decide_eq_false h5
                      refine g_skip (g_inBlock ?_)
                      refine g_region ?_
                      refine xV rfl rfl rfl (v_move rfl) ?_
                      refine xV rfl rfl rfl (v_add rfl rfl (by omega)) ?_
                      refine xV rfl rfl rfl (v_assign rfl) ?_
                      refine rl_nil (g_le (xK (xK (xK (Fr.le_refl _)))) ?_)
                      have hf : fr x = x := by unfold fr; rw [if_neg (by omega)]
                      rw [← upTo_same hx hf] at hw
                      exact g_le (by repeat (first | exact Fr.le_nil _ | refine Fr.le_cons rfl ?_)) (ih (i + 1) w ⟨by omega, hw.xQ⟩ (by omega))
              · try with_reducible exact tf_elim g13_8
                all_goals
                  try replace g13_8 := of_decide_eq_false g13_8
                  refine rl_off (met_off rfl rfl rfl rfl rfl) rfl rfl ?_
                  refine rl_off (met_off rfl rfl rfl rfl rfl) rfl rfl ?_
                  refine rl_off (met_off rfl rfl rfl rfl rfl) rfl rfl ?_
                  refine rl_off (met_off rfl rfl rfl rfl rfl) rfl rfl ?_
                  refine rl_off (met_off rfl rfl rfl rfl rfl) rfl rfl ?_
                  refine rl_off (met_off rfl rfl rfl rfl rfl) rfl rfl ?_
                  refine rl_off (met_off rfl rfl rfl rfl rfl) rfl rfl ?_
                  refine rl_off (met_off rfl rfl rfl rfl rfl) rfl rfl ?_
                  refine xV rfl rfl rfl (v_pick_false rfl rfl) ?_
                  refine rl_nil (g_le (xK (xK (xK (xK (xK (xK (xK (xK (xK (xK (xK (xK (xK (xK (xK (xK (xK (xK (xK (Fr.le_refl _)))))))))))))))))))) ?_)
                  refine g_cond_false rfl ?_
                  refine g_skip (g_inBlock ?_)
                  refine g_region ?_
                  refine xV rfl rfl rfl (v_move rfl) ?_
                  refine xV rfl rfl rfl (v_add rfl rfl (by omega)) ?_
                  refine xV rfl rfl rfl (v_assign rfl) ?_
                  refine rl_nil (g_le (xK (xK (xK (Fr.le_refl _)))) ?_)
                  have hf : fr x = x := by unfold fr; rw [if_neg (by omega)]
                  rw [← upTo_same hx hf] at hw
                  exact g_le (by repeat (first | exact Fr.le_nil _ | refine Fr.le_cons rfl ?_)) (ih (i + 1) w ⟨by omega, hw.xQ⟩ (by omega))
          · try with_reducible exact tf_elim h4
            all_goals
              try replace h4 := of_decide_eq_false h4
              refine g_exit rfl (g_seq ?_)
              refine g_region ?_
              refine xV rfl rfl rfl (v_assign rfl) ?_
              refine rl_nil (g_le (xK (Fr.le_refl _)) ?_)
              refine g_ret1 Try.func52 rfl rfl ?_
              obtain rfl : i = s1.length := by omega
              rw [upTo_all, ← hss] at hw
              have hsl := settled_len rs xs
              have huu : ((settled rs xs).map fun x => Value.int .i64 x.used) = s1.map fun x => Value.int .i64 x.used := by rw [hss]; apply List.ext_getElem?; intro j; rw [List.getElem?_map, List.getElem?_map, List.getElem?_map, Option.map_map]; congr 1; funext z; simp only [Function.comp]; rw [(fr_kind z).1]
              have hvv : ((settled rs xs).map fun x => Value.int .i64 x.live) = s1.map fun x => Value.int .i64 x.live := by rw [hss]; apply List.ext_getElem?; intro j; rw [List.getElem?_map, List.getElem?_map, List.getElem?_map, Option.map_map]; congr 1; funext z; simp only [Function.comp]; rw [(fr_kind z).2.1]
              refine ⟨true, rfl, ⟨fun _ => hfit, fun _ => rfl⟩, ?_⟩
              simp only [if_true]
              rw [huu, hvv, hsl, ← hll]
              exact hw.xQ
end Go.Proofs.Ytipdklbedpkobaa
