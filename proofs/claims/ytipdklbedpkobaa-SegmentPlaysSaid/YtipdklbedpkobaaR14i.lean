/-
  The laws' helpers of layer 14: places that may be.
-/
import Derived.Test.YtipdklbedpkobaaR14h
namespace Go.Proofs.Ytipdklbedpkobaa
set_option maxRecDepth 8000
set_option linter.unusedSimpArgs false
set_option linter.unusedVariables false
open Go Xe Go.Lib
theorem pl_len (xs : List Pl) : (xs.flatMap Pl.cells).length = xs.length * 3 := by
  induction xs with
  | nil => rfl
  | cons y ys ih => simp only [List.flatMap_cons, List.length_append, ih, List.length_cons, List.length_nil]; omega
theorem pl_ones (xs : List Pl) : ∀ u ∈ xs.flatMap Pl.cells, u.oneCell' = true := fun u hu => by
  obtain ⟨x, _, hu⟩ := List.mem_flatMap.1 hu
  simp only [Pl.cells, List.mem_cons, List.not_mem_nil, or_false] at hu
  rcases hu with rfl | rfl | rfl <;> rfl
theorem ord_f53_r7_R14i : orderOfB Try.f53 7 [7, 8] (.a 1 (.a 3 (.a 4 (.a 5 (.v 6 (.b2 0 7 (.b2 2 7 (.k 7 (.k 8 (.k 9 .done))) (.k 2 (.k 8 (.k 9 .done)))) (.k 0 (.k 2 (.k 8 (.k 9 .done)))))))))) = true := by kernel_rfl
set_option maxHeartbeats 4000000 in
theorem may_calls {E : Env} {w : World} {L : List As} {q rm p k1 k2 k3 c1 c2 c3 : Nat} {rs : List Sg} {md : Md} {v : Value} {xs : List Pl} (A : Int) (h1r : 1 ≤ rs.length) (hb : rs.length ≤ 4096) (hl : md.segs.length = rs.length) (hu : ∀ x ∈ rs, 0 ≤ x.used ∧ x.used ≤ 1048576) (hok : ∀ p ∈ xs, p.len ≤ 9223372036854775807) (hn : xs.length * 24 ≤ 100000000000000)
    (hw : Sat E w (pt q (.cells [Value.pointer (some ⟨rm, 0, none⟩), .slice (some ⟨k1, 0, none⟩) (rs : List Sg).length c1, .slice (some ⟨k2, 0, none⟩) (rs : List Sg).length c2, .slice (some ⟨k3, 0, none⟩) (rs : List Sg).length c3].toArray 120 (0, 0)) :: OwnSl 3 1 (.slice (some ⟨k1, 0, none⟩) (rs).length c1) (rs).length ((rs).map fun x => Value.int .i64 x.kind) :: OwnSl 3 1 (.slice (some ⟨k2, 0, none⟩) (rs).length c2) (rs).length ((rs).map fun x => Value.int .i64 x.used) :: OwnSl 3 1 (.slice (some ⟨k3, 0, none⟩) (rs).length c3) (rs).length ((rs).map fun x => Value.int .i64 x.live) :: RmAt rm p md :: OwnSl 58 3 (v) (xs : List Pl).length ((xs : List Pl).flatMap Pl.cells) :: L)) :
    Calls Try.prog 53 #[.pointer (some ⟨q, 0, none⟩), v, .int .i64 A] w fun e w' => ∃ v' ys, e = .returned v' ∧ (∀ p ∈ ys, p.len ≤ 9223372036854775807) ∧ ys.length ≤ xs.length ∧ Sat E w' (OwnSl 58 3 (v') (ys : List Pl).length ((ys : List Pl).flatMap Pl.cells) :: pt q (.cells [Value.pointer (some ⟨rm, 0, none⟩), .slice (some ⟨k1, 0, none⟩) (rs : List Sg).length c1, .slice (some ⟨k2, 0, none⟩) (rs : List Sg).length c2, .slice (some ⟨k3, 0, none⟩) (rs : List Sg).length c3].toArray 120 (0, 0)) :: OwnSl 3 1 (.slice (some ⟨k1, 0, none⟩) (rs).length c1) (rs).length ((rs).map fun x => Value.int .i64 x.kind) :: OwnSl 3 1 (.slice (some ⟨k2, 0, none⟩) (rs).length c2) (rs).length ((rs).map fun x => Value.int .i64 x.used) :: OwnSl 3 1 (.slice (some ⟨k3, 0, none⟩) (rs).length c3) (rs).length ((rs).map fun x => Value.int .i64 x.live) :: RmAt rm p md :: OwnSl 58 3 (v) (xs : List Pl).length ((xs : List Pl).flatMap Pl.cells) :: L) := by
  obtain ⟨va, vc, rfl, _, _, hva⟩ := (hw.xP (A := OwnSl 58 3 (v) (xs : List Pl).length ((xs : List Pl).flatMap Pl.cells))).own_shape
  refine calls_of_g (n := 39) Try.func53 rfl rfl rfl ?_
  change G _ _ _ _ _ [(0, _), (1, _), (2, _)] _
  refine g_seq ?_
  refine g_region ?_
  refine xV rfl rfl rfl (v_assign rfl) ?_
  refine rl_nil (g_le (xK (Fr.le_refl _)) ?_)
  refine g_seq ?_
  refine g_region ?_
  refine xV rfl rfl rfl (v_assign rfl) ?_
  refine rl_nil (g_le (xK (Fr.le_refl _)) ?_)
  refine g_seq (g_seq ?_)
  refine g_region ?_
  refine xV rfl rfl rfl (v_assign rfl) ?_
  refine rl_nil (g_le (xK (Fr.le_refl _)) ?_)
  refine g_block ?_
  refine g_loopC (σ := Nat × Value × List Pl) (fun C x => (8, .int .i64 (x.1 : Nat)) :: (7, x.2.1) :: C) [(0, _), (1, _), (2, _), (6, _)] (by repeat (first | exact Fr.le_nil _ | refine Fr.le_cons rfl ?_)) (fun z w => z.1 ≤ xs.length ∧ z.2.2.length ≤ z.1 ∧ (∀ p ∈ z.2.2, p.len ≤ 9223372036854775807) ∧ Sat E w (OwnSl 58 3 ((z.2.1)) ((z.2.2) : List Pl).length (((z.2.2) : List Pl).flatMap Pl.cells) :: pt q (.cells [Value.pointer (some ⟨rm, 0, none⟩), .slice (some ⟨k1, 0, none⟩) (rs : List Sg).length c1, .slice (some ⟨k2, 0, none⟩) (rs : List Sg).length c2, .slice (some ⟨k3, 0, none⟩) (rs : List Sg).length c3].toArray 120 (0, 0)) :: OwnSl 3 1 (.slice (some ⟨k1, 0, none⟩) (rs).length c1) (rs).length ((rs).map fun x => Value.int .i64 x.kind) :: OwnSl 3 1 (.slice (some ⟨k2, 0, none⟩) (rs).length c2) (rs).length ((rs).map fun x => Value.int .i64 x.used) :: OwnSl 3 1 (.slice (some ⟨k3, 0, none⟩) (rs).length c3) (rs).length ((rs).map fun x => Value.int .i64 x.live) :: RmAt rm p md :: OwnSl 58 3 ((.slice va xs.length vc)) (xs : List Pl).length ((xs : List Pl).flatMap Pl.cells) :: L)) (fun z => xs.length - z.1) ?_ (0, .slice none 0 0, []) (by repeat (first | exact Fr.le_nil _ | refine Fr.le_cons rfl ?_)) ⟨by simp, by simp, by simp, by dsimp only; simp only [List.flatMap_nil, List.length_nil]; exact (hw.own_nil 58 3).xQ⟩
  rintro ⟨i, ov, ys⟩ w ⟨hi, hyl, hyk, hw⟩ ih
  dsimp only at hi hyl hyk hw ih ⊢
  refine g_seq (g_seq ?_)
  refine g_region ?_
  refine xV rfl rfl rfl (v_move rfl) ?_
  refine xV rfl rfl rfl (v_move rfl) ?_
  refine xV rfl rfl rfl (v_lenSlice T.sl_70_58_3 rfl) ?_
  refine xV rfl rfl rfl (v_lss rfl rfl) ?_
  refine rl_nil (g_le (xK (xK (xK (xK (Fr.le_refl _))))) ?_)
  refine g_cond rfl (fun h1 => ?_) (fun h1 => ?_)
  · try with_reducible exact ft_elim h1
    all_goals
      try replace h1 := of_decide_eq_true h1
      refine g_skip (g_seq (g_block (g_seq (g_seq ?_))))
      refine g_region ?_
      refine xV rfl rfl rfl (v_move rfl) ?_
      refine xV rfl rfl rfl (v_remP rfl rfl (by omega) (by omega)) ?_
      refine xV rfl rfl rfl (v_move rfl) ?_
      refine rl_k rfl (k_callf Try.func20 rfl rfl rfl rfl ?_)
      refine Calls.mono (pickV_calls A 3 (by omega) (by omega) hw) ?_
      rintro _ w ⟨rfl, hw⟩
      refine ⟨_, rfl, ?_⟩
      refine xV rfl rfl rfl (v_eql rfl rfl) ?_
      refine rl_nil (g_le (xK (xK (xK (xK (xK (Fr.le_refl _)))))) ?_)
      refine g_cond rfl (fun h2 => ?_) (fun h2 => ?_)
      · try with_reducible exact ft_elim h2
        all_goals
          try replace h2 := of_decide_eq_true h2
          refine g_exit rfl ?_
          refine g_region ?_
          refine xV rfl rfl rfl (v_move rfl) ?_
          refine xV rfl rfl rfl (v_add rfl rfl (by omega)) ?_
          refine xV rfl rfl rfl (v_assign rfl) ?_
          refine rl_nil (g_le (xK (xK (xK (Fr.le_refl _)))) ?_)
          exact g_le (by repeat (first | exact Fr.le_nil _ | refine Fr.le_cons rfl ?_)) (ih (i + 1, ov, ys) w ⟨by simp only; omega, by simp only; omega, hyk, hw⟩ (by simp only; omega))
      · try with_reducible exact tf_elim h2
        all_goals
          try replace h2 := of_decide_eq_false h2
          refine g_skip (g_seq ?_)
          refine g_region ?_
          refine xV rfl rfl rfl (v_move rfl) ?_
          refine rl_k rfl (k_callf Try.func77 rfl rfl rfl rfl ?_)
          refine Calls.mono (copy_calls (q := q) (rm := rm) (k1 := k1) (k2 := k2) (k3 := k3) (c1 := c1) (c2 := c2) (c3 := c3) (rs := rs) h1r hb (hw.xQ)) ?_
          rintro _ w ⟨q', b1, b2, b3, d1, d2, d3, rfl, hw⟩
          refine ⟨_, rfl, ?_⟩
          refine xV rfl rfl rfl (v_assign rfl) ?_
          refine rl_nil (g_le (xK (xK (xK (Fr.le_refl _)))) ?_)
          refine g_seq ?_
          have hlt : i < xs.length := by omega
          have hx : xs[i]? = some xs[i] := List.getElem?_eq_getElem hlt
          generalize xs[i] = x at hx
          obtain ⟨vg, hvg⟩ := hva (by omega)
          subst hvg
          obtain ⟨oa, oc, rfl, _, _, hoa⟩ := (hw.xP (A := OwnSl 58 3 (ov) (ys : List Pl).length ((ys : List Pl).flatMap Pl.cells))).own_shape
          have hsub := subAt_flat (f := Pl.cells) (sz := 3) (fun _ => rfl) hx
          rw [show 0 + i * 3 = 0 + (i : Int).toNat * 3 by omega] at hsub
          dsimp only [Pl.cells] at hsub
          have hlny := pl_len ys
          have hony := pl_ones ys
          refine g_drawR ord_f53_r7_R14i (by kernel_rfl) T.mixed hw (fun w hw => ?_)
          refine rs_a 1 rfl rfl rfl rfl (v_move rfl) ?_
          refine rs_a 3 rfl rfl rfl rfl (v_move rfl) ?_
          refine rs_a 4 rfl rfl rfl rfl (v_move rfl) ?_
          refine rs_a 5 rfl rfl rfl rfl (v_indexAddr T.sl_70_58_3 rfl rfl (by omega) (by omega)) ?_
          refine rs_v 6 rfl rfl rfl rfl (OpV.mono (v_loadAgg (vs := [_, _, _]) T.agg_58_3 rfl rfl) (fun w hw => by exact own_cells hw (by (repeat first | with_reducible exact xH | apply xT); first | done | fail) (by assumption))) (by exact hw) ?_
          refine rs_b2 0 7 rfl rfl rfl rfl ?_ ?_ 
          · skip
            refine (k_buildSlice0 hw T.sl_70_58_3 T.zero_58 rfl (fun bk7_0 w hw => ?_))
            refine ⟨fun _ => (by exact Sat.sub hw (by (repeat (first | with_reducible exact Sub.refl _ | exact Sub.nil _ | (apply Sub.cons; focus ((repeat (first | with_reducible exact Pick.here _ | apply Pick.there)); (first | done | fail))) | with_reducible apply Sub.drop)); first | done | fail)), ?_⟩
            refine rs_b2 2 7 rfl rfl rfl rfl ?_ ?_ 
            · skip
              have hsrcy : SrcAt w oa ys.length (ys.flatMap Pl.cells) := by
                rcases Nat.eq_zero_or_pos ys.length with h0 | h0
                · exact .inl ⟨h0, List.eq_nil_of_length_eq_zero (by rw [hlny, h0])⟩
                · obtain ⟨og, rfl⟩ := hoa h0
                  exact .inr ⟨og, 0, rfl, own_cells hw (by (repeat first | with_reducible exact xH | apply xT); first | done | fail) (subAt_all _)⟩
              refine (k_appendS hw T.sl_70_58_3 T.zero_58 T.bytes_58_24 rfl (by decide) rfl rfl (by (repeat first | with_reducible exact xH | apply xT); first | done | fail) (by assumption) (by assumption) (by assumption) (by omega) (by simp only [maxLen] at *; omega) rfl (fun vv7_2 w hw hnil => ?_))
              refine ⟨fun _ => (by exact Sat.sub hw (by (repeat (first | with_reducible exact Sub.refl _ | exact Sub.nil _ | (apply Sub.cons; focus ((repeat (first | with_reducible exact Pick.here _ | apply Pick.there)); (first | done | fail))) | with_reducible apply Sub.drop)); first | done | fail)), ?_⟩
              simp only [Nat.zero_add, List.nil_append] at hw ⊢
              refine rs_k 7 rfl rfl (k_buildSlice (cells := [_, _, _]) hw T.sl_70_58_3 T.zero_58 rfl rfl rfl rfl rfl rfl (fun bk7_7 w hw => ?_))
              refine ⟨fun hn => absurd (by decide) hn, ?_⟩
              refine rs_k 8 rfl rfl (k_append (news := [_, _, _]) hw T.sl_70_58_3 T.zero_58 T.bytes_58_24 rfl (by decide) rfl rfl (by (repeat first | with_reducible exact xH | apply xT); first | done | fail) rfl (by exact sat_cells hw (by (repeat first | with_reducible exact xH | apply xT); first | done | fail) ⟨rfl, rfl, rfl, trivial⟩) (by simp [Value.oneCell']) (by omega) (by simp only [maxLen]; omega) rfl (fun vv7_8 w hw hnil => ?_))
              refine ⟨fun hn => absurd (by decide) hn, ?_⟩
              refine rs_kv 9 rfl rfl rfl rfl (S' := fun _ => True) trivial (v_assign rfl) ?_
              refine rs_done (g_le (xK (xK (xK (xK (xK (xK (xK (xK (xK (xK (Fr.le_refl _))))))))))) ?_)
              refine g_seq ?_
              have hmore : ys.flatMap Pl.cells ++ x.cells = (ys ++ [x]).flatMap Pl.cells := by simp only [List.flatMap_append, List.flatMap_cons, List.flatMap_nil, List.append_nil]
              have hml : ys.length + 1 = (ys ++ [x]).length := by simp
              rw [show (ys.flatMap Pl.cells ++ [Value.int IntKind.i64 x.seg, Value.int IntKind.i64 x.off, Value.int IntKind.i64 x.len]) = (ys ++ [x]).flatMap Pl.cells from hmore, hml] at hw
              obtain ⟨za, zc, hzv, _, _, _⟩ := (hw.xP (A := OwnSl 58 3 (vv7_8) ((ys ++ [x]) : List Pl).length (((ys ++ [x]) : List Pl).flatMap Pl.cells))).own_shape
              subst hzv
              have hyk2 : ∀ p ∈ ys ++ [x], p.len ≤ 9223372036854775807 := fun p hp => by
                rcases List.mem_append.1 hp with hp | hp
                · exact hyk p hp
                · rw [List.mem_singleton.1 hp]; exact hok x (List.mem_of_getElem? hx)
              have hsS := srcA_own (ps := ys ++ [x]) rfl (by omega) (hw.xP (A := OwnSl 58 3 ((.slice za (ys ++ [x]).length zc)) ((ys ++ [x]) : List Pl).length (((ys ++ [x]) : List Pl).flatMap Pl.cells)))
              refine g_region ?_
              refine xV rfl rfl rfl (v_move rfl) ?_
              refine xV rfl rfl rfl (v_move rfl) ?_
              refine rl_k rfl (k_callf Try.func52 rfl rfl rfl rfl ?_)
              refine Calls.mono (rsettle_calls (q := q') (rm := rm) (p := p) (k1 := b1) (k2 := b2) (k3 := b3) (c1 := d1) (c2 := d2) (c3 := d3) (rs := rs) hb hl hu hsS hyk2 (hw.xQ)) ?_
              rintro _ w ⟨r, rfl, _, hw⟩
              refine ⟨_, rfl, ?_⟩
              refine xV rfl rfl rfl (v_eql rfl rfl) ?_
              refine rl_nil (g_le (xK (xK (xK (xK (Fr.le_refl _))))) ?_)
              refine g_cond rfl (fun h3 => ?_) (fun h3 => ?_)
              · try with_reducible exact ft_elim h3
                all_goals
                  try replace h3 := of_decide_eq_true h3
                  refine g_region ?_
                  refine xV rfl rfl rfl (v_move rfl) ?_
                  refine xV rfl rfl rfl (v_assign rfl) ?_
                  refine rl_nil (g_le (xK (xK (Fr.le_refl _))) ?_)
                  refine g_inBlock ?_
                  refine g_region ?_
                  refine xV rfl rfl rfl (v_move rfl) ?_
                  refine xV rfl rfl rfl (v_add rfl rfl (by omega)) ?_
                  refine xV rfl rfl rfl (v_assign rfl) ?_
                  refine rl_nil (g_le (xK (xK (xK (Fr.le_refl _)))) ?_)
                  exact g_le (by repeat (first | exact Fr.le_nil _ | refine Fr.le_cons rfl ?_)) (ih (i + 1, .slice za (ys ++ [x]).length zc, ys ++ [x]) w ⟨by simp only; omega, by simp only; omega, hyk2, hw.xQ⟩ (by simp only; omega))
              · try with_reducible exact tf_elim h3
                all_goals
                  try replace h3 := of_decide_eq_false h3
                  refine g_skip (g_inBlock ?_)
                  refine g_region ?_
                  refine xV rfl rfl rfl (v_move rfl) ?_
                  refine xV rfl rfl rfl (v_add rfl rfl (by omega)) ?_
                  refine xV rfl rfl rfl (v_assign rfl) ?_
                  refine rl_nil (g_le (xK (xK (xK (Fr.le_refl _)))) ?_)
                  exact g_le (by repeat (first | exact Fr.le_nil _ | refine Fr.le_cons rfl ?_)) (ih (i + 1, .slice oa ys.length oc, ys) w ⟨by simp only; omega, by simp only; omega, hyk, hw.xQ⟩ (by simp only; omega))
            · skip
              refine (k_buildSlice (cells := [_, _, _]) hw T.sl_70_58_3 T.zero_58 rfl rfl rfl rfl rfl rfl (fun bk7_7 w hw => ?_))
              refine ⟨fun hn => absurd (by decide) hn, ?_⟩
              have hsrcy : SrcAt w oa ys.length (ys.flatMap Pl.cells) := by
                rcases Nat.eq_zero_or_pos ys.length with h0 | h0
                · exact .inl ⟨h0, List.eq_nil_of_length_eq_zero (by rw [hlny, h0])⟩
                · obtain ⟨og, rfl⟩ := hoa h0
                  exact .inr ⟨og, 0, rfl, own_cells hw (by (repeat first | with_reducible exact xH | apply xT); first | done | fail) (subAt_all _)⟩
              refine rs_k 2 rfl rfl (k_appendS hw T.sl_70_58_3 T.zero_58 T.bytes_58_24 rfl (by decide) rfl rfl (by (repeat first | with_reducible exact xH | apply xT); first | done | fail) (by assumption) (by assumption) (by assumption) (by omega) (by simp only [maxLen] at *; omega) rfl (fun vv7_2 w hw hnil => ?_))
              refine ⟨fun _ => (by exact Sat.sub hw (by (repeat (first | with_reducible exact Sub.refl _ | exact Sub.nil _ | (apply Sub.cons; focus ((repeat (first | with_reducible exact Pick.here _ | apply Pick.there)); (first | done | fail))) | with_reducible apply Sub.drop)); first | done | fail)), ?_⟩
              simp only [Nat.zero_add, List.nil_append] at hw ⊢
              refine rs_k 8 rfl rfl (k_append (news := [_, _, _]) hw T.sl_70_58_3 T.zero_58 T.bytes_58_24 rfl (by decide) rfl rfl (by (repeat first | with_reducible exact xH | apply xT); first | done | fail) rfl (by exact sat_cells hw (by (repeat first | with_reducible exact xH | apply xT); first | done | fail) ⟨rfl, rfl, rfl, trivial⟩) (by simp [Value.oneCell']) (by omega) (by simp only [maxLen]; omega) rfl (fun vv7_8 w hw hnil => ?_))
              refine ⟨fun hn => absurd (by decide) hn, ?_⟩
              refine rs_kv 9 rfl rfl rfl rfl (S' := fun _ => True) trivial (v_assign rfl) ?_
              refine rs_done (g_le (xK (xK (xK (xK (xK (xK (xK (xK (xK (xK (Fr.le_refl _))))))))))) ?_)
              refine g_seq ?_
              have hmore : ys.flatMap Pl.cells ++ x.cells = (ys ++ [x]).flatMap Pl.cells := by simp only [List.flatMap_append, List.flatMap_cons, List.flatMap_nil, List.append_nil]
              have hml : ys.length + 1 = (ys ++ [x]).length := by simp
              rw [show (ys.flatMap Pl.cells ++ [Value.int IntKind.i64 x.seg, Value.int IntKind.i64 x.off, Value.int IntKind.i64 x.len]) = (ys ++ [x]).flatMap Pl.cells from hmore, hml] at hw
              obtain ⟨za, zc, hzv, _, _, _⟩ := (hw.xP (A := OwnSl 58 3 (vv7_8) ((ys ++ [x]) : List Pl).length (((ys ++ [x]) : List Pl).flatMap Pl.cells))).own_shape
              subst hzv
              have hyk2 : ∀ p ∈ ys ++ [x], p.len ≤ 9223372036854775807 := fun p hp => by
                rcases List.mem_append.1 hp with hp | hp
                · exact hyk p hp
                · rw [List.mem_singleton.1 hp]; exact hok x (List.mem_of_getElem? hx)
              have hsS := srcA_own (ps := ys ++ [x]) rfl (by omega) (hw.xP (A := OwnSl 58 3 ((.slice za (ys ++ [x]).length zc)) ((ys ++ [x]) : List Pl).length (((ys ++ [x]) : List Pl).flatMap Pl.cells)))
              refine g_region ?_
              refine xV rfl rfl rfl (v_move rfl) ?_
              refine xV rfl rfl rfl (v_move rfl) ?_
              refine rl_k rfl (k_callf Try.func52 rfl rfl rfl rfl ?_)
              refine Calls.mono (rsettle_calls (q := q') (rm := rm) (p := p) (k1 := b1) (k2 := b2) (k3 := b3) (c1 := d1) (c2 := d2) (c3 := d3) (rs := rs) hb hl hu hsS hyk2 (hw.xQ)) ?_
              rintro _ w ⟨r, rfl, _, hw⟩
              refine ⟨_, rfl, ?_⟩
              refine xV rfl rfl rfl (v_eql rfl rfl) ?_
              refine rl_nil (g_le (xK (xK (xK (xK (Fr.le_refl _))))) ?_)
              refine g_cond rfl (fun h3 => ?_) (fun h3 => ?_)
              · try with_reducible exact ft_elim h3
                all_goals
                  try replace h3 := of_decide_eq_true h3
                  refine g_region ?_
                  refine xV rfl rfl rfl (v_move rfl) ?_
                  refine xV rfl rfl rfl (v_assign rfl) ?_
                  refine rl_nil (g_le (xK (xK (Fr.le_refl _))) ?_)
                  refine g_inBlock ?_
                  refine g_region ?_
                  refine xV rfl rfl rfl (v_move rfl) ?_
                  refine xV rfl rfl rfl (v_add rfl rfl (by omega)) ?_
                  refine xV rfl rfl rfl (v_assign rfl) ?_
                  refine rl_nil (g_le (xK (xK (xK (Fr.le_refl _)))) ?_)
                  exact g_le (by repeat (first | exact Fr.le_nil _ | refine Fr.le_cons rfl ?_)) (ih (i + 1, .slice za (ys ++ [x]).length zc, ys ++ [x]) w ⟨by simp only; omega, by simp only; omega, hyk2, hw.xQ⟩ (by simp only; omega))
              · try with_reducible exact tf_elim h3
                all_goals
                  try replace h3 := of_decide_eq_false h3
                  refine g_skip (g_inBlock ?_)
                  refine g_region ?_
                  refine xV rfl rfl rfl (v_move rfl) ?_
                  refine xV rfl rfl rfl (v_add rfl rfl (by omega)) ?_
                  refine xV rfl rfl rfl (v_assign rfl) ?_
                  refine rl_nil (g_le (xK (xK (xK (Fr.le_refl _)))) ?_)
                  exact g_le (by repeat (first | exact Fr.le_nil _ | refine Fr.le_cons rfl ?_)) (ih (i + 1, .slice oa ys.length oc, ys) w ⟨by simp only; omega, by simp only; omega, hyk, hw.xQ⟩ (by simp only; omega))
          · skip
            refine (k_buildSlice (cells := [_, _, _]) hw T.sl_70_58_3 T.zero_58 rfl rfl rfl rfl rfl rfl (fun bk7_7 w hw => ?_))
            refine ⟨fun hn => absurd (by decide) hn, ?_⟩
            refine rs_k 0 rfl rfl (k_buildSlice0 hw T.sl_70_58_3 T.zero_58 rfl (fun bk7_0 w hw => ?_))
            refine ⟨fun _ => (by exact Sat.sub hw (by (repeat (first | with_reducible exact Sub.refl _ | exact Sub.nil _ | (apply Sub.cons; focus ((repeat (first | with_reducible exact Pick.here _ | apply Pick.there)); (first | done | fail))) | with_reducible apply Sub.drop)); first | done | fail)), ?_⟩
            have hsrcy : SrcAt w oa ys.length (ys.flatMap Pl.cells) := by
              rcases Nat.eq_zero_or_pos ys.length with h0 | h0
              · exact .inl ⟨h0, List.eq_nil_of_length_eq_zero (by rw [hlny, h0])⟩
              · obtain ⟨og, rfl⟩ := hoa h0
                exact .inr ⟨og, 0, rfl, own_cells hw (by (repeat first | with_reducible exact xH | apply xT); first | done | fail) (subAt_all _)⟩
            refine rs_k 2 rfl rfl (k_appendS hw T.sl_70_58_3 T.zero_58 T.bytes_58_24 rfl (by decide) rfl rfl (by (repeat first | with_reducible exact xH | apply xT); first | done | fail) (by assumption) (by assumption) (by assumption) (by omega) (by simp only [maxLen] at *; omega) rfl (fun vv7_2 w hw hnil => ?_))
            refine ⟨fun _ => (by exact Sat.sub hw (by (repeat (first | with_reducible exact Sub.refl _ | exact Sub.nil _ | (apply Sub.cons; focus ((repeat (first | with_reducible exact Pick.here _ | apply Pick.there)); (first | done | fail))) | with_reducible apply Sub.drop)); first | done | fail)), ?_⟩
            simp only [Nat.zero_add, List.nil_append] at hw ⊢
            refine rs_k 8 rfl rfl (k_append (news := [_, _, _]) hw T.sl_70_58_3 T.zero_58 T.bytes_58_24 rfl (by decide) rfl rfl (by (repeat first | with_reducible exact xH | apply xT); first | done | fail) rfl (by exact sat_cells hw (by (repeat first | with_reducible exact xH | apply xT); first | done | fail) ⟨rfl, rfl, rfl, trivial⟩) (by simp [Value.oneCell']) (by omega) (by simp only [maxLen]; omega) rfl (fun vv7_8 w hw hnil => ?_))
            refine ⟨fun hn => absurd (by decide) hn, ?_⟩
            refine rs_kv 9 rfl rfl rfl rfl (S' := fun _ => True) trivial (v_assign rfl) ?_
            refine rs_done (g_le (xK (xK (xK (xK (xK (xK (xK (xK (xK (xK (Fr.le_refl _))))))))))) ?_)
            refine g_seq ?_
            have hmore : ys.flatMap Pl.cells ++ x.cells = (ys ++ [x]).flatMap Pl.cells := by simp only [List.flatMap_append, List.flatMap_cons, List.flatMap_nil, List.append_nil]
            have hml : ys.length + 1 = (ys ++ [x]).length := by simp
            rw [show (ys.flatMap Pl.cells ++ [Value.int IntKind.i64 x.seg, Value.int IntKind.i64 x.off, Value.int IntKind.i64 x.len]) = (ys ++ [x]).flatMap Pl.cells from hmore, hml] at hw
            obtain ⟨za, zc, hzv, _, _, _⟩ := (hw.xP (A := OwnSl 58 3 (vv7_8) ((ys ++ [x]) : List Pl).length (((ys ++ [x]) : List Pl).flatMap Pl.cells))).own_shape
            subst hzv
            have hyk2 : ∀ p ∈ ys ++ [x], p.len ≤ 9223372036854775807 := fun p hp => by
              rcases List.mem_append.1 hp with hp | hp
              · exact hyk p hp
              · rw [List.mem_singleton.1 hp]; exact hok x (List.mem_of_getElem? hx)
            have hsS := srcA_own (ps := ys ++ [x]) rfl (by omega) (hw.xP (A := OwnSl 58 3 ((.slice za (ys ++ [x]).length zc)) ((ys ++ [x]) : List Pl).length (((ys ++ [x]) : List Pl).flatMap Pl.cells)))
            refine g_region ?_
            refine xV rfl rfl rfl (v_move rfl) ?_
            refine xV rfl rfl rfl (v_move rfl) ?_
            refine rl_k rfl (k_callf Try.func52 rfl rfl rfl rfl ?_)
            refine Calls.mono (rsettle_calls (q := q') (rm := rm) (p := p) (k1 := b1) (k2 := b2) (k3 := b3) (c1 := d1) (c2 := d2) (c3 := d3) (rs := rs) hb hl hu hsS hyk2 (hw.xQ)) ?_
            rintro _ w ⟨r, rfl, _, hw⟩
            refine ⟨_, rfl, ?_⟩
            refine xV rfl rfl rfl (v_eql rfl rfl) ?_
            refine rl_nil (g_le (xK (xK (xK (xK (Fr.le_refl _))))) ?_)
            refine g_cond rfl (fun h3 => ?_) (fun h3 => ?_)
            · try with_reducible exact ft_elim h3
              all_goals
                try replace h3 := of_decide_eq_true h3
                refine g_region ?_
                refine xV rfl rfl rfl (v_move rfl) ?_
                refine xV rfl rfl rfl (v_assign rfl) ?_
                refine rl_nil (g_le (xK (xK (Fr.le_refl _))) ?_)
                refine g_inBlock ?_
                refine g_region ?_
                refine xV rfl rfl rfl (v_move rfl) ?_
                refine xV rfl rfl rfl (v_add rfl rfl (by omega)) ?_
                refine xV rfl rfl rfl (v_assign rfl) ?_
                refine rl_nil (g_le (xK (xK (xK (Fr.le_refl _)))) ?_)
                exact g_le (by repeat (first | exact Fr.le_nil _ | refine Fr.le_cons rfl ?_)) (ih (i + 1, .slice za (ys ++ [x]).length zc, ys ++ [x]) w ⟨by simp only; omega, by simp only; omega, hyk2, hw.xQ⟩ (by simp only; omega))
            · try with_reducible exact tf_elim h3
              all_goals
                try replace h3 := of_decide_eq_false h3
                refine g_skip (g_inBlock ?_)
                refine g_region ?_
                refine xV rfl rfl rfl (v_move rfl) ?_
                refine xV rfl rfl rfl (v_add rfl rfl (by omega)) ?_
                refine xV rfl rfl rfl (v_assign rfl) ?_
                refine rl_nil (g_le (xK (xK (xK (Fr.le_refl _)))) ?_)
                exact g_le (by repeat (first | exact Fr.le_nil _ | refine Fr.le_cons rfl ?_)) (ih (i + 1, .slice oa ys.length oc, ys) w ⟨by simp only; omega, by simp only; omega, hyk, hw.xQ⟩ (by simp only; omega))
  · try with_reducible exact tf_elim h1
    all_goals
      try replace h1 := of_decide_eq_false h1
      refine g_exit rfl (g_seq ?_)
      refine g_region ?_
      refine xV rfl rfl rfl (v_move rfl) ?_
      refine xV rfl rfl rfl (v_assign rfl) ?_
      refine rl_nil (g_le (xK (xS rfl (Fr.le_refl _))) ?_)
      refine g_ret1 Try.func53 rfl rfl ?_
      exact ⟨_, _, rfl, hyk, by omega, hw⟩
end Go.Proofs.Ytipdklbedpkobaa
