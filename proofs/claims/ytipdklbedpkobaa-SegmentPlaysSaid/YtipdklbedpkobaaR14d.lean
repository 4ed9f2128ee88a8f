/-
  The document's log (letheref14): New, Copy, Append.
-/
import Derived.Test.YtipdklbedpkobaaR14c
namespace Go.Proofs.Ytipdklbedpkobaa
set_option maxRecDepth 8000
set_option linter.unusedSimpArgs false
set_option linter.unusedVariables false
open Go Xe Go.Lib
theorem own_lit0 {E : Env} {w : World} {L : List As} (e sz : Nat) (a : Addr) (h : Sat E w L) : Sat E w (OwnSl e sz (.slice (some a) 0 0) 0 [] :: L) := h.emp.imp fun _ hA => .inl ⟨a, rfl, rfl, rfl, hA⟩
theorem subAt_all (xs : List Value) : SubAt xs 0 xs := by have h := subAt_slice (xs := xs) xs.length 0; simpa using h
theorem ord_f77_r1_R14d : orderOfB Try.f77 1 [23] (.a 0 (.a 1 (.a 2 (.a 5 (.a 6 (.a 7 (.a 11 (.a 12 (.a 13 (.a 17 (.a 18 (.a 19 (.v 3 (.v 8 (.v 14 (.v 20 (.b3 4 10 16 (.b3 9 10 16 (.b2 10 16 (.b2 15 16 (.k 16 (.k 21 (.k 22 (.k 23 (.k 24 .done))))) (.k 15 (.k 21 (.k 22 (.k 23 (.k 24 .done)))))) (.k 10 (.k 15 (.k 21 (.k 22 (.k 23 (.k 24 .done))))))) (.b2 9 16 (.b2 15 16 (.k 16 (.k 21 (.k 22 (.k 23 (.k 24 .done))))) (.k 15 (.k 21 (.k 22 (.k 23 (.k 24 .done)))))) (.k 9 (.k 15 (.k 21 (.k 22 (.k 23 (.k 24 .done))))))) (.b2 9 10 (.k 10 (.k 15 (.k 21 (.k 22 (.k 23 (.k 24 .done)))))) (.k 9 (.k 15 (.k 21 (.k 22 (.k 23 (.k 24 .done)))))))) (.b2 4 16 (.b2 9 16 (.b2 15 16 (.k 16 (.k 21 (.k 22 (.k 23 (.k 24 .done))))) (.k 15 (.k 21 (.k 22 (.k 23 (.k 24 .done)))))) (.k 9 (.k 15 (.k 21 (.k 22 (.k 23 (.k 24 .done))))))) (.k 4 (.k 9 (.k 15 (.k 21 (.k 22 (.k 23 (.k 24 .done)))))))) (.b2 4 10 (.b2 9 10 (.k 10 (.k 15 (.k 21 (.k 22 (.k 23 (.k 24 .done)))))) (.k 9 (.k 15 (.k 21 (.k 22 (.k 23 (.k 24 .done))))))) (.k 4 (.k 9 (.k 15 (.k 21 (.k 22 (.k 23 (.k 24 .done))))))))))))))))))))))))) = true := by kernel_rfl
set_option maxHeartbeats 2000000 in
theorem copy_calls {E : Env} {w : World} {L : List As} {q rm k1 k2 k3 c1 c2 c3 : Nat} {rs : List Sg} (h0 : 1 ≤ rs.length) (hb : rs.length ≤ 4096) (hw : Sat E w (pt q (.cells [Value.pointer (some ⟨rm, 0, none⟩), .slice (some ⟨k1, 0, none⟩) (rs : List Sg).length c1, .slice (some ⟨k2, 0, none⟩) (rs : List Sg).length c2, .slice (some ⟨k3, 0, none⟩) (rs : List Sg).length c3].toArray 120 (0, 0)) :: OwnSl 3 1 (.slice (some ⟨k1, 0, none⟩) (rs).length c1) (rs).length ((rs).map fun x => Value.int .i64 x.kind) :: OwnSl 3 1 (.slice (some ⟨k2, 0, none⟩) (rs).length c2) (rs).length ((rs).map fun x => Value.int .i64 x.used) :: OwnSl 3 1 (.slice (some ⟨k3, 0, none⟩) (rs).length c3) (rs).length ((rs).map fun x => Value.int .i64 x.live) :: L)) :
    Calls Try.prog 77 #[.pointer (some ⟨q, 0, none⟩)] w fun e w' => ∃ q' a1 a2 a3 d1 d2 d3, e = .returned (.pointer (some ⟨q', 0, none⟩)) ∧ Sat E w' (pt q' (.cells [Value.pointer (some ⟨rm, 0, none⟩), .slice (some ⟨a1, 0, none⟩) (rs : List Sg).length d1, .slice (some ⟨a2, 0, none⟩) (rs : List Sg).length d2, .slice (some ⟨a3, 0, none⟩) (rs : List Sg).length d3].toArray 120 (0, 0)) :: OwnSl 3 1 (.slice (some ⟨a1, 0, none⟩) (rs).length d1) (rs).length ((rs).map fun x => Value.int .i64 x.kind) :: OwnSl 3 1 (.slice (some ⟨a2, 0, none⟩) (rs).length d2) (rs).length ((rs).map fun x => Value.int .i64 x.used) :: OwnSl 3 1 (.slice (some ⟨a3, 0, none⟩) (rs).length d3) (rs).length ((rs).map fun x => Value.int .i64 x.live) :: pt q (.cells [Value.pointer (some ⟨rm, 0, none⟩), .slice (some ⟨k1, 0, none⟩) (rs : List Sg).length c1, .slice (some ⟨k2, 0, none⟩) (rs : List Sg).length c2, .slice (some ⟨k3, 0, none⟩) (rs : List Sg).length c3].toArray 120 (0, 0)) :: OwnSl 3 1 (.slice (some ⟨k1, 0, none⟩) (rs).length c1) (rs).length ((rs).map fun x => Value.int .i64 x.kind) :: OwnSl 3 1 (.slice (some ⟨k2, 0, none⟩) (rs).length c2) (rs).length ((rs).map fun x => Value.int .i64 x.used) :: OwnSl 3 1 (.slice (some ⟨k3, 0, none⟩) (rs).length c3) (rs).length ((rs).map fun x => Value.int .i64 x.live) :: L) := by
  have hn1 : (rs.map fun x => Value.int .i64 x.kind).length = rs.length * 1 := by simp
  have hn2 : (rs.map fun x => Value.int .i64 x.used).length = rs.length * 1 := by simp
  have hn3 : (rs.map fun x => Value.int .i64 x.live).length = rs.length * 1 := by simp
  have ho1 : ∀ u ∈ (rs.map fun x => Value.int .i64 x.kind), u.oneCell' = true := fun u hu => by obtain ⟨x, _, rfl⟩ := List.mem_map.1 hu; rfl
  have ho2 : ∀ u ∈ (rs.map fun x => Value.int .i64 x.used), u.oneCell' = true := fun u hu => by obtain ⟨x, _, rfl⟩ := List.mem_map.1 hu; rfl
  have ho3 : ∀ u ∈ (rs.map fun x => Value.int .i64 x.live), u.oneCell' = true := fun u hu => by obtain ⟨x, _, rfl⟩ := List.mem_map.1 hu; rfl
  refine calls_of_g (n := 27) Try.func77 rfl rfl rfl ?_
  change G _ _ _ _ _ [(0, _)] _
  refine g_seq ?_
  refine g_region ?_
  refine xV rfl rfl rfl (v_assign rfl) ?_
  refine rl_nil (g_le (xK (Fr.le_refl _)) ?_)
  refine g_seq ?_
  refine g_drawR ord_f77_r1_R14d (by kernel_rfl) T.mixed hw (fun w hw => ?_)
  refine rs_a 0 rfl rfl rfl rfl (v_move rfl) ?_
  refine rs_a 1 rfl rfl rfl rfl (v_nilCheck rfl) ?_
  refine rs_a 2 rfl rfl rfl rfl (v_fieldAddr0 T.fld_120_0_0 rfl) ?_
  refine rs_a 5 rfl rfl rfl rfl (v_move rfl) ?_
  refine rs_a 6 rfl rfl rfl rfl (v_nilCheck rfl) ?_
  refine rs_a 7 rfl rfl rfl rfl (v_fieldAddr0 T.fld_120_1_1 rfl) ?_
  refine rs_a 11 rfl rfl rfl rfl (v_move rfl) ?_
  refine rs_a 12 rfl rfl rfl rfl (v_nilCheck rfl) ?_
  refine rs_a 13 rfl rfl rfl rfl (v_fieldAddr0 T.fld_120_2_2 rfl) ?_
  refine rs_a 17 rfl rfl rfl rfl (v_move rfl) ?_
  refine rs_a 18 rfl rfl rfl rfl (v_nilCheck rfl) ?_
  refine rs_a 19 rfl rfl rfl rfl (v_fieldAddr0 T.fld_120_3_3 rfl) ?_
  refine rs_v 3 rfl rfl rfl rfl (OpV.mono (v_load T.scal_81 rfl) (fun w hw => by exact sat_cell hw (by (repeat first | with_reducible exact xH | apply xT); first | done | fail) rfl)) (by exact hw) ?_
  refine rs_v 8 rfl rfl rfl rfl (OpV.mono (v_load T.scal_61 rfl) (fun w hw => by exact sat_cell hw (by (repeat first | with_reducible exact xH | apply xT); first | done | fail) rfl)) (by exact hw) ?_
  refine rs_v 14 rfl rfl rfl rfl (OpV.mono (v_load T.scal_61 rfl) (fun w hw => by exact sat_cell hw (by (repeat first | with_reducible exact xH | apply xT); first | done | fail) rfl)) (by exact hw) ?_
  refine rs_v 20 rfl rfl rfl rfl (OpV.mono (v_load T.scal_61 rfl) (fun w hw => by exact sat_cell hw (by (repeat first | with_reducible exact xH | apply xT); first | done | fail) rfl)) (by exact hw) ?_
  refine rs_b3 4 10 16 rfl rfl rfl rfl rfl rfl ?_ ?_ ?_ 
  · skip
    refine (k_buildSlice0 hw T.sl_61_3_1 T.zero_3 rfl (fun bk1_4 w hw => ?_))
    refine ⟨fun _ => (by exact Sat.sub hw (by (repeat (first | with_reducible exact Sub.refl _ | exact Sub.nil _ | (apply Sub.cons; focus ((repeat (first | with_reducible exact Pick.here _ | apply Pick.there)); (first | done | fail))) | with_reducible apply Sub.drop)); first | done | fail)), ?_⟩
    refine rs_b3 9 10 16 rfl rfl rfl rfl rfl rfl ?_ ?_ ?_ 
    · skip
      have hlen9 := hn1
      have hsrc9 : SrcAt w (some ⟨k1, 0, none⟩) rs.length (rs.map fun x => Value.int .i64 x.kind) := .inr ⟨k1, 0, rfl, own_cells hw (by (repeat first | with_reducible exact xH | apply xT); first | done | fail) (subAt_all _)⟩
      refine (k_appendS hw T.sl_61_3_1 T.zero_3 T.bytes_3_8 rfl (by decide) rfl rfl (by (repeat first | with_reducible exact xH | apply xT); first | done | fail) (by assumption) (by assumption) (by assumption) (by omega) (by simp only [maxLen] at *; omega) rfl (fun vv1_9 w hw hnil => ?_))
      refine ⟨fun _ => (by exact Sat.sub hw (by (repeat (first | with_reducible exact Sub.refl _ | exact Sub.nil _ | (apply Sub.cons; focus ((repeat (first | with_reducible exact Pick.here _ | apply Pick.there)); (first | done | fail))) | with_reducible apply Sub.drop)); first | done | fail)), ?_⟩
      obtain ⟨z1, d1, rfl, _, _, hz1⟩ := hw.own_shape
      refine rs_b2 10 16 rfl rfl rfl rfl ?_ ?_ 
      · skip
        refine (k_buildSlice0 hw T.sl_61_3_1 T.zero_3 rfl (fun bk1_10 w hw => ?_))
        refine ⟨fun _ => (by exact Sat.sub hw (by (repeat (first | with_reducible exact Sub.refl _ | exact Sub.nil _ | (apply Sub.cons; focus ((repeat (first | with_reducible exact Pick.here _ | apply Pick.there)); (first | done | fail))) | with_reducible apply Sub.drop)); first | done | fail)), ?_⟩
        refine rs_b2 15 16 rfl rfl rfl rfl ?_ ?_ 
        · skip
          have hlen15 := hn2
          have hsrc15 : SrcAt w (some ⟨k2, 0, none⟩) rs.length (rs.map fun x => Value.int .i64 x.used) := .inr ⟨k2, 0, rfl, own_cells hw (by (repeat first | with_reducible exact xH | apply xT); first | done | fail) (subAt_all _)⟩
          refine (k_appendS hw T.sl_61_3_1 T.zero_3 T.bytes_3_8 rfl (by decide) rfl rfl (by (repeat first | with_reducible exact xH | apply xT); first | done | fail) (by assumption) (by assumption) (by assumption) (by omega) (by simp only [maxLen] at *; omega) rfl (fun vv1_15 w hw hnil => ?_))
          refine ⟨fun _ => (by exact Sat.sub hw (by (repeat (first | with_reducible exact Sub.refl _ | exact Sub.nil _ | (apply Sub.cons; focus ((repeat (first | with_reducible exact Pick.here _ | apply Pick.there)); (first | done | fail))) | with_reducible apply Sub.drop)); first | done | fail)), ?_⟩
          obtain ⟨z2, d2, rfl, _, _, hz2⟩ := hw.own_shape
          refine rs_k 16 rfl rfl (k_buildSlice0 hw T.sl_61_3_1 T.zero_3 rfl (fun bk1_16 w hw => ?_))
          refine ⟨fun _ => (by exact Sat.sub hw (by (repeat (first | with_reducible exact Sub.refl _ | exact Sub.nil _ | (apply Sub.cons; focus ((repeat (first | with_reducible exact Pick.here _ | apply Pick.there)); (first | done | fail))) | with_reducible apply Sub.drop)); first | done | fail)), ?_⟩
          have hlen21 := hn3
          have hsrc21 : SrcAt w (some ⟨k3, 0, none⟩) rs.length (rs.map fun x => Value.int .i64 x.live) := .inr ⟨k3, 0, rfl, own_cells hw (by (repeat first | with_reducible exact xH | apply xT); first | done | fail) (subAt_all _)⟩
          refine rs_k 21 rfl rfl (k_appendS hw T.sl_61_3_1 T.zero_3 T.bytes_3_8 rfl (by decide) rfl rfl (by (repeat first | with_reducible exact xH | apply xT); first | done | fail) (by assumption) (by assumption) (by assumption) (by omega) (by simp only [maxLen] at *; omega) rfl (fun vv1_21 w hw hnil => ?_))
          refine ⟨fun _ => (by exact Sat.sub hw (by (repeat (first | with_reducible exact Sub.refl _ | exact Sub.nil _ | (apply Sub.cons; focus ((repeat (first | with_reducible exact Pick.here _ | apply Pick.there)); (first | done | fail))) | with_reducible apply Sub.drop)); first | done | fail)), ?_⟩
          obtain ⟨z3, d3, rfl, _, _, hz3⟩ := hw.own_shape
          obtain ⟨g1, rfl⟩ := hz1 (by omega)
          obtain ⟨g2, rfl⟩ := hz2 (by omega)
          obtain ⟨g3, rfl⟩ := hz3 (by omega)
          simp only [Nat.zero_add, List.nil_append] at hw ⊢
          refine rs_kv 22 rfl rfl rfl rfl (S' := fun _ => True) trivial (v_build rfl (T.build_120_0_1_2_3 ..)) ?_
          refine rs_k 23 rfl rfl (k_box hw rfl rfl rfl (fun bk1_23 w hw => ?_))
          refine ⟨fun hn => absurd (by decide) hn, ?_⟩
          refine rs_kv 24 rfl rfl rfl rfl (S' := fun _ => True) trivial (v_assign rfl) ?_
          refine rs_done (g_le (xK (xS rfl (xS rfl (xS rfl (xS rfl (xS rfl (xS rfl (xS rfl (xS rfl (xS rfl (xS rfl (xS rfl (xS rfl (xS rfl (xS rfl (xS rfl (xS rfl (xS rfl (xS rfl (xS rfl (xS rfl (xS rfl (xS rfl (xS rfl (xS rfl (Fr.le_refl _)))))))))))))))))))))))))) ?_)
          refine g_ret1 Try.func77 rfl rfl ?_
          exact ⟨_, _, _, _, _, _, _, rfl, hw.xQ⟩
        · skip
          refine (k_buildSlice0 hw T.sl_61_3_1 T.zero_3 rfl (fun bk1_16 w hw => ?_))
          refine ⟨fun _ => (by exact Sat.sub hw (by (repeat (first | with_reducible exact Sub.refl _ | exact Sub.nil _ | (apply Sub.cons; focus ((repeat (first | with_reducible exact Pick.here _ | apply Pick.there)); (first | done | fail))) | with_reducible apply Sub.drop)); first | done | fail)), ?_⟩
          have hlen15 := hn2
          have hsrc15 : SrcAt w (some ⟨k2, 0, none⟩) rs.length (rs.map fun x => Value.int .i64 x.used) := .inr ⟨k2, 0, rfl, own_cells hw (by (repeat first | with_reducible exact xH | apply xT); first | done | fail) (subAt_all _)⟩
          refine rs_k 15 rfl rfl (k_appendS hw T.sl_61_3_1 T.zero_3 T.bytes_3_8 rfl (by decide) rfl rfl (by (repeat first | with_reducible exact xH | apply xT); first | done | fail) (by assumption) (by assumption) (by assumption) (by omega) (by simp only [maxLen] at *; omega) rfl (fun vv1_15 w hw hnil => ?_))
          refine ⟨fun _ => (by exact Sat.sub hw (by (repeat (first | with_reducible exact Sub.refl _ | exact Sub.nil _ | (apply Sub.cons; focus ((repeat (first | with_reducible exact Pick.here _ | apply Pick.there)); (first | done | fail))) | with_reducible apply Sub.drop)); first | done | fail)), ?_⟩
          obtain ⟨z2, d2, rfl, _, _, hz2⟩ := hw.own_shape
          have hlen21 := hn3
          have hsrc21 : SrcAt w (some ⟨k3, 0, none⟩) rs.length (rs.map fun x => Value.int .i64 x.live) := .inr ⟨k3, 0, rfl, own_cells hw (by (repeat first | with_reducible exact xH | apply xT); first | done | fail) (subAt_all _)⟩
          refine rs_k 21 rfl rfl (k_appendS hw T.sl_61_3_1 T.zero_3 T.bytes_3_8 rfl (by decide) rfl rfl (by (repeat first | with_reducible exact xH | apply xT); first | done | fail) (by assumption) (by assumption) (by assumption) (by omega) (by simp only [maxLen] at *; omega) rfl (fun vv1_21 w hw hnil => ?_))
          refine ⟨fun _ => (by exact Sat.sub hw (by (repeat (first | with_reducible exact Sub.refl _ | exact Sub.nil _ | (apply Sub.cons; focus ((repeat (first | with_reducible exact Pick.here _ | apply Pick.there)); (first | done | fail))) | with_reducible apply Sub.drop)); first | done | fail)), ?_⟩
          obtain ⟨z3, d3, rfl, _, _, hz3⟩ := hw.own_shape
          obtain ⟨g1, rfl⟩ := hz1 (by omega)
          obtain ⟨g2, rfl⟩ := hz2 (by omega)
          obtain ⟨g3, rfl⟩ := hz3 (by omega)
          simp only [Nat.zero_add, List.nil_append] at hw ⊢
          refine rs_kv 22 rfl rfl rfl rfl (S' := fun _ => True) trivial (v_build rfl (T.build_120_0_1_2_3 ..)) ?_
          refine rs_k 23 rfl rfl (k_box hw rfl rfl rfl (fun bk1_23 w hw => ?_))
          refine ⟨fun hn => absurd (by decide) hn, ?_⟩
          refine rs_kv 24 rfl rfl rfl rfl (S' := fun _ => True) trivial (v_assign rfl) ?_
          refine rs_done (g_le (xK (xS rfl (xS rfl (xS rfl (xS rfl (xS rfl (xS rfl (xS rfl (xS rfl (xS rfl (xS rfl (xS rfl (xS rfl (xS rfl (xS rfl (xS rfl (xS rfl (xS rfl (xS rfl (xS rfl (xS rfl (xS rfl (xS rfl (xS rfl (xS rfl (Fr.le_refl _)))))))))))))))))))))))))) ?_)
          refine g_ret1 Try.func77 rfl rfl ?_
          exact ⟨_, _, _, _, _, _, _, rfl, hw.xQ⟩
      · skip
        refine (k_buildSlice0 hw T.sl_61_3_1 T.zero_3 rfl (fun bk1_16 w hw => ?_))
        refine ⟨fun _ => (by exact Sat.sub hw (by (repeat (first | with_reducible exact Sub.refl _ | exact Sub.nil _ | (apply Sub.cons; focus ((repeat (first | with_reducible exact Pick.here _ | apply Pick.there)); (first | done | fail))) | with_reducible apply Sub.drop)); first | done | fail)), ?_⟩
        refine rs_k 10 rfl rfl (k_buildSlice0 hw T.sl_61_3_1 T.zero_3 rfl (fun bk1_10 w hw => ?_))
        refine ⟨fun _ => (by exact Sat.sub hw (by (repeat (first | with_reducible exact Sub.refl _ | exact Sub.nil _ | (apply Sub.cons; focus ((repeat (first | with_reducible exact Pick.here _ | apply Pick.there)); (first | done | fail))) | with_reducible apply Sub.drop)); first | done | fail)), ?_⟩
        have hlen15 := hn2
        have hsrc15 : SrcAt w (some ⟨k2, 0, none⟩) rs.length (rs.map fun x => Value.int .i64 x.used) := .inr ⟨k2, 0, rfl, own_cells hw (by (repeat first | with_reducible exact xH | apply xT); first | done | fail) (subAt_all _)⟩
        refine rs_k 15 rfl rfl (k_appendS hw T.sl_61_3_1 T.zero_3 T.bytes_3_8 rfl (by decide) rfl rfl (by (repeat first | with_reducible exact xH | apply xT); first | done | fail) (by assumption) (by assumption) (by assumption) (by omega) (by simp only [maxLen] at *; omega) rfl (fun vv1_15 w hw hnil => ?_))
        refine ⟨fun _ => (by exact Sat.sub hw (by (repeat (first | with_reducible exact Sub.refl _ | exact Sub.nil _ | (apply Sub.cons; focus ((repeat (first | with_reducible exact Pick.here _ | apply Pick.there)); (first | done | fail))) | with_reducible apply Sub.drop)); first | done | fail)), ?_⟩
        obtain ⟨z2, d2, rfl, _, _, hz2⟩ := hw.own_shape
        have hlen21 := hn3
        have hsrc21 : SrcAt w (some ⟨k3, 0, none⟩) rs.length (rs.map fun x => Value.int .i64 x.live) := .inr ⟨k3, 0, rfl, own_cells hw (by (repeat first | with_reducible exact xH | apply xT); first | done | fail) (subAt_all _)⟩
        refine rs_k 21 rfl rfl (k_appendS hw T.sl_61_3_1 T.zero_3 T.bytes_3_8 rfl (by decide) rfl rfl (by (repeat first | with_reducible exact xH | apply xT); first | done | fail) (by assumption) (by assumption) (by assumption) (by omega) (by simp only [maxLen] at *; omega) rfl (fun vv1_21 w hw hnil => ?_))
        refine ⟨fun _ => (by exact Sat.sub hw (by (repeat (first | with_reducible exact Sub.refl _ | exact Sub.nil _ | (apply Sub.cons; focus ((repeat (first | with_reducible exact Pick.here _ | apply Pick.there)); (first | done | fail))) | with_reducible apply Sub.drop)); first | done | fail)), ?_⟩
        obtain ⟨z3, d3, rfl, _, _, hz3⟩ := hw.own_shape
        obtain ⟨g1, rfl⟩ := hz1 (by omega)
        obtain ⟨g2, rfl⟩ := hz2 (by omega)
        obtain ⟨g3, rfl⟩ := hz3 (by omega)
        simp only [Nat.zero_add, List.nil_append] at hw ⊢
        refine rs_kv 22 rfl rfl rfl rfl (S' := fun _ => True) trivial (v_build rfl (T.build_120_0_1_2_3 ..)) ?_
        refine rs_k 23 rfl rfl (k_box hw rfl rfl rfl (fun bk1_23 w hw => ?_))
        refine ⟨fun hn => absurd (by decide) hn, ?_⟩
        refine rs_kv 24 rfl rfl rfl rfl (S' := fun _ => True) trivial (v_assign rfl) ?_
        refine rs_done (g_le (xK (xS rfl (xS rfl (xS rfl (xS rfl (xS rfl (xS rfl (xS rfl (xS rfl (xS rfl (xS rfl (xS rfl (xS rfl (xS rfl (xS rfl (xS rfl (xS rfl (xS rfl (xS rfl (xS rfl (xS rfl (xS rfl (xS rfl (xS rfl (xS rfl (Fr.le_refl _)))))))))))))))))))))))))) ?_)
        refine g_ret1 Try.func77 rfl rfl ?_
        exact ⟨_, _, _, _, _, _, _, rfl, hw.xQ⟩
    · skip
      refine (k_buildSlice0 hw T.sl_61_3_1 T.zero_3 rfl (fun bk1_10 w hw => ?_))
      refine ⟨fun _ => (by exact Sat.sub hw (by (repeat (first | with_reducible exact Sub.refl _ | exact Sub.nil _ | (apply Sub.cons; focus ((repeat (first | with_reducible exact Pick.here _ | apply Pick.there)); (first | done | fail))) | with_reducible apply Sub.drop)); first | done | fail)), ?_⟩
      refine rs_b2 9 16 rfl rfl rfl rfl ?_ ?_ 
      · skip
        have hlen9 := hn1
        have hsrc9 : SrcAt w (some ⟨k1, 0, none⟩) rs.length (rs.map fun x => Value.int .i64 x.kind) := .inr ⟨k1, 0, rfl, own_cells hw (by (repeat first | with_reducible exact xH | apply xT); first | done | fail) (subAt_all _)⟩
        refine (k_appendS hw T.sl_61_3_1 T.zero_3 T.bytes_3_8 rfl (by decide) rfl rfl (by (repeat first | with_reducible exact xH | apply xT); first | done | fail) (by assumption) (by assumption) (by assumption) (by omega) (by simp only [maxLen] at *; omega) rfl (fun vv1_9 w hw hnil => ?_))
        refine ⟨fun _ => (by exact Sat.sub hw (by (repeat (first | with_reducible exact Sub.refl _ | exact Sub.nil _ | (apply Sub.cons; focus ((repeat (first | with_reducible exact Pick.here _ | apply Pick.there)); (first | done | fail))) | with_reducible apply Sub.drop)); first | done | fail)), ?_⟩
        obtain ⟨z1, d1, rfl, _, _, hz1⟩ := hw.own_shape
        refine rs_b2 15 16 rfl rfl rfl rfl ?_ ?_ 
        · skip
          have hlen15 := hn2
          have hsrc15 : SrcAt w (some ⟨k2, 0, none⟩) rs.length (rs.map fun x => Value.int .i64 x.used) := .inr ⟨k2, 0, rfl, own_cells hw (by (repeat first | with_reducible exact xH | apply xT); first | done | fail) (subAt_all _)⟩
          refine (k_appendS hw T.sl_61_3_1 T.zero_3 T.bytes_3_8 rfl (by decide) rfl rfl (by (repeat first | with_reducible exact xH | apply xT); first | done | fail) (by assumption) (by assumption) (by assumption) (by omega) (by simp only [maxLen] at *; omega) rfl (fun vv1_15 w hw hnil => ?_))
          refine ⟨fun _ => (by exact Sat.sub hw (by (repeat (first | with_reducible exact Sub.refl _ | exact Sub.nil _ | (apply Sub.cons; focus ((repeat (first | with_reducible exact Pick.here _ | apply Pick.there)); (first | done | fail))) | with_reducible apply Sub.drop)); first | done | fail)), ?_⟩
          obtain ⟨z2, d2, rfl, _, _, hz2⟩ := hw.own_shape
          refine rs_k 16 rfl rfl (k_buildSlice0 hw T.sl_61_3_1 T.zero_3 rfl (fun bk1_16 w hw => ?_))
          refine ⟨fun _ => (by exact Sat.sub hw (by (repeat (first | with_reducible exact Sub.refl _ | exact Sub.nil _ | (apply Sub.cons; focus ((repeat (first | with_reducible exact Pick.here _ | apply Pick.there)); (first | done | fail))) | with_reducible apply Sub.drop)); first | done | fail)), ?_⟩
          have hlen21 := hn3
          have hsrc21 : SrcAt w (some ⟨k3, 0, none⟩) rs.length (rs.map fun x => Value.int .i64 x.live) := .inr ⟨k3, 0, rfl, own_cells hw (by (repeat first | with_reducible exact xH | apply xT); first | done | fail) (subAt_all _)⟩
          refine rs_k 21 rfl rfl (k_appendS hw T.sl_61_3_1 T.zero_3 T.bytes_3_8 rfl (by decide) rfl rfl (by (repeat first | with_reducible exact xH | apply xT); first | done | fail) (by assumption) (by assumption) (by assumption) (by omega) (by simp only [maxLen] at *; omega) rfl (fun vv1_21 w hw hnil => ?_))
          refine ⟨fun _ => (by exact Sat.sub hw (by (repeat (first | with_reducible exact Sub.refl _ | exact Sub.nil _ | (apply Sub.cons; focus ((repeat (first | with_reducible exact Pick.here _ | apply Pick.there)); (first | done | fail))) | with_reducible apply Sub.drop)); first | done | fail)), ?_⟩
          obtain ⟨z3, d3, rfl, _, _, hz3⟩ := hw.own_shape
          obtain ⟨g1, rfl⟩ := hz1 (by omega)
          obtain ⟨g2, rfl⟩ := hz2 (by omega)
          obtain ⟨g3, rfl⟩ := hz3 (by omega)
          simp only [Nat.zero_add, List.nil_append] at hw ⊢
          refine rs_kv 22 rfl rfl rfl rfl (S' := fun _ => True) trivial (v_build rfl (T.build_120_0_1_2_3 ..)) ?_
          refine rs_k 23 rfl rfl (k_box hw rfl rfl rfl (fun bk1_23 w hw => ?_))
          refine ⟨fun hn => absurd (by decide) hn, ?_⟩
          refine rs_kv 24 rfl rfl rfl rfl (S' := fun _ => True) trivial (v_assign rfl) ?_
          refine rs_done (g_le (xK (xS rfl (xS rfl (xS rfl (xS rfl (xS rfl (xS rfl (xS rfl (xS rfl (xS rfl (xS rfl (xS rfl (xS rfl (xS rfl (xS rfl (xS rfl (xS rfl (xS rfl (xS rfl (xS rfl (xS rfl (xS rfl (xS rfl (xS rfl (xS rfl (Fr.le_refl _)))))))))))))))))))))))))) ?_)
          refine g_ret1 Try.func77 rfl rfl ?_
          exact ⟨_, _, _, _, _, _, _, rfl, hw.xQ⟩
        · skip
          refine (k_buildSlice0 hw T.sl_61_3_1 T.zero_3 rfl (fun bk1_16 w hw => ?_))
          refine ⟨fun _ => (by exact Sat.sub hw (by (repeat (first | with_reducible exact Sub.refl _ | exact Sub.nil _ | (apply Sub.cons; focus ((repeat (first | with_reducible exact Pick.here _ | apply Pick.there)); (first | done | fail))) | with_reducible apply Sub.drop)); first | done | fail)), ?_⟩
          have hlen15 := hn2
          have hsrc15 : SrcAt w (some ⟨k2, 0, none⟩) rs.length (rs.map fun x => Value.int .i64 x.used) := .inr ⟨k2, 0, rfl, own_cells hw (by (repeat first | with_reducible exact xH | apply xT); first | done | fail) (subAt_all _)⟩
          refine rs_k 15 rfl rfl (k_appendS hw T.sl_61_3_1 T.zero_3 T.bytes_3_8 rfl (by decide) rfl rfl (by (repeat first | with_reducible exact xH | apply xT); first | done | fail) (by assumption) (by assumption) (by assumption) (by omega) (by simp only [maxLen] at *; omega) rfl (fun vv1_15 w hw hnil => ?_))
          refine ⟨fun _ => (by exact Sat.sub hw (by (repeat (first | with_reducible exact Sub.refl _ | exact Sub.nil _ | (apply Sub.cons; focus ((repeat (first | with_reducible exact Pick.here _ | apply Pick.there)); (first | done | fail))) | with_reducible apply Sub.drop)); first | done | fail)), ?_⟩
          obtain ⟨z2, d2, rfl, _, _, hz2⟩ := hw.own_shape
          have hlen21 := hn3
          have hsrc21 : SrcAt w (some ⟨k3, 0, none⟩) rs.length (rs.map fun x => Value.int .i64 x.live) := .inr ⟨k3, 0, rfl, own_cells hw (by (repeat first | with_reducible exact xH | apply xT); first | done | fail) (subAt_all _)⟩
          refine rs_k 21 rfl rfl (k_appendS hw T.sl_61_3_1 T.zero_3 T.bytes_3_8 rfl (by decide) rfl rfl (by (repeat first | with_reducible exact xH | apply xT); first | done | fail) (by assumption) (by assumption) (by assumption) (by omega) (by simp only [maxLen] at *; omega) rfl (fun vv1_21 w hw hnil => ?_))
          refine ⟨fun _ => (by exact Sat.sub hw (by (repeat (first | with_reducible exact Sub.refl _ | exact Sub.nil _ | (apply Sub.cons; focus ((repeat (first | with_reducible exact Pick.here _ | apply Pick.there)); (first | done | fail))) | with_reducible apply Sub.drop)); first | done | fail)), ?_⟩
          obtain ⟨z3, d3, rfl, _, _, hz3⟩ := hw.own_shape
          obtain ⟨g1, rfl⟩ := hz1 (by omega)
          obtain ⟨g2, rfl⟩ := hz2 (by omega)
          obtain ⟨g3, rfl⟩ := hz3 (by omega)
          simp only [Nat.zero_add, List.nil_append] at hw ⊢
          refine rs_kv 22 rfl rfl rfl rfl (S' := fun _ => True) trivial (v_build rfl (T.build_120_0_1_2_3 ..)) ?_
          refine rs_k 23 rfl rfl (k_box hw rfl rfl rfl (fun bk1_23 w hw => ?_))
          refine ⟨fun hn => absurd (by decide) hn, ?_⟩
          refine rs_kv 24 rfl rfl rfl rfl (S' := fun _ => True) trivial (v_assign rfl) ?_
          refine rs_done (g_le (xK (xS rfl (xS rfl (xS rfl (xS rfl (xS rfl (xS rfl (xS rfl (xS rfl (xS rfl (xS rfl (xS rfl (xS rfl (xS rfl (xS rfl (xS rfl (xS rfl (xS rfl (xS rfl (xS rfl (xS rfl (xS rfl (xS rfl (xS rfl (xS rfl (Fr.le_refl _)))))))))))))))))))))))))) ?_)
          refine g_ret1 Try.func77 rfl rfl ?_
          exact ⟨_, _, _, _, _, _, _, rfl, hw.xQ⟩
      · skip
        refine (k_buildSlice0 hw T.sl_61_3_1 T.zero_3 rfl (fun bk1_16 w hw => ?_))
        refine ⟨fun _ => (by exact Sat.sub hw (by (repeat (first | with_reducible exact Sub.refl _ | exact Sub.nil _ | (apply Sub.cons; focus ((repeat (first | with_reducible exact Pick.here _ | apply Pick.there)); (first | done | fail))) | with_reducible apply Sub.drop)); first | done | fail)), ?_⟩
        have hlen9 := hn1
        have hsrc9 : SrcAt w (some ⟨k1, 0, none⟩) rs.length (rs.map fun x => Value.int .i64 x.kind) := .inr ⟨k1, 0, rfl, own_cells hw (by (repeat first | with_reducible exact xH | apply xT); first | done | fail) (subAt_all _)⟩
        refine rs_k 9 rfl rfl (k_appendS hw T.sl_61_3_1 T.zero_3 T.bytes_3_8 rfl (by decide) rfl rfl (by (repeat first | with_reducible exact xH | apply xT); first | done | fail) (by assumption) (by assumption) (by assumption) (by omega) (by simp only [maxLen] at *; omega) rfl (fun vv1_9 w hw hnil => ?_))
        refine ⟨fun _ => (by exact Sat.sub hw (by (repeat (first | with_reducible exact Sub.refl _ | exact Sub.nil _ | (apply Sub.cons; focus ((repeat (first | with_reducible exact Pick.here _ | apply Pick.there)); (first | done | fail))) | with_reducible apply Sub.drop)); first | done | fail)), ?_⟩
        obtain ⟨z1, d1, rfl, _, _, hz1⟩ := hw.own_shape
        have hlen15 := hn2
        have hsrc15 : SrcAt w (some ⟨k2, 0, none⟩) rs.length (rs.map fun x => Value.int .i64 x.used) := .inr ⟨k2, 0, rfl, own_cells hw (by (repeat first | with_reducible exact xH | apply xT); first | done | fail) (subAt_all _)⟩
        refine rs_k 15 rfl rfl (k_appendS hw T.sl_61_3_1 T.zero_3 T.bytes_3_8 rfl (by decide) rfl rfl (by (repeat first | with_reducible exact xH | apply xT); first | done | fail) (by assumption) (by assumption) (by assumption) (by omega) (by simp only [maxLen] at *; omega) rfl (fun vv1_15 w hw hnil => ?_))
        refine ⟨fun _ => (by exact Sat.sub hw (by (repeat (first | with_reducible exact Sub.refl _ | exact Sub.nil _ | (apply Sub.cons; focus ((repeat (first | with_reducible exact Pick.here _ | apply Pick.there)); (first | done | fail))) | with_reducible apply Sub.drop)); first | done | fail)), ?_⟩
        obtain ⟨z2, d2, rfl, _, _, hz2⟩ := hw.own_shape
        have hlen21 := hn3
        have hsrc21 : SrcAt w (some ⟨k3, 0, none⟩) rs.length (rs.map fun x => Value.int .i64 x.live) := .inr ⟨k3, 0, rfl, own_cells hw (by (repeat first | with_reducible exact xH | apply xT); first | done | fail) (subAt_all _)⟩
        refine rs_k 21 rfl rfl (k_appendS hw T.sl_61_3_1 T.zero_3 T.bytes_3_8 rfl (by decide) rfl rfl (by (repeat first | with_reducible exact xH | apply xT); first | done | fail) (by assumption) (by assumption) (by assumption) (by omega) (by simp only [maxLen] at *; omega) rfl (fun vv1_21 w hw hnil => ?_))
        refine ⟨fun _ => (by exact Sat.sub hw (by (repeat (first | with_reducible exact Sub.refl _ | exact Sub.nil _ | (apply Sub.cons; focus ((repeat (first | with_reducible exact Pick.here _ | apply Pick.there)); (first | done | fail))) | with_reducible apply Sub.drop)); first | done | fail)), ?_⟩
        obtain ⟨z3, d3, rfl, _, _, hz3⟩ := hw.own_shape
        obtain ⟨g1, rfl⟩ := hz1 (by omega)
        obtain ⟨g2, rfl⟩ := hz2 (by omega)
        obtain ⟨g3, rfl⟩ := hz3 (by omega)
        simp only [Nat.zero_add, List.nil_append] at hw ⊢
        refine rs_kv 22 rfl rfl rfl rfl (S' := fun _ => True) trivial (v_build rfl (T.build_120_0_1_2_3 ..)) ?_
        refine rs_k 23 rfl rfl (k_box hw rfl rfl rfl (fun bk1_23 w hw => ?_))
        refine ⟨fun hn => absurd (by decide) hn, ?_⟩
        refine rs_kv 24 rfl rfl rfl rfl (S' := fun _ => True) trivial (v_assign rfl) ?_
        refine rs_done (g_le (xK (xS rfl (xS rfl (xS rfl (xS rfl (xS rfl (xS rfl (xS rfl (xS rfl (xS rfl (xS rfl (xS rfl (xS rfl (xS rfl (xS rfl (xS rfl (xS rfl (xS rfl (xS rfl (xS rfl (xS rfl (xS rfl (xS rfl (xS rfl (xS rfl (Fr.le_refl _)))))))))))))))))))))))))) ?_)
        refine g_ret1 Try.func77 rfl rfl ?_
        exact ⟨_, _, _, _, _, _, _, rfl, hw.xQ⟩
    · skip
      refine (k_buildSlice0 hw T.sl_61_3_1 T.zero_3 rfl (fun bk1_16 w hw => ?_))
      refine ⟨fun _ => (by exact Sat.sub hw (by (repeat (first | with_reducible exact Sub.refl _ | exact Sub.nil _ | (apply Sub.cons; focus ((repeat (first | with_reducible exact Pick.here _ | apply Pick.there)); (first | done | fail))) | with_reducible apply Sub.drop)); first | done | fail)), ?_⟩
      refine rs_b2 9 10 rfl rfl rfl rfl ?_ ?_ 
      · skip
        have hlen9 := hn1
        have hsrc9 : SrcAt w (some ⟨k1, 0, none⟩) rs.length (rs.map fun x => Value.int .i64 x.kind) := .inr ⟨k1, 0, rfl, own_cells hw (by (repeat first | with_reducible exact xH | apply xT); first | done | fail) (subAt_all _)⟩
        refine (k_appendS hw T.sl_61_3_1 T.zero_3 T.bytes_3_8 rfl (by decide) rfl rfl (by (repeat first | with_reducible exact xH | apply xT); first | done | fail) (by assumption) (by assumption) (by assumption) (by omega) (by simp only [maxLen] at *; omega) rfl (fun vv1_9 w hw hnil => ?_))
        refine ⟨fun _ => (by exact Sat.sub hw (by (repeat (first | with_reducible exact Sub.refl _ | exact Sub.nil _ | (apply Sub.cons; focus ((repeat (first | with_reducible exact Pick.here _ | apply Pick.there)); (first | done | fail))) | with_reducible apply Sub.drop)); first | done | fail)), ?_⟩
        obtain ⟨z1, d1, rfl, _, _, hz1⟩ := hw.own_shape
        refine rs_k 10 rfl rfl (k_buildSlice0 hw T.sl_61_3_1 T.zero_3 rfl (fun bk1_10 w hw => ?_))
        refine ⟨fun _ => (by exact Sat.sub hw (by (repeat (first | with_reducible exact Sub.refl _ | exact Sub.nil _ | (apply Sub.cons; focus ((repeat (first | with_reducible exact Pick.here _ | apply Pick.there)); (first | done | fail))) | with_reducible apply Sub.drop)); first | done | fail)), ?_⟩
        have hlen15 := hn2
        have hsrc15 : SrcAt w (some ⟨k2, 0, none⟩) rs.length (rs.map fun x => Value.int .i64 x.used) := .inr ⟨k2, 0, rfl, own_cells hw (by (repeat first | with_reducible exact xH | apply xT); first | done | fail) (subAt_all _)⟩
        refine rs_k 15 rfl rfl (k_appendS hw T.sl_61_3_1 T.zero_3 T.bytes_3_8 rfl (by decide) rfl rfl (by (repeat first | with_reducible exact xH | apply xT); first | done | fail) (by assumption) (by assumption) (by assumption) (by omega) (by simp only [maxLen] at *; omega) rfl (fun vv1_15 w hw hnil => ?_))
        refine ⟨fun _ => (by exact Sat.sub hw (by (repeat (first | with_reducible exact Sub.refl _ | exact Sub.nil _ | (apply Sub.cons; focus ((repeat (first | with_reducible exact Pick.here _ | apply Pick.there)); (first | done | fail))) | with_reducible apply Sub.drop)); first | done | fail)), ?_⟩
        obtain ⟨z2, d2, rfl, _, _, hz2⟩ := hw.own_shape
        have hlen21 := hn3
        have hsrc21 : SrcAt w (some ⟨k3, 0, none⟩) rs.length (rs.map fun x => Value.int .i64 x.live) := .inr ⟨k3, 0, rfl, own_cells hw (by (repeat first | with_reducible exact xH | apply xT); first | done | fail) (subAt_all _)⟩
        refine rs_k 21 rfl rfl (k_appendS hw T.sl_61_3_1 T.zero_3 T.bytes_3_8 rfl (by decide) rfl rfl (by (repeat first | with_reducible exact xH | apply xT); first | done | fail) (by assumption) (by assumption) (by assumption) (by omega) (by simp only [maxLen] at *; omega) rfl (fun vv1_21 w hw hnil => ?_))
        refine ⟨fun _ => (by exact Sat.sub hw (by (repeat (first | with_reducible exact Sub.refl _ | exact Sub.nil _ | (apply Sub.cons; focus ((repeat (first | with_reducible exact Pick.here _ | apply Pick.there)); (first | done | fail))) | with_reducible apply Sub.drop)); first | done | fail)), ?_⟩
        obtain ⟨z3, d3, rfl, _, _, hz3⟩ := hw.own_shape
        obtain ⟨g1, rfl⟩ := hz1 (by omega)
        obtain ⟨g2, rfl⟩ := hz2 (by omega)
        obtain ⟨g3, rfl⟩ := hz3 (by omega)
        simp only [Nat.zero_add, List.nil_append] at hw ⊢
        refine rs_kv 22 rfl rfl rfl rfl (S' := fun _ => True) trivial (v_build rfl (T.build_120_0_1_2_3 ..)) ?_
        refine rs_k 23 rfl rfl (k_box hw rfl rfl rfl (fun bk1_23 w hw => ?_))
        refine ⟨fun hn => absurd (by decide) hn, ?_⟩
        refine rs_kv 24 rfl rfl rfl rfl (S' := fun _ => True) trivial (v_assign rfl) ?_
        refine rs_done (g_le (xK (xS rfl (xS rfl (xS rfl (xS rfl (xS rfl (xS rfl (xS rfl (xS rfl (xS rfl (xS rfl (xS rfl (xS rfl (xS rfl (xS rfl (xS rfl (xS rfl (xS rfl (xS rfl (xS rfl (xS rfl (xS rfl (xS rfl (xS rfl (xS rfl (Fr.le_refl _)))))))))))))))))))))))))) ?_)
        refine g_ret1 Try.func77 rfl rfl ?_
        exact ⟨_, _, _, _, _, _, _, rfl, hw.xQ⟩
      · skip
        refine (k_buildSlice0 hw T.sl_61_3_1 T.zero_3 rfl (fun bk1_10 w hw => ?_))
        refine ⟨fun _ => (by exact Sat.sub hw (by (repeat (first | with_reducible exact Sub.refl _ | exact Sub.nil _ | (apply Sub.cons; focus ((repeat (first | with_reducible exact Pick.here _ | apply Pick.there)); (first | done | fail))) | with_reducible apply Sub.drop)); first | done | fail)), ?_⟩
        have hlen9 := hn1
        have hsrc9 : SrcAt w (some ⟨k1, 0, none⟩) rs.length (rs.map fun x => Value.int .i64 x.kind) := .inr ⟨k1, 0, rfl, own_cells hw (by (repeat first | with_reducible exact xH | apply xT); first | done | fail) (subAt_all _)⟩
        refine rs_k 9 rfl rfl (k_appendS hw T.sl_61_3_1 T.zero_3 T.bytes_3_8 rfl (by decide) rfl rfl (by (repeat first | with_reducible exact xH | apply xT); first | done | fail) (by assumption) (by assumption) (by assumption) (by omega) (by simp only [maxLen] at *; omega) rfl (fun vv1_9 w hw hnil => ?_))
        refine ⟨fun _ => (by exact Sat.sub hw (by (repeat (first | with_reducible exact Sub.refl _ | exact Sub.nil _ | (apply Sub.cons; focus ((repeat (first | with_reducible exact Pick.here _ | apply Pick.there)); (first | done | fail))) | with_reducible apply Sub.drop)); first | done | fail)), ?_⟩
        obtain ⟨z1, d1, rfl, _, _, hz1⟩ := hw.own_shape
        have hlen15 := hn2
        have hsrc15 : SrcAt w (some ⟨k2, 0, none⟩) rs.length (rs.map fun x => Value.int .i64 x.used) := .inr ⟨k2, 0, rfl, own_cells hw (by (repeat first | with_reducible exact xH | apply xT); first | done | fail) (subAt_all _)⟩
        refine rs_k 15 rfl rfl (k_appendS hw T.sl_61_3_1 T.zero_3 T.bytes_3_8 rfl (by decide) rfl rfl (by (repeat first | with_reducible exact xH | apply xT); first | done | fail) (by assumption) (by assumption) (by assumption) (by omega) (by simp only [maxLen] at *; omega) rfl (fun vv1_15 w hw hnil => ?_))
        refine ⟨fun _ => (by exact Sat.sub hw (by (repeat (first | with_reducible exact Sub.refl _ | exact Sub.nil _ | (apply Sub.cons; focus ((repeat (first | with_reducible exact Pick.here _ | apply Pick.there)); (first | done | fail))) | with_reducible apply Sub.drop)); first | done | fail)), ?_⟩
        obtain ⟨z2, d2, rfl, _, _, hz2⟩ := hw.own_shape
        have hlen21 := hn3
        have hsrc21 : SrcAt w (some ⟨k3, 0, none⟩) rs.length (rs.map fun x => Value.int .i64 x.live) := .inr ⟨k3, 0, rfl, own_cells hw (by (repeat first | with_reducible exact xH | apply xT); first | done | fail) (subAt_all _)⟩
        refine rs_k 21 rfl rfl (k_appendS hw T.sl_61_3_1 T.zero_3 T.bytes_3_8 rfl (by decide) rfl rfl (by (repeat first | with_reducible exact xH | apply xT); first | done | fail) (by assumption) (by assumption) (by assumption) (by omega) (by simp only [maxLen] at *; omega) rfl (fun vv1_21 w hw hnil => ?_))
        refine ⟨fun _ => (by exact Sat.sub hw (by (repeat (first | with_reducible exact Sub.refl _ | exact Sub.nil _ | (apply Sub.cons; focus ((repeat (first | with_reducible exact Pick.here _ | apply Pick.there)); (first | done | fail))) | with_reducible apply Sub.drop)); first | done | fail)), ?_⟩
        obtain ⟨z3, d3, rfl, _, _, hz3⟩ := hw.own_shape
        obtain ⟨g1, rfl⟩ := hz1 (by omega)
        obtain ⟨g2, rfl⟩ := hz2 (by omega)
        obtain ⟨g3, rfl⟩ := hz3 (by omega)
        simp only [Nat.zero_add, List.nil_append] at hw ⊢
        refine rs_kv 22 rfl rfl rfl rfl (S' := fun _ => True) trivial (v_build rfl (T.build_120_0_1_2_3 ..)) ?_
        refine rs_k 23 rfl rfl (k_box hw rfl rfl rfl (fun bk1_23 w hw => ?_))
        refine ⟨fun hn => absurd (by decide) hn, ?_⟩
        refine rs_kv 24 rfl rfl rfl rfl (S' := fun _ => True) trivial (v_assign rfl) ?_
        refine rs_done (g_le (xK (xS rfl (xS rfl (xS rfl (xS rfl (xS rfl (xS rfl (xS rfl (xS rfl (xS rfl (xS rfl (xS rfl (xS rfl (xS rfl (xS rfl (xS rfl (xS rfl (xS rfl (xS rfl (xS rfl (xS rfl (xS rfl (xS rfl (xS rfl (xS rfl (Fr.le_refl _)))))))))))))))))))))))))) ?_)
        refine g_ret1 Try.func77 rfl rfl ?_
        exact ⟨_, _, _, _, _, _, _, rfl, hw.xQ⟩
  · skip
    refine (k_buildSlice0 hw T.sl_61_3_1 T.zero_3 rfl (fun bk1_10 w hw => ?_))
    refine ⟨fun _ => (by exact Sat.sub hw (by (repeat (first | with_reducible exact Sub.refl _ | exact Sub.nil _ | (apply Sub.cons; focus ((repeat (first | with_reducible exact Pick.here _ | apply Pick.there)); (first | done | fail))) | with_reducible apply Sub.drop)); first | done | fail)), ?_⟩
    refine rs_b2 4 16 rfl rfl rfl rfl ?_ ?_ 
    · skip
      refine (k_buildSlice0 hw T.sl_61_3_1 T.zero_3 rfl (fun bk1_4 w hw => ?_))
      refine ⟨fun _ => (by exact Sat.sub hw (by (repeat (first | with_reducible exact Sub.refl _ | exact Sub.nil _ | (apply Sub.cons; focus ((repeat (first | with_reducible exact Pick.here _ | apply Pick.there)); (first | done | fail))) | with_reducible apply Sub.drop)); first | done | fail)), ?_⟩
      refine rs_b2 9 16 rfl rfl rfl rfl ?_ ?_ 
      · skip
        have hlen9 := hn1
        have hsrc9 : SrcAt w (some ⟨k1, 0, none⟩) rs.length (rs.map fun x => Value.int .i64 x.kind) := .inr ⟨k1, 0, rfl, own_cells hw (by (repeat first | with_reducible exact xH | apply xT); first | done | fail) (subAt_all _)⟩
        refine (k_appendS hw T.sl_61_3_1 T.zero_3 T.bytes_3_8 rfl (by decide) rfl rfl (by (repeat first | with_reducible exact xH | apply xT); first | done | fail) (by assumption) (by assumption) (by assumption) (by omega) (by simp only [maxLen] at *; omega) rfl (fun vv1_9 w hw hnil => ?_))
        refine ⟨fun _ => (by exact Sat.sub hw (by (repeat (first | with_reducible exact Sub.refl _ | exact Sub.nil _ | (apply Sub.cons; focus ((repeat (first | with_reducible exact Pick.here _ | apply Pick.there)); (first | done | fail))) | with_reducible apply Sub.drop)); first | done | fail)), ?_⟩
        obtain ⟨z1, d1, rfl, _, _, hz1⟩ := hw.own_shape
        refine rs_b2 15 16 rfl rfl rfl rfl ?_ ?_ 
        · skip
          have hlen15 := hn2
          have hsrc15 : SrcAt w (some ⟨k2, 0, none⟩) rs.length (rs.map fun x => Value.int .i64 x.used) := .inr ⟨k2, 0, rfl, own_cells hw (by (repeat first | with_reducible exact xH | apply xT); first | done | fail) (subAt_all _)⟩
          refine (k_appendS hw T.sl_61_3_1 T.zero_3 T.bytes_3_8 rfl (by decide) rfl rfl (by (repeat first | with_reducible exact xH | apply xT); first | done | fail) (by assumption) (by assumption) (by assumption) (by omega) (by simp only [maxLen] at *; omega) rfl (fun vv1_15 w hw hnil => ?_))
          refine ⟨fun _ => (by exact Sat.sub hw (by (repeat (first | with_reducible exact Sub.refl _ | exact Sub.nil _ | (apply Sub.cons; focus ((repeat (first | with_reducible exact Pick.here _ | apply Pick.there)); (first | done | fail))) | with_reducible apply Sub.drop)); first | done | fail)), ?_⟩
          obtain ⟨z2, d2, rfl, _, _, hz2⟩ := hw.own_shape
          refine rs_k 16 rfl rfl (k_buildSlice0 hw T.sl_61_3_1 T.zero_3 rfl (fun bk1_16 w hw => ?_))
          refine ⟨fun _ => (by exact Sat.sub hw (by (repeat (first | with_reducible exact Sub.refl _ | exact Sub.nil _ | (apply Sub.cons; focus ((repeat (first | with_reducible exact Pick.here _ | apply Pick.there)); (first | done | fail))) | with_reducible apply Sub.drop)); first | done | fail)), ?_⟩
          have hlen21 := hn3
          have hsrc21 : SrcAt w (some ⟨k3, 0, none⟩) rs.length (rs.map fun x => Value.int .i64 x.live) := .inr ⟨k3, 0, rfl, own_cells hw (by (repeat first | with_reducible exact xH | apply xT); first | done | fail) (subAt_all _)⟩
          refine rs_k 21 rfl rfl (k_appendS hw T.sl_61_3_1 T.zero_3 T.bytes_3_8 rfl (by decide) rfl rfl (by (repeat first | with_reducible exact xH | apply xT); first | done | fail) (by assumption) (by assumption) (by assumption) (by omega) (by simp only [maxLen] at *; omega) rfl (fun vv1_21 w hw hnil => ?_))
          refine ⟨fun _ => (by exact Sat.sub hw (by (repeat (first | with_reducible exact Sub.refl _ | exact Sub.nil _ | (apply Sub.cons; focus ((repeat (first | with_reducible exact Pick.here _ | apply Pick.there)); (first | done | fail))) | with_reducible apply Sub.drop)); first | done | fail)), ?_⟩
          obtain ⟨z3, d3, rfl, _, _, hz3⟩ := hw.own_shape
          obtain ⟨g1, rfl⟩ := hz1 (by omega)
          obtain ⟨g2, rfl⟩ := hz2 (by omega)
          obtain ⟨g3, rfl⟩ := hz3 (by omega)
          simp only [Nat.zero_add, List.nil_append] at hw ⊢
          refine rs_kv 22 rfl rfl rfl rfl (S' := fun _ => True) trivial (v_build rfl (T.build_120_0_1_2_3 ..)) ?_
          refine rs_k 23 rfl rfl (k_box hw rfl rfl rfl (fun bk1_23 w hw => ?_))
          refine ⟨fun hn => absurd (by decide) hn, ?_⟩
          refine rs_kv 24 rfl rfl rfl rfl (S' := fun _ => True) trivial (v_assign rfl) ?_
          refine rs_done (g_le (xK (xS rfl (xS rfl (xS rfl (xS rfl (xS rfl (xS rfl (xS rfl (xS rfl (xS rfl (xS rfl (xS rfl (xS rfl (xS rfl (xS rfl (xS rfl (xS rfl (xS rfl (xS rfl (xS rfl (xS rfl (xS rfl (xS rfl (xS rfl (xS rfl (Fr.le_refl _)))))))))))))))))))))))))) ?_)
          refine g_ret1 Try.func77 rfl rfl ?_
          exact ⟨_, _, _, _, _, _, _, rfl, hw.xQ⟩
        · skip
          refine (k_buildSlice0 hw T.sl_61_3_1 T.zero_3 rfl (fun bk1_16 w hw => ?_))
          refine ⟨fun _ => (by exact Sat.sub hw (by (repeat (first | with_reducible exact Sub.refl _ | exact Sub.nil _ | (apply Sub.cons; focus ((repeat (first | with_reducible exact Pick.here _ | apply Pick.there)); (first | done | fail))) | with_reducible apply Sub.drop)); first | done | fail)), ?_⟩
          have hlen15 := hn2
          have hsrc15 : SrcAt w (some ⟨k2, 0, none⟩) rs.length (rs.map fun x => Value.int .i64 x.used) := .inr ⟨k2, 0, rfl, own_cells hw (by (repeat first | with_reducible exact xH | apply xT); first | done | fail) (subAt_all _)⟩
          refine rs_k 15 rfl rfl (k_appendS hw T.sl_61_3_1 T.zero_3 T.bytes_3_8 rfl (by decide) rfl rfl (by (repeat first | with_reducible exact xH | apply xT); first | done | fail) (by assumption) (by assumption) (by assumption) (by omega) (by simp only [maxLen] at *; omega) rfl (fun vv1_15 w hw hnil => ?_))
          refine ⟨fun _ => (by exact Sat.sub hw (by (repeat (first | with_reducible exact Sub.refl _ | exact Sub.nil _ | (apply Sub.cons; focus ((repeat (first | with_reducible exact Pick.here _ | apply Pick.there)); (first | done | fail))) | with_reducible apply Sub.drop)); first | done | fail)), ?_⟩
          obtain ⟨z2, d2, rfl, _, _, hz2⟩ := hw.own_shape
          have hlen21 := hn3
          have hsrc21 : SrcAt w (some ⟨k3, 0, none⟩) rs.length (rs.map fun x => Value.int .i64 x.live) := .inr ⟨k3, 0, rfl, own_cells hw (by (repeat first | with_reducible exact xH | apply xT); first | done | fail) (subAt_all _)⟩
          refine rs_k 21 rfl rfl (k_appendS hw T.sl_61_3_1 T.zero_3 T.bytes_3_8 rfl (by decide) rfl rfl (by (repeat first | with_reducible exact xH | apply xT); first | done | fail) (by assumption) (by assumption) (by assumption) (by omega) (by simp only [maxLen] at *; omega) rfl (fun vv1_21 w hw hnil => ?_))
          refine ⟨fun _ => (by exact Sat.sub hw (by (repeat (first | with_reducible exact Sub.refl _ | exact Sub.nil _ | (apply Sub.cons; focus ((repeat (first | with_reducible exact Pick.here _ | apply Pick.there)); (first | done | fail))) | with_reducible apply Sub.drop)); first | done | fail)), ?_⟩
          obtain ⟨z3, d3, rfl, _, _, hz3⟩ := hw.own_shape
          obtain ⟨g1, rfl⟩ := hz1 (by omega)
          obtain ⟨g2, rfl⟩ := hz2 (by omega)
          obtain ⟨g3, rfl⟩ := hz3 (by omega)
          simp only [Nat.zero_add, List.nil_append] at hw ⊢
          refine rs_kv 22 rfl rfl rfl rfl (S' := fun _ => True) trivial (v_build rfl (T.build_120_0_1_2_3 ..)) ?_
          refine rs_k 23 rfl rfl (k_box hw rfl rfl rfl (fun bk1_23 w hw => ?_))
          refine ⟨fun hn => absurd (by decide) hn, ?_⟩
          refine rs_kv 24 rfl rfl rfl rfl (S' := fun _ => True) trivial (v_assign rfl) ?_
          refine rs_done (g_le (xK (xS rfl (xS rfl (xS rfl (xS rfl (xS rfl (xS rfl (xS rfl (xS rfl (xS rfl (xS rfl (xS rfl (xS rfl (xS rfl (xS rfl (xS rfl (xS rfl (xS rfl (xS rfl (xS rfl (xS rfl (xS rfl (xS rfl (xS rfl (xS rfl (Fr.le_refl _)))))))))))))))))))))))))) ?_)
          refine g_ret1 Try.func77 rfl rfl ?_
          exact ⟨_, _, _, _, _, _, _, rfl, hw.xQ⟩
      · skip
        refine (k_buildSlice0 hw T.sl_61_3_1 T.zero_3 rfl (fun bk1_16 w hw => ?_))
        refine ⟨fun _ => (by exact Sat.sub hw (by (repeat (first | with_reducible exact Sub.refl _ | exact Sub.nil _ | (apply Sub.cons; focus ((repeat (first | with_reducible exact Pick.here _ | apply Pick.there)); (first | done | fail))) | with_reducible apply Sub.drop)); first | done | fail)), ?_⟩
        have hlen9 := hn1
        have hsrc9 : SrcAt w (some ⟨k1, 0, none⟩) rs.length (rs.map fun x => Value.int .i64 x.kind) := .inr ⟨k1, 0, rfl, own_cells hw (by (repeat first | with_reducible exact xH | apply xT); first | done | fail) (subAt_all _)⟩
        refine rs_k 9 rfl rfl (k_appendS hw T.sl_61_3_1 T.zero_3 T.bytes_3_8 rfl (by decide) rfl rfl (by (repeat first | with_reducible exact xH | apply xT); first | done | fail) (by assumption) (by assumption) (by assumption) (by omega) (by simp only [maxLen] at *; omega) rfl (fun vv1_9 w hw hnil => ?_))
        refine ⟨fun _ => (by exact Sat.sub hw (by (repeat (first | with_reducible exact Sub.refl _ | exact Sub.nil _ | (apply Sub.cons; focus ((repeat (first | with_reducible exact Pick.here _ | apply Pick.there)); (first | done | fail))) | with_reducible apply Sub.drop)); first | done | fail)), ?_⟩
        obtain ⟨z1, d1, rfl, _, _, hz1⟩ := hw.own_shape
        have hlen15 := hn2
        have hsrc15 : SrcAt w (some ⟨k2, 0, none⟩) rs.length (rs.map fun x => Value.int .i64 x.used) := .inr ⟨k2, 0, rfl, own_cells hw (by (repeat first | with_reducible exact xH | apply xT); first | done | fail) (subAt_all _)⟩
        refine rs_k 15 rfl rfl (k_appendS hw T.sl_61_3_1 T.zero_3 T.bytes_3_8 rfl (by decide) rfl rfl (by (repeat first | with_reducible exact xH | apply xT); first | done | fail) (by assumption) (by assumption) (by assumption) (by omega) (by simp only [maxLen] at *; omega) rfl (fun vv1_15 w hw hnil => ?_))
        refine ⟨fun _ => (by exact Sat.sub hw (by (repeat (first | with_reducible exact Sub.refl _ | exact Sub.nil _ | (apply Sub.cons; focus ((repeat (first | with_reducible exact Pick.here _ | apply Pick.there)); (first | done | fail))) | with_reducible apply Sub.drop)); first | done | fail)), ?_⟩
        obtain ⟨z2, d2, rfl, _, _, hz2⟩ := hw.own_shape
        have hlen21 := hn3
        have hsrc21 : SrcAt w (some ⟨k3, 0, none⟩) rs.length (rs.map fun x => Value.int .i64 x.live) := .inr ⟨k3, 0, rfl, own_cells hw (by (repeat first | with_reducible exact xH | apply xT); first | done | fail) (subAt_all _)⟩
        refine rs_k 21 rfl rfl (k_appendS hw T.sl_61_3_1 T.zero_3 T.bytes_3_8 rfl (by decide) rfl rfl (by (repeat first | with_reducible exact xH | apply xT); first | done | fail) (by assumption) (by assumption) (by assumption) (by omega) (by simp only [maxLen] at *; omega) rfl (fun vv1_21 w hw hnil => ?_))
        refine ⟨fun _ => (by exact Sat.sub hw (by (repeat (first | with_reducible exact Sub.refl _ | exact Sub.nil _ | (apply Sub.cons; focus ((repeat (first | with_reducible exact Pick.here _ | apply Pick.there)); (first | done | fail))) | with_reducible apply Sub.drop)); first | done | fail)), ?_⟩
        obtain ⟨z3, d3, rfl, _, _, hz3⟩ := hw.own_shape
        obtain ⟨g1, rfl⟩ := hz1 (by omega)
        obtain ⟨g2, rfl⟩ := hz2 (by omega)
        obtain ⟨g3, rfl⟩ := hz3 (by omega)
        simp only [Nat.zero_add, List.nil_append] at hw ⊢
        refine rs_kv 22 rfl rfl rfl rfl (S' := fun _ => True) trivial (v_build rfl (T.build_120_0_1_2_3 ..)) ?_
        refine rs_k 23 rfl rfl (k_box hw rfl rfl rfl (fun bk1_23 w hw => ?_))
        refine ⟨fun hn => absurd (by decide) hn, ?_⟩
        refine rs_kv 24 rfl rfl rfl rfl (S' := fun _ => True) trivial (v_assign rfl) ?_
        refine rs_done (g_le (xK (xS rfl (xS rfl (xS rfl (xS rfl (xS rfl (xS rfl (xS rfl (xS rfl (xS rfl (xS rfl (xS rfl (xS rfl (xS rfl (xS rfl (xS rfl (xS rfl (xS rfl (xS rfl (xS rfl (xS rfl (xS rfl (xS rfl (xS rfl (xS rfl (Fr.le_refl _)))))))))))))))))))))))))) ?_)
        refine g_ret1 Try.func77 rfl rfl ?_
        exact ⟨_, _, _, _, _, _, _, rfl, hw.xQ⟩
    · skip
      refine (k_buildSlice0 hw T.sl_61_3_1 T.zero_3 rfl (fun bk1_16 w hw => ?_))
      refine ⟨fun _ => (by exact Sat.sub hw (by (repeat (first | with_reducible exact Sub.refl _ | exact Sub.nil _ | (apply Sub.cons; focus ((repeat (first | with_reducible exact Pick.here _ | apply Pick.there)); (first | done | fail))) | with_reducible apply Sub.drop)); first | done | fail)), ?_⟩
      refine rs_k 4 rfl rfl (k_buildSlice0 hw T.sl_61_3_1 T.zero_3 rfl (fun bk1_4 w hw => ?_))
      refine ⟨fun _ => (by exact Sat.sub hw (by (repeat (first | with_reducible exact Sub.refl _ | exact Sub.nil _ | (apply Sub.cons; focus ((repeat (first | with_reducible exact Pick.here _ | apply Pick.there)); (first | done | fail))) | with_reducible apply Sub.drop)); first | done | fail)), ?_⟩
      have hlen9 := hn1
      have hsrc9 : SrcAt w (some ⟨k1, 0, none⟩) rs.length (rs.map fun x => Value.int .i64 x.kind) := .inr ⟨k1, 0, rfl, own_cells hw (by (repeat first | with_reducible exact xH | apply xT); first | done | fail) (subAt_all _)⟩
      refine rs_k 9 rfl rfl (k_appendS hw T.sl_61_3_1 T.zero_3 T.bytes_3_8 rfl (by decide) rfl rfl (by (repeat first | with_reducible exact xH | apply xT); first | done | fail) (by assumption) (by assumption) (by assumption) (by omega) (by simp only [maxLen] at *; omega) rfl (fun vv1_9 w hw hnil => ?_))
      refine ⟨fun _ => (by exact Sat.sub hw (by (repeat (first | with_reducible exact Sub.refl _ | exact Sub.nil _ | (apply Sub.cons; focus ((repeat (first | with_reducible exact Pick.here _ | apply Pick.there)); (first | done | fail))) | with_reducible apply Sub.drop)); first | done | fail)), ?_⟩
      obtain ⟨z1, d1, rfl, _, _, hz1⟩ := hw.own_shape
      have hlen15 := hn2
      have hsrc15 : SrcAt w (some ⟨k2, 0, none⟩) rs.length (rs.map fun x => Value.int .i64 x.used) := .inr ⟨k2, 0, rfl, own_cells hw (by (repeat first | with_reducible exact xH | apply xT); first | done | fail) (subAt_all _)⟩
      refine rs_k 15 rfl rfl (k_appendS hw T.sl_61_3_1 T.zero_3 T.bytes_3_8 rfl (by decide) rfl rfl (by (repeat first | with_reducible exact xH | apply xT); first | done | fail) (by assumption) (by assumption) (by assumption) (by omega) (by simp only [maxLen] at *; omega) rfl (fun vv1_15 w hw hnil => ?_))
      refine ⟨fun _ => (by exact Sat.sub hw (by (repeat (first | with_reducible exact Sub.refl _ | exact Sub.nil _ | (apply Sub.cons; focus ((repeat (first | with_reducible exact Pick.here _ | apply Pick.there)); (first | done | fail))) | with_reducible apply Sub.drop)); first | done | fail)), ?_⟩
      obtain ⟨z2, d2, rfl, _, _, hz2⟩ := hw.own_shape
      have hlen21 := hn3
      have hsrc21 : SrcAt w (some ⟨k3, 0, none⟩) rs.length (rs.map fun x => Value.int .i64 x.live) := .inr ⟨k3, 0, rfl, own_cells hw (by (repeat first | with_reducible exact xH | apply xT); first | done | fail) (subAt_all _)⟩
      refine rs_k 21 rfl rfl (k_appendS hw T.sl_61_3_1 T.zero_3 T.bytes_3_8 rfl (by decide) rfl rfl (by (repeat first | with_reducible exact xH | apply xT); first | done | fail) (by assumption) (by assumption) (by assumption) (by omega) (by simp only [maxLen] at *; omega) rfl (fun vv1_21 w hw hnil => ?_))
      refine ⟨fun _ => (by exact Sat.sub hw (by (repeat (first | with_reducible exact Sub.refl _ | exact Sub.nil _ | (apply Sub.cons; focus ((repeat (first | with_reducible exact Pick.here _ | apply Pick.there)); (first | done | fail))) | with_reducible apply Sub.drop)); first | done | fail)), ?_⟩
      obtain ⟨z3, d3, rfl, _, _, hz3⟩ := hw.own_shape
      obtain ⟨g1, rfl⟩ := hz1 (by omega)
      obtain ⟨g2, rfl⟩ := hz2 (by omega)
      obtain ⟨g3, rfl⟩ := hz3 (by omega)
      simp only [Nat.zero_add, List.nil_append] at hw ⊢
      refine rs_kv 22 rfl rfl rfl rfl (S' := fun _ => True) trivial (v_build rfl (T.build_120_0_1_2_3 ..)) ?_
      refine rs_k 23 rfl rfl (k_box hw rfl rfl rfl (fun bk1_23 w hw => ?_))
      refine ⟨fun hn => absurd (by decide) hn, ?_⟩
      refine rs_kv 24 rfl rfl rfl rfl (S' := fun _ => True) trivial (v_assign rfl) ?_
      refine rs_done (g_le (xK (xS rfl (xS rfl (xS rfl (xS rfl (xS rfl (xS rfl (xS rfl (xS rfl (xS rfl (xS rfl (xS rfl (xS rfl (xS rfl (xS rfl (xS rfl (xS rfl (xS rfl (xS rfl (xS rfl (xS rfl (xS rfl (xS rfl (xS rfl (xS rfl (Fr.le_refl _)))))))))))))))))))))))))) ?_)
      refine g_ret1 Try.func77 rfl rfl ?_
      exact ⟨_, _, _, _, _, _, _, rfl, hw.xQ⟩
  · skip
    refine (k_buildSlice0 hw T.sl_61_3_1 T.zero_3 rfl (fun bk1_16 w hw => ?_))
    refine ⟨fun _ => (by exact Sat.sub hw (by (repeat (first | with_reducible exact Sub.refl _ | exact Sub.nil _ | (apply Sub.cons; focus ((repeat (first | with_reducible exact Pick.here _ | apply Pick.there)); (first | done | fail))) | with_reducible apply Sub.drop)); first | done | fail)), ?_⟩
    refine rs_b2 4 10 rfl rfl rfl rfl ?_ ?_ 
    · skip
      refine (k_buildSlice0 hw T.sl_61_3_1 T.zero_3 rfl (fun bk1_4 w hw => ?_))
      refine ⟨fun _ => (by exact Sat.sub hw (by (repeat (first | with_reducible exact Sub.refl _ | exact Sub.nil _ | (apply Sub.cons; focus ((repeat (first | with_reducible exact Pick.here _ | apply Pick.there)); (first | done | fail))) | with_reducible apply Sub.drop)); first | done | fail)), ?_⟩
      refine rs_b2 9 10 rfl rfl rfl rfl ?_ ?_ 
      · skip
        have hlen9 := hn1
        have hsrc9 : SrcAt w (some ⟨k1, 0, none⟩) rs.length (rs.map fun x => Value.int .i64 x.kind) := .inr ⟨k1, 0, rfl, own_cells hw (by (repeat first | with_reducible exact xH | apply xT); first | done | fail) (subAt_all _)⟩
        refine (k_appendS hw T.sl_61_3_1 T.zero_3 T.bytes_3_8 rfl (by decide) rfl rfl (by (repeat first | with_reducible exact xH | apply xT); first | done | fail) (by assumption) (by assumption) (by assumption) (by omega) (by simp only [maxLen] at *; omega) rfl (fun vv1_9 w hw hnil => ?_))
        refine ⟨fun _ => (by exact Sat.sub hw (by (repeat (first | with_reducible exact Sub.refl _ | exact Sub.nil _ | (apply Sub.cons; focus ((repeat (first | with_reducible exact Pick.here _ | apply Pick.there)); (first | done | fail))) | with_reducible apply Sub.drop)); first | done | fail)), ?_⟩
        obtain ⟨z1, d1, rfl, _, _, hz1⟩ := hw.own_shape
        refine rs_k 10 rfl rfl (k_buildSlice0 hw T.sl_61_3_1 T.zero_3 rfl (fun bk1_10 w hw => ?_))
        refine ⟨fun _ => (by exact Sat.sub hw (by (repeat (first | with_reducible exact Sub.refl _ | exact Sub.nil _ | (apply Sub.cons; focus ((repeat (first | with_reducible exact Pick.here _ | apply Pick.there)); (first | done | fail))) | with_reducible apply Sub.drop)); first | done | fail)), ?_⟩
        have hlen15 := hn2
        have hsrc15 : SrcAt w (some ⟨k2, 0, none⟩) rs.length (rs.map fun x => Value.int .i64 x.used) := .inr ⟨k2, 0, rfl, own_cells hw (by (repeat first | with_reducible exact xH | apply xT); first | done | fail) (subAt_all _)⟩
        refine rs_k 15 rfl rfl (k_appendS hw T.sl_61_3_1 T.zero_3 T.bytes_3_8 rfl (by decide) rfl rfl (by (repeat first | with_reducible exact xH | apply xT); first | done | fail) (by assumption) (by assumption) (by assumption) (by omega) (by simp only [maxLen] at *; omega) rfl (fun vv1_15 w hw hnil => ?_))
        refine ⟨fun _ => (by exact Sat.sub hw (by (repeat (first | with_reducible exact Sub.refl _ | exact Sub.nil _ | (apply Sub.cons; focus ((repeat (first | with_reducible exact Pick.here _ | apply Pick.there)); (first | done | fail))) | with_reducible apply Sub.drop)); first | done | fail)), ?_⟩
        obtain ⟨z2, d2, rfl, _, _, hz2⟩ := hw.own_shape
        have hlen21 := hn3
        have hsrc21 : SrcAt w (some ⟨k3, 0, none⟩) rs.length (rs.map fun x => Value.int .i64 x.live) := .inr ⟨k3, 0, rfl, own_cells hw (by (repeat first | with_reducible exact xH | apply xT); first | done | fail) (subAt_all _)⟩
        refine rs_k 21 rfl rfl (k_appendS hw T.sl_61_3_1 T.zero_3 T.bytes_3_8 rfl (by decide) rfl rfl (by (repeat first | with_reducible exact xH | apply xT); first | done | fail) (by assumption) (by assumption) (by assumption) (by omega) (by simp only [maxLen] at *; omega) rfl (fun vv1_21 w hw hnil => ?_))
        refine ⟨fun _ => (by exact Sat.sub hw (by (repeat (first | with_reducible exact Sub.refl _ | exact Sub.nil _ | (apply Sub.cons; focus ((repeat (first | with_reducible exact Pick.here _ | apply Pick.there)); (first | done | fail))) | with_reducible apply Sub.drop)); first | done | fail)), ?_⟩
        obtain ⟨z3, d3, rfl, _, _, hz3⟩ := hw.own_shape
        obtain ⟨g1, rfl⟩ := hz1 (by omega)
        obtain ⟨g2, rfl⟩ := hz2 (by omega)
        obtain ⟨g3, rfl⟩ := hz3 (by omega)
        simp only [Nat.zero_add, List.nil_append] at hw ⊢
        refine rs_kv 22 rfl rfl rfl rfl (S' := fun _ => True) trivial (v_build rfl (T.build_120_0_1_2_3 ..)) ?_
        refine rs_k 23 rfl rfl (k_box hw rfl rfl rfl (fun bk1_23 w hw => ?_))
        refine ⟨fun hn => absurd (by decide) hn, ?_⟩
        refine rs_kv 24 rfl rfl rfl rfl (S' := fun _ => True) trivial (v_assign rfl) ?_
        refine rs_done (g_le (xK (xS rfl (xS rfl (xS rfl (xS rfl (xS rfl (xS rfl (xS rfl (xS rfl (xS rfl (xS rfl (xS rfl (xS rfl (xS rfl (xS rfl (xS rfl (xS rfl (xS rfl (xS rfl (xS rfl (xS rfl (xS rfl (xS rfl (xS rfl (xS rfl (Fr.le_refl _)))))))))))))))))))))))))) ?_)
        refine g_ret1 Try.func77 rfl rfl ?_
        exact ⟨_, _, _, _, _, _, _, rfl, hw.xQ⟩
      · skip
        refine (k_buildSlice0 hw T.sl_61_3_1 T.zero_3 rfl (fun bk1_10 w hw => ?_))
        refine ⟨fun _ => (by exact Sat.sub hw (by (repeat (first | with_reducible exact Sub.refl _ | exact Sub.nil _ | (apply Sub.cons; focus ((repeat (first | with_reducible exact Pick.here _ | apply Pick.there)); (first | done | fail))) | with_reducible apply Sub.drop)); first | done | fail)), ?_⟩
        have hlen9 := hn1
        have hsrc9 : SrcAt w (some ⟨k1, 0, none⟩) rs.length (rs.map fun x => Value.int .i64 x.kind) := .inr ⟨k1, 0, rfl, own_cells hw (by (repeat first | with_reducible exact xH | apply xT); first | done | fail) (subAt_all _)⟩
        refine rs_k 9 rfl rfl (k_appendS hw T.sl_61_3_1 T.zero_3 T.bytes_3_8 rfl (by decide) rfl rfl (by (repeat first | with_reducible exact xH | apply xT); first | done | fail) (by assumption) (by assumption) (by assumption) (by omega) (by simp only [maxLen] at *; omega) rfl (fun vv1_9 w hw hnil => ?_))
        refine ⟨fun _ => (by exact Sat.sub hw (by (repeat (first | with_reducible exact Sub.refl _ | exact Sub.nil _ | (apply Sub.cons; focus ((repeat (first | with_reducible exact Pick.here _ | apply Pick.there)); (first | done | fail))) | with_reducible apply Sub.drop)); first | done | fail)), ?_⟩
        obtain ⟨z1, d1, rfl, _, _, hz1⟩ := hw.own_shape
        have hlen15 := hn2
        have hsrc15 : SrcAt w (some ⟨k2, 0, none⟩) rs.length (rs.map fun x => Value.int .i64 x.used) := .inr ⟨k2, 0, rfl, own_cells hw (by (repeat first | with_reducible exact xH | apply xT); first | done | fail) (subAt_all _)⟩
        refine rs_k 15 rfl rfl (k_appendS hw T.sl_61_3_1 T.zero_3 T.bytes_3_8 rfl (by decide) rfl rfl (by (repeat first | with_reducible exact xH | apply xT); first | done | fail) (by assumption) (by assumption) (by assumption) (by omega) (by simp only [maxLen] at *; omega) rfl (fun vv1_15 w hw hnil => ?_))
        refine ⟨fun _ => (by exact Sat.sub hw (by (repeat (first | with_reducible exact Sub.refl _ | exact Sub.nil _ | (apply Sub.cons; focus ((repeat (first | with_reducible exact Pick.here _ | apply Pick.there)); (first | done | fail))) | with_reducible apply Sub.drop)); first | done | fail)), ?_⟩
        obtain ⟨z2, d2, rfl, _, _, hz2⟩ := hw.own_shape
        have hlen21 := hn3
        have hsrc21 : SrcAt w (some ⟨k3, 0, none⟩) rs.length (rs.map fun x => Value.int .i64 x.live) := .inr ⟨k3, 0, rfl, own_cells hw (by (repeat first | with_reducible exact xH | apply xT); first | done | fail) (subAt_all _)⟩
        refine rs_k 21 rfl rfl (k_appendS hw T.sl_61_3_1 T.zero_3 T.bytes_3_8 rfl (by decide) rfl rfl (by (repeat first | with_reducible exact xH | apply xT); first | done | fail) (by assumption) (by assumption) (by assumption) (by omega) (by simp only [maxLen] at *; omega) rfl (fun vv1_21 w hw hnil => ?_))
        refine ⟨fun _ => (by exact Sat.sub hw (by (repeat (first | with_reducible exact Sub.refl _ | exact Sub.nil _ | (apply Sub.cons; focus ((repeat (first | with_reducible exact Pick.here _ | apply Pick.there)); (first | done | fail))) | with_reducible apply Sub.drop)); first | done | fail)), ?_⟩
        obtain ⟨z3, d3, rfl, _, _, hz3⟩ := hw.own_shape
        obtain ⟨g1, rfl⟩ := hz1 (by omega)
        obtain ⟨g2, rfl⟩ := hz2 (by omega)
        obtain ⟨g3, rfl⟩ := hz3 (by omega)
        simp only [Nat.zero_add, List.nil_append] at hw ⊢
        refine rs_kv 22 rfl rfl rfl rfl (S' := fun _ => True) trivial (v_build rfl (T.build_120_0_1_2_3 ..)) ?_
        refine rs_k 23 rfl rfl (k_box hw rfl rfl rfl (fun bk1_23 w hw => ?_))
        refine ⟨fun hn => absurd (by decide) hn, ?_⟩
        refine rs_kv 24 rfl rfl rfl rfl (S' := fun _ => True) trivial (v_assign rfl) ?_
        refine rs_done (g_le (xK (xS rfl (xS rfl (xS rfl (xS rfl (xS rfl (xS rfl (xS rfl (xS rfl (xS rfl (xS rfl (xS rfl (xS rfl (xS rfl (xS rfl (xS rfl (xS rfl (xS rfl (xS rfl (xS rfl (xS rfl (xS rfl (xS rfl (xS rfl (xS rfl (Fr.le_refl _)))))))))))))))))))))))))) ?_)
        refine g_ret1 Try.func77 rfl rfl ?_
        exact ⟨_, _, _, _, _, _, _, rfl, hw.xQ⟩
    · skip
      refine (k_buildSlice0 hw T.sl_61_3_1 T.zero_3 rfl (fun bk1_10 w hw => ?_))
      refine ⟨fun _ => (by exact Sat.sub hw (by (repeat (first | with_reducible exact Sub.refl _ | exact Sub.nil _ | (apply Sub.cons; focus ((repeat (first | with_reducible exact Pick.here _ | apply Pick.there)); (first | done | fail))) | with_reducible apply Sub.drop)); first | done | fail)), ?_⟩
      refine rs_k 4 rfl rfl (k_buildSlice0 hw T.sl_61_3_1 T.zero_3 rfl (fun bk1_4 w hw => ?_))
      refine ⟨fun _ => (by exact Sat.sub hw (by (repeat (first | with_reducible exact Sub.refl _ | exact Sub.nil _ | (apply Sub.cons; focus ((repeat (first | with_reducible exact Pick.here _ | apply Pick.there)); (first | done | fail))) | with_reducible apply Sub.drop)); first | done | fail)), ?_⟩
      have hlen9 := hn1
      have hsrc9 : SrcAt w (some ⟨k1, 0, none⟩) rs.length (rs.map fun x => Value.int .i64 x.kind) := .inr ⟨k1, 0, rfl, own_cells hw (by (repeat first | with_reducible exact xH | apply xT); first | done | fail) (subAt_all _)⟩
      refine rs_k 9 rfl rfl (k_appendS hw T.sl_61_3_1 T.zero_3 T.bytes_3_8 rfl (by decide) rfl rfl (by (repeat first | with_reducible exact xH | apply xT); first | done | fail) (by assumption) (by assumption) (by assumption) (by omega) (by simp only [maxLen] at *; omega) rfl (fun vv1_9 w hw hnil => ?_))
      refine ⟨fun _ => (by exact Sat.sub hw (by (repeat (first | with_reducible exact Sub.refl _ | exact Sub.nil _ | (apply Sub.cons; focus ((repeat (first | with_reducible exact Pick.here _ | apply Pick.there)); (first | done | fail))) | with_reducible apply Sub.drop)); first | done | fail)), ?_⟩
      obtain ⟨z1, d1, rfl, _, _, hz1⟩ := hw.own_shape
      have hlen15 := hn2
      have hsrc15 : SrcAt w (some ⟨k2, 0, none⟩) rs.length (rs.map fun x => Value.int .i64 x.used) := .inr ⟨k2, 0, rfl, own_cells hw (by (repeat first | with_reducible exact xH | apply xT); first | done | fail) (subAt_all _)⟩
      refine rs_k 15 rfl rfl (k_appendS hw T.sl_61_3_1 T.zero_3 T.bytes_3_8 rfl (by decide) rfl rfl (by (repeat first | with_reducible exact xH | apply xT); first | done | fail) (by assumption) (by assumption) (by assumption) (by omega) (by simp only [maxLen] at *; omega) rfl (fun vv1_15 w hw hnil => ?_))
      refine ⟨fun _ => (by exact Sat.sub hw (by (repeat (first | with_reducible exact Sub.refl _ | exact Sub.nil _ | (apply Sub.cons; focus ((repeat (first | with_reducible exact Pick.here _ | apply Pick.there)); (first | done | fail))) | with_reducible apply Sub.drop)); first | done | fail)), ?_⟩
      obtain ⟨z2, d2, rfl, _, _, hz2⟩ := hw.own_shape
      have hlen21 := hn3
      have hsrc21 : SrcAt w (some ⟨k3, 0, none⟩) rs.length (rs.map fun x => Value.int .i64 x.live) := .inr ⟨k3, 0, rfl, own_cells hw (by (repeat first | with_reducible exact xH | apply xT); first | done | fail) (subAt_all _)⟩
      refine rs_k 21 rfl rfl (k_appendS hw T.sl_61_3_1 T.zero_3 T.bytes_3_8 rfl (by decide) rfl rfl (by (repeat first | with_reducible exact xH | apply xT); first | done | fail) (by assumption) (by assumption) (by assumption) (by omega) (by simp only [maxLen] at *; omega) rfl (fun vv1_21 w hw hnil => ?_))
      refine ⟨fun _ => (by exact Sat.sub hw (by (repeat (first | with_reducible exact Sub.refl _ | exact Sub.nil _ | (apply Sub.cons; focus ((repeat (first | with_reducible exact Pick.here _ | apply Pick.there)); (first | done | fail))) | with_reducible apply Sub.drop)); first | done | fail)), ?_⟩
      obtain ⟨z3, d3, rfl, _, _, hz3⟩ := hw.own_shape
      obtain ⟨g1, rfl⟩ := hz1 (by omega)
      obtain ⟨g2, rfl⟩ := hz2 (by omega)
      obtain ⟨g3, rfl⟩ := hz3 (by omega)
      simp only [Nat.zero_add, List.nil_append] at hw ⊢
      refine rs_kv 22 rfl rfl rfl rfl (S' := fun _ => True) trivial (v_build rfl (T.build_120_0_1_2_3 ..)) ?_
      refine rs_k 23 rfl rfl (k_box hw rfl rfl rfl (fun bk1_23 w hw => ?_))
      refine ⟨fun hn => absurd (by decide) hn, ?_⟩
      refine rs_kv 24 rfl rfl rfl rfl (S' := fun _ => True) trivial (v_assign rfl) ?_
      refine rs_done (g_le (xK (xS rfl (xS rfl (xS rfl (xS rfl (xS rfl (xS rfl (xS rfl (xS rfl (xS rfl (xS rfl (xS rfl (xS rfl (xS rfl (xS rfl (xS rfl (xS rfl (xS rfl (xS rfl (xS rfl (xS rfl (xS rfl (xS rfl (xS rfl (xS rfl (Fr.le_refl _)))))))))))))))))))))))))) ?_)
      refine g_ret1 Try.func77 rfl rfl ?_
      exact ⟨_, _, _, _, _, _, _, rfl, hw.xQ⟩
end Go.Proofs.Ytipdklbedpkobaa
