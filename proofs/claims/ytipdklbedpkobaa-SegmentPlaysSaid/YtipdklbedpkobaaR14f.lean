/-
  The document's log (letheref14): New, Begin.
-/
import Derived.Test.YtipdklbedpkobaaR14e
namespace Go.Proofs.Ytipdklbedpkobaa
set_option maxRecDepth 8000
set_option linter.unusedSimpArgs false
set_option linter.unusedVariables false
open Go Xe Go.Lib
theorem newSegs_map {n : Nat} (h : 1 ≤ n) : (newSegs n).map (fun x => Value.int .i64 x.kind) = ((List.replicate n (Value.int .i64 1)).set 0 (Value.int .i64 3)) ∧ (newSegs n).map (fun x => Value.int .i64 x.used) = List.replicate n (Value.int .i64 0) ∧ (newSegs n).map (fun x => Value.int .i64 x.live) = List.replicate n (Value.int .i64 0) := by
  obtain ⟨k, rfl⟩ : ∃ k, n = k + 1 := ⟨n - 1, by omega⟩
  unfold newSegs
  rw [Nat.add_sub_cancel]
  refine ⟨?_, ?_, ?_⟩ <;> simp [List.replicate_succ]
theorem ord_f35_r2_R14f : orderOfB Try.f35 2 [2, 4, 6, 8] (.a 0 (.a 1 (.a 3 (.a 5 (.b3 2 4 6 (.b2 4 6 (.k 6 (.k 7 (.k 8 (.k 9 .done)))) (.k 4 (.k 7 (.k 8 (.k 9 .done))))) (.b2 2 6 (.k 6 (.k 7 (.k 8 (.k 9 .done)))) (.k 2 (.k 7 (.k 8 (.k 9 .done))))) (.b2 2 4 (.k 4 (.k 7 (.k 8 (.k 9 .done)))) (.k 2 (.k 7 (.k 8 (.k 9 .done)))))))))) = true := by kernel_rfl
set_option maxHeartbeats 2000000 in
theorem rlnew_calls {E : Env} {w : World} {L : List As} {rm p : Nat} {md : Md} (h1 : 1 ≤ md.segs.length) (h2 : md.segs.length ≤ 4096) (hw : Sat E w (RmAt rm p md :: L)) :
    Calls Try.prog 35 #[.pointer (some ⟨rm, 0, none⟩)] w fun e w' => ∃ q k1 k2 k3 c1 c2 c3, e = .returned (.pointer (some ⟨q, 0, none⟩)) ∧ Sat E w' (pt q (.cells [Value.pointer (some ⟨rm, 0, none⟩), .slice (some ⟨k1, 0, none⟩) ((newSegs md.segs.length) : List Sg).length c1, .slice (some ⟨k2, 0, none⟩) ((newSegs md.segs.length) : List Sg).length c2, .slice (some ⟨k3, 0, none⟩) ((newSegs md.segs.length) : List Sg).length c3].toArray 120 (0, 0)) :: OwnSl 3 1 (.slice (some ⟨k1, 0, none⟩) ((newSegs md.segs.length)).length c1) ((newSegs md.segs.length)).length (((newSegs md.segs.length)).map fun x => Value.int .i64 x.kind) :: OwnSl 3 1 (.slice (some ⟨k2, 0, none⟩) ((newSegs md.segs.length)).length c2) ((newSegs md.segs.length)).length (((newSegs md.segs.length)).map fun x => Value.int .i64 x.used) :: OwnSl 3 1 (.slice (some ⟨k3, 0, none⟩) ((newSegs md.segs.length)).length c3) ((newSegs md.segs.length)).length (((newSegs md.segs.length)).map fun x => Value.int .i64 x.live) :: RmAt rm p md :: L) := by
  obtain ⟨ra, rc, pa, pc, _, hw⟩ := rm_open hw
  obtain ⟨n, hn⟩ : ∃ n, md.segs.length = n := ⟨_, rfl⟩
  have hnl := newSegs_len (n := n) (by omega)
  have hnm := newSegs_map (n := n) (by omega)
  have hclose : ∀ {w : World} {M : List As}, Sat E w (pt rm (.cells [Value.pointer (some ⟨p, 0, none⟩), .int .i64 md.size, .slice ra n rc, .slice pa md.past.length pc].toArray 116 (0, 0)) :: OwnSl 9 1 (.slice ra n rc) n (md.segs.map Value.string) :: OwnSl 128 3 (.slice pa md.past.length pc) md.past.length (md.past.flatMap wrCells) :: M) → Sat E w (RmAt rm p md :: M) := fun h => rm_close hn.symm rfl rfl rfl rfl h
  have hb1 : 1 ≤ n := by omega
  have hb2 : n ≤ 4096 := by omega
  rw [hn] at hw ⊢
  clear hn
  refine calls_of_g (n := 37) Try.func35 rfl rfl rfl ?_
  change G _ _ _ _ _ [(0, _)] _
  refine g_seq ?_
  refine g_region ?_
  refine xV rfl rfl rfl (v_assign rfl) ?_
  refine rl_nil (g_le (xK (Fr.le_refl _)) ?_)
  refine g_seq ?_
  refine g_region ?_
  refine xV rfl rfl rfl (v_move rfl) ?_
  refine xV rfl rfl rfl (v_nilCheck rfl) ?_
  refine xV rfl rfl rfl (v_fieldAddr0 T.fld_116_2_2 rfl) ?_
  refine rl_v rfl rfl rfl (by exact sat_cell hw (by (repeat first | with_reducible exact xH | apply xT); first | done | fail) rfl) (v_load T.scal_54 rfl) ?_
  refine xV rfl rfl rfl (v_lenSlice T.sl_54_9_1 rfl) ?_
  refine xV rfl rfl rfl (v_assign rfl) ?_
  refine rl_nil (g_le (xK (xS rfl (xS rfl (xS rfl (xS rfl (xS rfl (Fr.le_refl _))))))) ?_)
  refine g_seq ?_
  refine g_cutc (σ := Nat × Nat × Nat × Nat) (fun C x => (4, .pointer (some ⟨x.1, 0, none⟩)) :: C) [(2, _), (3, _)] (by repeat (first | exact Fr.le_nil _ | refine Fr.le_cons rfl ?_)) (fun z w => Sat E w (OwnSl 3 1 (.slice (some ⟨(z.2.1), 0, none⟩) n n) n (List.replicate n (Value.int .i64 0)) :: pt (z.1) (.cells [Value.pointer (some ⟨rm, 0, none⟩), .slice (some ⟨(z.2.1), 0, none⟩) n n, .slice (some ⟨(z.2.2.1), 0, none⟩) n n, .slice (some ⟨(z.2.2.2), 0, none⟩) n n].toArray 120 (0, 0)) :: OwnSl 3 1 (.slice (some ⟨(z.2.2.1), 0, none⟩) n n) n (List.replicate n (Value.int .i64 0)) :: OwnSl 3 1 (.slice (some ⟨(z.2.2.2), 0, none⟩) n n) n (List.replicate n (Value.int .i64 0)) :: RmAt rm p md :: L)) ?_ ?_
  · skip
    clear hw
    rintro ⟨q, k1, k2, k3⟩ w hw
    dsimp only at hw ⊢
    all_goals
      refine g_seq (g_seq ?_)
      refine g_region ?_
      refine xV rfl rfl rfl (v_assign rfl) ?_
      refine rl_nil (g_le (xK (Fr.le_refl _)) ?_)
      refine g_block ?_
      refine g_loopC (σ := Nat) (fun C x => (5, .int .i64 (x : Nat)) :: C) [(2, _), (3, _), (4, _)] (by repeat (first | exact Fr.le_nil _ | refine Fr.le_cons rfl ?_)) (fun z w => z ≤ n ∧ Sat E w (OwnSl 3 1 (.slice (some ⟨k1, 0, none⟩) n n) n (List.replicate z (Value.int .i64 1) ++ List.replicate (n - z) (Value.int .i64 0)) :: pt q (.cells [Value.pointer (some ⟨rm, 0, none⟩), .slice (some ⟨k1, 0, none⟩) n n, .slice (some ⟨k2, 0, none⟩) n n, .slice (some ⟨k3, 0, none⟩) n n].toArray 120 (0, 0)) :: OwnSl 3 1 (.slice (some ⟨k2, 0, none⟩) n n) n (List.replicate n (Value.int .i64 0)) :: OwnSl 3 1 (.slice (some ⟨k3, 0, none⟩) n n) n (List.replicate n (Value.int .i64 0)) :: RmAt rm p md :: L)) (fun z => n - z) ?_ 0 (by repeat (first | exact Fr.le_nil _ | refine Fr.le_cons rfl ?_)) ⟨by simp, by simp only [List.replicate_zero, List.nil_append, Nat.sub_zero]; exact hw⟩
      rintro k w ⟨hk, hw⟩ ih
      refine g_seq (g_seq ?_)
      refine g_region ?_
      refine xV rfl rfl rfl (v_move rfl) ?_
      refine xV rfl rfl rfl (v_move rfl) ?_
      refine xV rfl rfl rfl (v_lss rfl rfl) ?_
      refine rl_nil (g_le (xK (xK (xK (Fr.le_refl _)))) ?_)
      refine g_cond rfl (fun h1 => ?_) (fun h1 => ?_)
      · try with_reducible exact ft_elim h1
        all_goals
          try replace h1 := of_decide_eq_true h1
          refine g_skip (g_seq (g_block ?_))
          have hst : 0 + (k : Int).toNat * 1 < (List.replicate k (Value.int .i64 1) ++ List.replicate (n - k) (Value.int .i64 0)).length := by rw [List.length_append, List.length_replicate, List.length_replicate]; omega
          refine g_region ?_
          refine xV rfl rfl rfl (v_move rfl) ?_
          refine xV rfl rfl rfl (v_nilCheck rfl) ?_
          refine xV rfl rfl rfl (v_fieldAddr0 T.fld_120_1_1 rfl) ?_
          refine rl_v rfl rfl rfl (by exact sat_cell hw (by (repeat first | with_reducible exact xH | apply xT); first | done | fail) rfl) (v_load T.scal_61 rfl) ?_
          refine xV rfl rfl rfl (v_move rfl) ?_
          refine xV rfl rfl rfl (v_indexAddr T.sl_61_3_1 rfl rfl (by omega) (by omega)) ?_
          refine rl_k rfl (k_storeOwn hw T.scal_3 rfl rfl rfl (by (repeat first | with_reducible exact xH | apply xT); first | done | fail) (by assumption) (fun w hw => ?_))
          refine rl_nil (g_le (xK (xK (xK (xK (xK (xK (Fr.le_refl _))))))) ?_)
          refine g_inBlock ?_
          refine g_region ?_
          refine xV rfl rfl rfl (v_move rfl) ?_
          refine xV rfl rfl rfl (v_add rfl rfl (by omega)) ?_
          refine xV rfl rfl rfl (v_assign rfl) ?_
          refine rl_nil (g_le (xK (xK (xK (Fr.le_refl _)))) ?_)
          have hset : (List.replicate k (Value.int .i64 1) ++ List.replicate (n - k) (Value.int .i64 0)).set (0 + (k : Int).toNat * 1) (Value.int .i64 1) = List.replicate (k + 1) (Value.int .i64 1) ++ List.replicate (n - (k + 1)) (Value.int .i64 0) := by
            rw [show 0 + (k : Int).toNat * 1 = k by omega, List.set_append_right _ _ (by simp), List.length_replicate, Nat.sub_self, show n - k = (n - (k + 1)) + 1 by omega, List.replicate_succ, List.set_cons_zero, List.replicate_succ', List.append_assoc]; rfl
          rw [hset] at hw
          exact g_le (by repeat (first | exact Fr.le_nil _ | refine Fr.le_cons rfl ?_)) (ih (k + 1) w ⟨by omega, hw⟩ (by omega))
      · try with_reducible exact tf_elim h1
        all_goals
          try replace h1 := of_decide_eq_false h1
          refine g_exit rfl (g_seq ?_)
          obtain rfl : k = n := by omega
          rw [Nat.sub_self, List.replicate_zero, List.append_nil] at hw
          have hst : 0 + (0 : Int).toNat * 1 < (List.replicate k (Value.int .i64 1)).length := by rw [List.length_replicate]; have : (0 : Int).toNat = 0 := rfl; omega
          refine g_region ?_
          refine xV rfl rfl rfl (v_move rfl) ?_
          refine xV rfl rfl rfl (v_nilCheck rfl) ?_
          refine xV rfl rfl rfl (v_fieldAddr0 T.fld_120_1_1 rfl) ?_
          refine rl_v rfl rfl rfl (by exact sat_cell hw (by (repeat first | with_reducible exact xH | apply xT); first | done | fail) rfl) (v_load T.scal_61 rfl) ?_
          refine xV rfl rfl rfl (v_indexAddr T.sl_61_3_1 rfl rfl (by omega) (by omega)) ?_
          refine rl_k rfl (k_storeOwn hw T.scal_3 rfl rfl rfl (by (repeat first | with_reducible exact xH | apply xT); first | done | fail) (by assumption) (fun w hw => ?_))
          refine rl_nil (g_le (xS rfl (xS rfl (xS rfl (xS rfl (xS rfl (Fr.le_refl _)))))) ?_)
          refine g_seq ?_
          refine g_region ?_
          refine xV rfl rfl rfl (v_move rfl) ?_
          refine xV rfl rfl rfl (v_assign rfl) ?_
          refine rl_nil (g_le (xK (xS rfl (Fr.le_refl _))) ?_)
          refine g_ret1 Try.func35 rfl rfl ?_
          refine ⟨q, k1, k2, k3, k, k, k, rfl, ?_⟩
          rw [hnl, hnm.1, hnm.2.1, hnm.2.2]
          rw [show 0 + (0 : Int).toNat * 1 = 0 from rfl] at hw
          exact hw.xQ
  · intro joins2
    refine g_drawA ord_f35_r2_R14f (by kernel_rfl) T.mixed hw (fun w hw => ?_)
    refine rs_a 0 rfl rfl rfl rfl (v_move rfl) ?_
    refine rs_a 1 rfl rfl rfl rfl (v_move rfl) ?_
    refine rs_a 3 rfl rfl rfl rfl (v_move rfl) ?_
    refine rs_a 5 rfl rfl rfl rfl (v_move rfl) ?_
    refine rs_b3 2 4 6 rfl rfl rfl rfl rfl rfl ?_ ?_ ?_ 
    · skip
      refine (k_makeSlice hw T.sl_61_3_1 T.zero_3 T.bytes_3_8 rfl rfl (by omega) (by omega) (by omega) (by omega) rfl (fun bk2_2 w hw => ?_))
      refine ⟨fun _ => trivial, ?_⟩
      refine rs_b2 4 6 rfl rfl rfl rfl ?_ ?_ 
      · skip
        refine (k_makeSlice hw T.sl_61_3_1 T.zero_3 T.bytes_3_8 rfl rfl (by omega) (by omega) (by omega) (by omega) rfl (fun bk2_4 w hw => ?_))
        refine ⟨fun _ => trivial, ?_⟩
        refine rs_k 6 rfl rfl (k_makeSlice hw T.sl_61_3_1 T.zero_3 T.bytes_3_8 rfl rfl (by omega) (by omega) (by omega) (by omega) rfl (fun bk2_6 w hw => ?_))
        refine ⟨fun _ => trivial, ?_⟩
        refine rs_kv 7 rfl rfl rfl rfl (S' := fun _ => True) trivial (v_build rfl (T.build_120_0_1_2_3 ..)) ?_
        refine rs_k 8 rfl rfl (k_box hw rfl rfl rfl (fun bk2_8 w hw => ?_))
        refine ⟨fun _ => trivial, ?_⟩
        refine rs_kv 9 rfl rfl rfl rfl (S' := fun _ => True) trivial (v_assign rfl) ?_
        refine rs_done (g_le (xK (xS rfl (xS rfl (xS rfl (xS rfl (xS rfl (xS rfl (xS rfl (xS rfl (xS rfl (Fr.le_refl _))))))))))) ?_)
        simp only [Int.toNat_natCast] at hw ⊢
        rw [made_one _ rfl _ _ (Nat.le_refl _)] at hw
        refine joins2 (bk2_8, bk2_2, bk2_4, bk2_6) w _ (by repeat (first | exact Fr.le_nil _ | refine Fr.le_cons rfl ?_)) ?_
        dsimp only
        exact (hclose (hw.xQ)).xQ
      · skip
        refine (k_makeSlice hw T.sl_61_3_1 T.zero_3 T.bytes_3_8 rfl rfl (by omega) (by omega) (by omega) (by omega) rfl (fun bk2_6 w hw => ?_))
        refine ⟨fun _ => trivial, ?_⟩
        refine rs_k 4 rfl rfl (k_makeSlice hw T.sl_61_3_1 T.zero_3 T.bytes_3_8 rfl rfl (by omega) (by omega) (by omega) (by omega) rfl (fun bk2_4 w hw => ?_))
        refine ⟨fun _ => trivial, ?_⟩
        refine rs_kv 7 rfl rfl rfl rfl (S' := fun _ => True) trivial (v_build rfl (T.build_120_0_1_2_3 ..)) ?_
        refine rs_k 8 rfl rfl (k_box hw rfl rfl rfl (fun bk2_8 w hw => ?_))
        refine ⟨fun _ => trivial, ?_⟩
        refine rs_kv 9 rfl rfl rfl rfl (S' := fun _ => True) trivial (v_assign rfl) ?_
        refine rs_done (g_le (xK (xS rfl (xS rfl (xS rfl (xS rfl (xS rfl (xS rfl (xS rfl (xS rfl (xS rfl (Fr.le_refl _))))))))))) ?_)
        simp only [Int.toNat_natCast] at hw ⊢
        rw [made_one _ rfl _ _ (Nat.le_refl _)] at hw
        refine joins2 (bk2_8, bk2_2, bk2_4, bk2_6) w _ (by repeat (first | exact Fr.le_nil _ | refine Fr.le_cons rfl ?_)) ?_
        dsimp only
        exact (hclose (hw.xQ)).xQ
    · skip
      refine (k_makeSlice hw T.sl_61_3_1 T.zero_3 T.bytes_3_8 rfl rfl (by omega) (by omega) (by omega) (by omega) rfl (fun bk2_4 w hw => ?_))
      refine ⟨fun _ => trivial, ?_⟩
      refine rs_b2 2 6 rfl rfl rfl rfl ?_ ?_ 
      · skip
        refine (k_makeSlice hw T.sl_61_3_1 T.zero_3 T.bytes_3_8 rfl rfl (by omega) (by omega) (by omega) (by omega) rfl (fun bk2_2 w hw => ?_))
        refine ⟨fun _ => trivial, ?_⟩
        refine rs_k 6 rfl rfl (k_makeSlice hw T.sl_61_3_1 T.zero_3 T.bytes_3_8 rfl rfl (by omega) (by omega) (by omega) (by omega) rfl (fun bk2_6 w hw => ?_))
        refine ⟨fun _ => trivial, ?_⟩
        refine rs_kv 7 rfl rfl rfl rfl (S' := fun _ => True) trivial (v_build rfl (T.build_120_0_1_2_3 ..)) ?_
        refine rs_k 8 rfl rfl (k_box hw rfl rfl rfl (fun bk2_8 w hw => ?_))
        refine ⟨fun _ => trivial, ?_⟩
        refine rs_kv 9 rfl rfl rfl rfl (S' := fun _ => True) trivial (v_assign rfl) ?_
        refine rs_done (g_le (xK (xS rfl (xS rfl (xS rfl (xS rfl (xS rfl (xS rfl (xS rfl (xS rfl (xS rfl (Fr.le_refl _))))))))))) ?_)
        simp only [Int.toNat_natCast] at hw ⊢
        rw [made_one _ rfl _ _ (Nat.le_refl _)] at hw
        refine joins2 (bk2_8, bk2_2, bk2_4, bk2_6) w _ (by repeat (first | exact Fr.le_nil _ | refine Fr.le_cons rfl ?_)) ?_
        dsimp only
        exact (hclose (hw.xQ)).xQ
      · skip
        refine (k_makeSlice hw T.sl_61_3_1 T.zero_3 T.bytes_3_8 rfl rfl (by omega) (by omega) (by omega) (by omega) rfl (fun bk2_6 w hw => ?_))
        refine ⟨fun _ => trivial, ?_⟩
        refine rs_k 2 rfl rfl (k_makeSlice hw T.sl_61_3_1 T.zero_3 T.bytes_3_8 rfl rfl (by omega) (by omega) (by omega) (by omega) rfl (fun bk2_2 w hw => ?_))
        refine ⟨fun _ => trivial, ?_⟩
        refine rs_kv 7 rfl rfl rfl rfl (S' := fun _ => True) trivial (v_build rfl (T.build_120_0_1_2_3 ..)) ?_
        refine rs_k 8 rfl rfl (k_box hw rfl rfl rfl (fun bk2_8 w hw => ?_))
        refine ⟨fun _ => trivial, ?_⟩
        refine rs_kv 9 rfl rfl rfl rfl (S' := fun _ => True) trivial (v_assign rfl) ?_
        refine rs_done (g_le (xK (xS rfl (xS rfl (xS rfl (xS rfl (xS rfl (xS rfl (xS rfl (xS rfl (xS rfl (Fr.le_refl _))))))))))) ?_)
        simp only [Int.toNat_natCast] at hw ⊢
        rw [made_one _ rfl _ _ (Nat.le_refl _)] at hw
        refine joins2 (bk2_8, bk2_2, bk2_4, bk2_6) w _ (by repeat (first | exact Fr.le_nil _ | refine Fr.le_cons rfl ?_)) ?_
        dsimp only
        exact (hclose (hw.xQ)).xQ
    · skip
      refine (k_makeSlice hw T.sl_61_3_1 T.zero_3 T.bytes_3_8 rfl rfl (by omega) (by omega) (by omega) (by omega) rfl (fun bk2_6 w hw => ?_))
      refine ⟨fun _ => trivial, ?_⟩
      refine rs_b2 2 4 rfl rfl rfl rfl ?_ ?_ 
      · skip
        refine (k_makeSlice hw T.sl_61_3_1 T.zero_3 T.bytes_3_8 rfl rfl (by omega) (by omega) (by omega) (by omega) rfl (fun bk2_2 w hw => ?_))
        refine ⟨fun _ => trivial, ?_⟩
        refine rs_k 4 rfl rfl (k_makeSlice hw T.sl_61_3_1 T.zero_3 T.bytes_3_8 rfl rfl (by omega) (by omega) (by omega) (by omega) rfl (fun bk2_4 w hw => ?_))
        refine ⟨fun _ => trivial, ?_⟩
        refine rs_kv 7 rfl rfl rfl rfl (S' := fun _ => True) trivial (v_build rfl (T.build_120_0_1_2_3 ..)) ?_
        refine rs_k 8 rfl rfl (k_box hw rfl rfl rfl (fun bk2_8 w hw => ?_))
        refine ⟨fun _ => trivial, ?_⟩
        refine rs_kv 9 rfl rfl rfl rfl (S' := fun _ => True) trivial (v_assign rfl) ?_
        refine rs_done (g_le (xK (xS rfl (xS rfl (xS rfl (xS rfl (xS rfl (xS rfl (xS rfl (xS rfl (xS rfl (Fr.le_refl _))))))))))) ?_)
        simp only [Int.toNat_natCast] at hw ⊢
        rw [made_one _ rfl _ _ (Nat.le_refl _)] at hw
        refine joins2 (bk2_8, bk2_2, bk2_4, bk2_6) w _ (by repeat (first | exact Fr.le_nil _ | refine Fr.le_cons rfl ?_)) ?_
        dsimp only
        exact (hclose (hw.xQ)).xQ
      · skip
        refine (k_makeSlice hw T.sl_61_3_1 T.zero_3 T.bytes_3_8 rfl rfl (by omega) (by omega) (by omega) (by omega) rfl (fun bk2_4 w hw => ?_))
        refine ⟨fun _ => trivial, ?_⟩
        refine rs_k 2 rfl rfl (k_makeSlice hw T.sl_61_3_1 T.zero_3 T.bytes_3_8 rfl rfl (by omega) (by omega) (by omega) (by omega) rfl (fun bk2_2 w hw => ?_))
        refine ⟨fun _ => trivial, ?_⟩
        refine rs_kv 7 rfl rfl rfl rfl (S' := fun _ => True) trivial (v_build rfl (T.build_120_0_1_2_3 ..)) ?_
        refine rs_k 8 rfl rfl (k_box hw rfl rfl rfl (fun bk2_8 w hw => ?_))
        refine ⟨fun _ => trivial, ?_⟩
        refine rs_kv 9 rfl rfl rfl rfl (S' := fun _ => True) trivial (v_assign rfl) ?_
        refine rs_done (g_le (xK (xS rfl (xS rfl (xS rfl (xS rfl (xS rfl (xS rfl (xS rfl (xS rfl (xS rfl (Fr.le_refl _))))))))))) ?_)
        simp only [Int.toNat_natCast] at hw ⊢
        rw [made_one _ rfl _ _ (Nat.le_refl _)] at hw
        refine joins2 (bk2_8, bk2_2, bk2_4, bk2_6) w _ (by repeat (first | exact Fr.le_nil _ | refine Fr.le_cons rfl ?_)) ?_
        dsimp only
        exact (hclose (hw.xQ)).xQ
def rbg (op us : Int) (md : Md) (i : Nat) (x : Sg) : Sg := ⟨if x.live > 0 then 2 else 1, if x.live > 0 then md.used i else 0, x.live⟩
/-- The document's log, begun. -/
def rbegun (md : Md) (op us : Int) (ss : List Sg) (ps : List Pl) : List Sg := ss.mapIdx fun i _ => ⟨if (i : Int) = op then 3 else if liveOf ps i > 0 then 2 else 1, if (i : Int) = op then us else if liveOf ps i > 0 then md.used i else 0, liveOf ps i⟩
theorem rbegun_len (md : Md) (op us : Int) (ss : List Sg) (ps : List Pl) : (rbegun md op us ss ps).length = ss.length := by simp [rbegun]
theorem upI_map {f : Nat → Sg → Sg} {g : Sg → Int} {ss : List Sg} {i : Nat} {x : Sg} (h : ss[i]? = some x) : ((upI f ss i).map fun x => Value.int .i64 (g x)).set i (Value.int .i64 (g (f i x))) = (upI f ss (i + 1)).map fun x => Value.int .i64 (g x) := by
  rw [← upI_succ h, List.map_set]
theorem upI_same {f : Nat → Sg → Sg} {g : Sg → Int} {ss : List Sg} {i : Nat} {x : Sg} (h : ss[i]? = some x) (he : g (f i x) = g x) : ((upI f ss i).map fun x => Value.int .i64 (g x)) = (upI f ss (i + 1)).map fun x => Value.int .i64 (g x) := by
  rw [← upI_map h, he]
  apply List.ext_getElem?
  intro j
  by_cases hj : j = i
  · subst hj
    rw [List.getElem?_set_self (by rw [List.length_map, upI_len]; exact (List.getElem?_eq_some_iff.1 h).1), List.getElem?_map, upI_at h]; rfl
  · rw [List.getElem?_set_ne (fun e => hj e.symm)]
theorem ord_f54_r9_R14f : orderOfB Try.f54 9 [6] (.a 0 (.a 1 (.a 2 (.a 4 (.v 3 (.k 5 (.k 6 (.k 7 .done)))))))) = true := by kernel_rfl
theorem ord_f54_r12_R14f : orderOfB Try.f54 12 [6, 11] (.a 0 (.a 1 (.a 2 (.a 4 (.v 3 (.k 5 (.k 6 (.k 7 (.k 8 (.a 10 (.k 9 (.k 11 (.k 12 (.k 13 .done)))))))))))))) = true := by kernel_rfl
theorem ord_f54_r24_R14f : orderOfB Try.f54 24 [12] (.a 0 (.a 1 (.a 2 (.a 4 (.a 5 (.a 6 (.a 7 (.a 9 (.v 3 (.k 8 (.k 10 (.k 11 (.k 12 .done))))))))))))) = true := by kernel_rfl
set_option maxHeartbeats 4000000 in
theorem rbegin_in {E : Env} {w : World} {L : List As} {q rm p k1 k2 k3 c1 c2 c3 : Nat} {op us : Int} {rs : List Sg} {md : Md} {A : As} {v : Value} {xs : List Pl} (hb : rs.length ≤ 4096) (hl : md.segs.length = rs.length) (hmd : md.ok) (hS : SrcA A v xs) (hok : ∀ p ∈ xs, p.len ≤ 9223372036854775807) (h0 : 0 ≤ op) (h1 : op < rs.length)
    (hw : Sat E w (pt q (.cells [Value.pointer (some ⟨rm, 0, none⟩), .slice (some ⟨k1, 0, none⟩) (rs : List Sg).length c1, .slice (some ⟨k2, 0, none⟩) (rs : List Sg).length c2, .slice (some ⟨k3, 0, none⟩) (rs : List Sg).length c3].toArray 120 (0, 0)) :: OwnSl 3 1 (.slice (some ⟨k1, 0, none⟩) (rs).length c1) (rs).length ((rs).map fun x => Value.int .i64 x.kind) :: OwnSl 3 1 (.slice (some ⟨k2, 0, none⟩) (rs).length c2) (rs).length ((rs).map fun x => Value.int .i64 x.used) :: OwnSl 3 1 (.slice (some ⟨k3, 0, none⟩) (rs).length c3) (rs).length ((rs).map fun x => Value.int .i64 x.live) :: RmAt rm p md :: A :: L)) :
    Calls Try.prog 54 #[.pointer (some ⟨q, 0, none⟩), .int .i64 op, .int .i64 us, v] w fun e w' => ∃ r : Bool, e = .returned (.int .i64 (if r then 0 else 121)) ∧ (r = true ↔ 0 ≤ us ∧ us ≤ md.used op ∧ fitsP (bgU op us md) rs.length xs) ∧
      Sat E w' (pt q (.cells [Value.pointer (some ⟨rm, 0, none⟩), .slice (some ⟨k1, 0, none⟩) (((if r then rbegun md op us rs xs else rs)) : List Sg).length c1, .slice (some ⟨k2, 0, none⟩) (((if r then rbegun md op us rs xs else rs)) : List Sg).length c2, .slice (some ⟨k3, 0, none⟩) (((if r then rbegun md op us rs xs else rs)) : List Sg).length c3].toArray 120 (0, 0)) :: OwnSl 3 1 (.slice (some ⟨k1, 0, none⟩) (((if r then rbegun md op us rs xs else rs))).length c1) (((if r then rbegun md op us rs xs else rs))).length ((((if r then rbegun md op us rs xs else rs))).map fun x => Value.int .i64 x.kind) :: OwnSl 3 1 (.slice (some ⟨k2, 0, none⟩) (((if r then rbegun md op us rs xs else rs))).length c2) (((if r then rbegun md op us rs xs else rs))).length ((((if r then rbegun md op us rs xs else rs))).map fun x => Value.int .i64 x.used) :: OwnSl 3 1 (.slice (some ⟨k3, 0, none⟩) (((if r then rbegun md op us rs xs else rs))).length c3) (((if r then rbegun md op us rs xs else rs))).length ((((if r then rbegun md op us rs xs else rs))).map fun x => Value.int .i64 x.live) :: RmAt rm p md :: A :: L) := by
  obtain ⟨a, c', rfl, hn, hat⟩ := id hS
  have hiso : md.is op := ⟨h0, by omega⟩
  refine calls_of_g (n := 133) Try.func54 rfl rfl rfl ?_
  change G _ _ _ _ _ [(0, _), (1, _), (2, _), (3, _)] _
  refine g_seq ?_
  refine g_region ?_
  refine xV rfl rfl rfl (v_assign rfl) ?_
  refine rl_nil (g_le (xK (Fr.le_refl _)) ?_)
  refine g_seq (g_seq ?_)
  refine g_region ?_
  refine xV rfl rfl rfl (v_move rfl) ?_
  refine xV rfl rfl rfl (v_nilCheck rfl) ?_
  refine xV rfl rfl rfl (v_fieldAddr0 T.fld_120_0_0 rfl) ?_
  refine rl_v rfl rfl rfl (by exact sat_cell hw (by (repeat first | with_reducible exact xH | apply xT); first | done | fail) rfl) (v_load T.scal_81 rfl) ?_
  refine xV rfl rfl rfl (v_move rfl) ?_
  refine rl_k rfl (k_callf Try.func73 rfl rfl rfl rfl ?_)
  refine Calls.mono (ris_calls op (hw.xP (A := RmAt rm p md))) ?_
  rw [decide_eq_true hiso]
  rintro _ w ⟨rfl, hw⟩
  refine ⟨_, rfl, ?_⟩
  refine xV rfl rfl rfl (v_not rfl) ?_
  refine rl_nil (g_le (xK (xS rfl (xS rfl (xS rfl (xS rfl (xS rfl (xS rfl (Fr.le_refl _)))))))) ?_)
  refine g_cond_false rfl ?_
  refine g_skip (g_seq (g_seq ?_))
  refine g_region ?_
  refine xV rfl rfl rfl (v_move rfl) ?_
  refine xV rfl rfl rfl (v_lss rfl rfl) ?_
  refine xV rfl rfl rfl (v_move rfl) ?_
  refine rl_split (s := 22) rfl (fun g3_2 => ?_) (fun g3_2 => ?_)
  · try with_reducible exact ft_elim g3_2
    all_goals
      try replace g3_2 := of_decide_eq_true g3_2
      refine rl_off (met_off rfl rfl rfl rfl rfl) rfl rfl ?_
      refine rl_off (met_off rfl rfl rfl rfl rfl) rfl rfl ?_
      refine rl_off (met_off rfl rfl rfl rfl rfl) rfl rfl ?_
      refine rl_off (met_off rfl rfl rfl rfl rfl) rfl rfl ?_
      refine rl_off (met_off rfl rfl rfl rfl rfl) rfl rfl ?_
      refine rl_off (met_off rfl rfl rfl rfl rfl) rfl rfl ?_
      refine rl_off (met_off rfl rfl rfl rfl rfl) rfl rfl ?_
      refine rl_off (met_off rfl rfl rfl rfl rfl) rfl rfl ?_
      refine xV rfl rfl rfl (v_pick_true rfl rfl) ?_
      refine rl_nil (g_le (xK (xS rfl (xS rfl (xS rfl (xS rfl (xS rfl (xS rfl (xS rfl (xS rfl (xS rfl (xS rfl (xS rfl (xS rfl (Fr.le_refl _)))))))))))))) ?_)
      refine g_cond_true rfl ?_
      refine g_seq ?_
      refine g_region ?_
      refine xV rfl rfl rfl (v_assign rfl) ?_
      refine rl_nil (g_le (xK (Fr.le_refl _)) ?_)
      refine g_ret1 Try.func54 rfl rfl ?_
      exact ⟨false, rfl, ⟨fun h => absurd h (by simp), fun h => by omega⟩, (hw.xQ : Sat E w (pt q (.cells [Value.pointer (some ⟨rm, 0, none⟩), .slice (some ⟨k1, 0, none⟩) (rs : List Sg).length c1, .slice (some ⟨k2, 0, none⟩) (rs : List Sg).length c2, .slice (some ⟨k3, 0, none⟩) (rs : List Sg).length c3].toArray 120 (0, 0)) :: OwnSl 3 1 (.slice (some ⟨k1, 0, none⟩) (rs).length c1) (rs).length ((rs).map fun x => Value.int .i64 x.kind) :: OwnSl 3 1 (.slice (some ⟨k2, 0, none⟩) (rs).length c2) (rs).length ((rs).map fun x => Value.int .i64 x.used) :: OwnSl 3 1 (.slice (some ⟨k3, 0, none⟩) (rs).length c3) (rs).length ((rs).map fun x => Value.int .i64 x.live) :: RmAt rm p md :: A :: L))⟩
  · try with_reducible exact tf_elim g3_2
    all_goals
      try replace g3_2 := of_decide_eq_false g3_2
      refine rl_vg (met_on rfl rfl rfl rfl) rfl rfl (S := fun _ => True) trivial (v_move rfl) ?_
      refine rl_vg (met_on rfl rfl rfl rfl) rfl rfl (S := fun _ => True) trivial (v_move rfl) ?_
      refine rl_vg (met_on rfl rfl rfl rfl) rfl rfl (S := fun _ => True) trivial (v_nilCheck rfl) ?_
      refine rl_vg (met_on rfl rfl rfl rfl) rfl rfl (S := fun _ => True) trivial (v_fieldAddr0 T.fld_120_0_0 rfl) ?_
      refine rl_vg (met_on rfl rfl rfl rfl) rfl rfl (by exact sat_cell hw (by (repeat first | with_reducible exact xH | apply xT); first | done | fail) rfl) (v_load T.scal_81 rfl) ?_
      refine rl_vg (met_on rfl rfl rfl rfl) rfl rfl (S := fun _ => True) trivial (v_move rfl) ?_
      refine rl_kg (met_on rfl rfl rfl rfl) (k_callf Try.func64 rfl rfl rfl rfl ?_)
      refine Calls.mono (rused_calls op (hw.xP (A := RmAt rm p md))) ?_
      rintro _ w ⟨rfl, hw⟩
      refine ⟨_, rfl, ?_⟩
      refine rl_vg (met_on rfl rfl rfl rfl) rfl rfl (S := fun _ => True) trivial (v_gtr rfl rfl) ?_
      refine xV rfl rfl rfl (v_pick_false rfl rfl) ?_
      refine rl_nil (g_le (xK (xS rfl (xS rfl (xS rfl (xS rfl (xS rfl (xS rfl (xS rfl (xS rfl (xS rfl (xS rfl (xS rfl (xS rfl (Fr.le_refl _)))))))))))))) ?_)
      refine g_cond rfl (fun h2 => ?_) (fun h2 => ?_)
      · try with_reducible exact ft_elim h2
        all_goals
          try replace h2 := of_decide_eq_true h2
          refine g_seq ?_
          refine g_region ?_
          refine xV rfl rfl rfl (v_assign rfl) ?_
          refine rl_nil (g_le (xK (Fr.le_refl _)) ?_)
          refine g_ret1 Try.func54 rfl rfl ?_
          exact ⟨false, rfl, ⟨fun h => absurd h (by simp), fun h => by omega⟩, (hw.xQ : Sat E w (pt q (.cells [Value.pointer (some ⟨rm, 0, none⟩), .slice (some ⟨k1, 0, none⟩) (rs : List Sg).length c1, .slice (some ⟨k2, 0, none⟩) (rs : List Sg).length c2, .slice (some ⟨k3, 0, none⟩) (rs : List Sg).length c3].toArray 120 (0, 0)) :: OwnSl 3 1 (.slice (some ⟨k1, 0, none⟩) (rs).length c1) (rs).length ((rs).map fun x => Value.int .i64 x.kind) :: OwnSl 3 1 (.slice (some ⟨k2, 0, none⟩) (rs).length c2) (rs).length ((rs).map fun x => Value.int .i64 x.used) :: OwnSl 3 1 (.slice (some ⟨k3, 0, none⟩) (rs).length c3) (rs).length ((rs).map fun x => Value.int .i64 x.live) :: RmAt rm p md :: A :: L))⟩
      · try with_reducible exact tf_elim h2
        all_goals
          try replace h2 := of_decide_eq_false h2
          refine g_skip (g_seq (g_seq ?_))
          have hbd := bgU_bound hmd (op := op) (us := us) (by omega) (by omega)
          refine g_region ?_
          refine xV rfl rfl rfl (v_assign rfl) ?_
          refine rl_nil (g_le (xK (Fr.le_refl _)) ?_)
          refine g_block ?_
          refine g_loopC (σ := Nat) (fun C x => (9, .int .i64 (x : Nat)) :: C) [(0, _), (1, _), (2, _), (3, _), (8, _)] (by repeat (first | exact Fr.le_nil _ | refine Fr.le_cons rfl ?_)) (fun z w => z ≤ xs.length ∧ (∀ j p, j < z → xs[j]? = some p → within (bgU op us md) rs.length p) ∧ Sat E w (RmAt rm p md :: pt q (.cells [Value.pointer (some ⟨rm, 0, none⟩), .slice (some ⟨k1, 0, none⟩) (rs : List Sg).length c1, .slice (some ⟨k2, 0, none⟩) (rs : List Sg).length c2, .slice (some ⟨k3, 0, none⟩) (rs : List Sg).length c3].toArray 120 (0, 0)) :: OwnSl 3 1 (.slice (some ⟨k1, 0, none⟩) (rs).length c1) (rs).length ((rs).map fun x => Value.int .i64 x.kind) :: OwnSl 3 1 (.slice (some ⟨k2, 0, none⟩) (rs).length c2) (rs).length ((rs).map fun x => Value.int .i64 x.used) :: OwnSl 3 1 (.slice (some ⟨k3, 0, none⟩) (rs).length c3) (rs).length ((rs).map fun x => Value.int .i64 x.live) :: A :: L)) (fun z => xs.length - z) ?_ 0 (by repeat (first | exact Fr.le_nil _ | refine Fr.le_cons rfl ?_)) ⟨by simp, by simp, hw.xQ⟩
          rintro i w ⟨hi, hall, hw⟩ ih
          refine g_seq (g_seq ?_)
          refine g_region ?_
          refine xV rfl rfl rfl (v_move rfl) ?_
          refine xV rfl rfl rfl (v_move rfl) ?_
          refine xV rfl rfl rfl (v_lenSlice T.sl_70_58_3 rfl) ?_
          refine xV rfl rfl rfl (v_lss rfl rfl) ?_
          refine rl_nil (g_le (xK (xK (xK (xK (Fr.le_refl _))))) ?_)
          refine g_cond rfl (fun h3 => ?_) (fun h3 => ?_)
          · try with_reducible exact ft_elim h3
            all_goals
              try replace h3 := of_decide_eq_true h3
              refine g_skip (g_seq (g_block (g_seq ?_)))
              have hlt : i < xs.length := by omega
              have hx : xs[i]? = some xs[i] := List.getElem?_eq_getElem hlt
              generalize xs[i] = x at hx
              obtain ⟨b', o', hab, hcx⟩ := hat i x hx
              subst hab
              rw [show i * 3 = (i : Int).toNat * 3 by omega] at hcx
              have hxl := hok x (List.mem_of_getElem? hx)
              refine g_region ?_
              refine xV rfl rfl rfl (v_move rfl) ?_
              refine xV rfl rfl rfl (v_move rfl) ?_
              refine xV rfl rfl rfl (v_indexAddr T.sl_70_58_3 rfl rfl (by omega) (by omega)) ?_
              refine rl_v rfl rfl rfl (by exact hcx _ _ _ (hw.xP)) (v_loadAgg (vs := [_, _, _]) T.agg_58_3 rfl rfl) ?_
              refine rl_k rfl (k_alloc hw T.zero_58 rfl rfl (fun bk8_4 w hw => ?_))
              refine rl_k rfl (k_storeWhole hw T.agg_58_3 rfl rfl (by simp [Value.oneCell']) rfl (by (repeat first | with_reducible exact xH | apply xT); first | done | fail) rfl (fun w hw => ?_))
              refine rl_nil (g_le (xK (xK (xK (xK (xK (Fr.le_refl _)))))) ?_)
              refine g_seq ?_
              have hw := hw.xP (A := RmAt rm p md)
              refine g_drawB ord_f54_r9_R14f (by kernel_rfl) T.mixed (fun w hw => (hw.pick .at0).drop) hw (fun w hw => ?_)
              refine rs_a 0 rfl rfl rfl rfl (v_move rfl) ?_
              refine rs_a 1 rfl rfl rfl rfl (v_nilCheck rfl) ?_
              refine rs_a 2 rfl rfl rfl rfl (v_fieldAddr0 T.fld_120_0_0 rfl) ?_
              refine rs_a 4 rfl rfl rfl rfl (v_fieldAddr0 T.fld_58_0_0 rfl) ?_
              refine rs_v 3 rfl rfl rfl rfl (OpV.mono (v_load T.scal_81 rfl) (fun w hw => by exact sat_cell hw (by (repeat first | with_reducible exact xH | apply xT); first | done | fail) rfl)) (by exact Sat.sub hw (by (repeat (first | with_reducible exact Sub.refl _ | exact Sub.nil _ | (apply Sub.cons; focus ((repeat (first | with_reducible exact Pick.here _ | apply Pick.there)); (first | done | fail))) | with_reducible apply Sub.drop)); first | done | fail)) ?_
              refine rs_kv 5 rfl rfl rfl rfl (by exact sat_cell hw (by (repeat first | with_reducible exact xH | apply xT); first | done | fail) rfl) (v_load T.scal_3 rfl) ?_
              refine rs_k 6 rfl rfl (k_callf Try.func64 rfl rfl rfl rfl ?_)
              refine Calls.mono (rused_calls x.seg hw) ?_
              rintro _ w ⟨rfl, hw⟩
              refine ⟨_, rfl, ?_⟩
              refine ⟨fun hn => absurd (by decide) hn, ?_⟩
              refine rs_kv 7 rfl rfl rfl rfl (S' := fun _ => True) trivial (v_assign rfl) ?_
              refine rs_done (g_le (xK (xK (xK (xK (xK (xK (xK (xK (Fr.le_refl _))))))))) ?_)
              refine g_seq (g_seq ?_)
              refine g_region ?_
              refine xV rfl rfl rfl (v_fieldAddr0 T.fld_58_0_0 rfl) ?_
              refine rl_v rfl rfl rfl (by exact sat_cell hw (by (repeat first | with_reducible exact xH | apply xT); first | done | fail) rfl) (v_load T.scal_3 rfl) ?_
              refine xV rfl rfl rfl (v_move rfl) ?_
              refine xV rfl rfl rfl (v_eql rfl rfl) ?_
              refine rl_nil (g_le (xK (xK (xK (xK (Fr.le_refl _))))) ?_)
              refine g_cutc (σ := Int) (fun C x => (11, .int .i64 x) :: C) [(0, _), (1, _), (2, _), (3, _), (8, _), (9, _), (10, _), (32, _), (33, _), (34, _), (35, _), (38, _), (39, _), (40, _), (41, _), (42, _), (43, _), (44, _), (45, _), (46, _), (47, _), (48, _), (49, _), (50, _), (51, _), (52, _)] (by repeat (first | exact Fr.le_nil _ | refine Fr.le_cons rfl ?_)) (fun z w => z = bgU op us md x.seg ∧ Sat E w (RmAt rm p md :: pt bk8_4 (.cells x.cells.toArray 58 (0, 0)) :: pt q (.cells [Value.pointer (some ⟨rm, 0, none⟩), .slice (some ⟨k1, 0, none⟩) (rs : List Sg).length c1, .slice (some ⟨k2, 0, none⟩) (rs : List Sg).length c2, .slice (some ⟨k3, 0, none⟩) (rs : List Sg).length c3].toArray 120 (0, 0)) :: OwnSl 3 1 (.slice (some ⟨k1, 0, none⟩) (rs).length c1) (rs).length ((rs).map fun x => Value.int .i64 x.kind) :: OwnSl 3 1 (.slice (some ⟨k2, 0, none⟩) (rs).length c2) (rs).length ((rs).map fun x => Value.int .i64 x.used) :: OwnSl 3 1 (.slice (some ⟨k3, 0, none⟩) (rs).length c3) (rs).length ((rs).map fun x => Value.int .i64 x.live) :: A :: L)) ?_ ?_
              · skip
                clear hw
                rintro most w ⟨hmost, hw⟩
                have hbx := hbd x.seg
                all_goals
                  refine g_seq ?_
                  refine g_drawB ord_f54_r12_R14f (by kernel_rfl) T.mixed (fun w hw => (hw.pick .at0).drop) hw (fun w hw => ?_)
                  refine rs_a 0 rfl rfl rfl rfl (v_move rfl) ?_
                  refine rs_a 1 rfl rfl rfl rfl (v_nilCheck rfl) ?_
                  refine rs_a 2 rfl rfl rfl rfl (v_fieldAddr0 T.fld_120_0_0 rfl) ?_
                  refine rs_a 4 rfl rfl rfl rfl (v_fieldAddr0 T.fld_58_0_0 rfl) ?_
                  refine rs_v 3 rfl rfl rfl rfl (OpV.mono (v_load T.scal_81 rfl) (fun w hw => by exact sat_cell hw (by (repeat first | with_reducible exact xH | apply xT); first | done | fail) rfl)) (by exact Sat.sub hw (by (repeat (first | with_reducible exact Sub.refl _ | exact Sub.nil _ | (apply Sub.cons; focus ((repeat (first | with_reducible exact Pick.here _ | apply Pick.there)); (first | done | fail))) | with_reducible apply Sub.drop)); first | done | fail)) ?_
                  refine rs_kv 5 rfl rfl rfl rfl (by exact sat_cell hw (by (repeat first | with_reducible exact xH | apply xT); first | done | fail) rfl) (v_load T.scal_3 rfl) ?_
                  refine rs_k 6 rfl rfl (k_callf Try.func73 rfl rfl rfl rfl ?_)
                  refine Calls.mono (ris_calls x.seg hw) ?_
                  rintro _ w ⟨rfl, hw⟩
                  refine ⟨_, rfl, ?_⟩
                  refine ⟨fun hn => absurd (by decide) hn, ?_⟩
                  refine rs_kv 7 rfl rfl rfl rfl (S' := fun _ => True) trivial (v_not rfl) ?_
                  refine rs_kv 8 rfl rfl rfl rfl (S' := fun _ => True) trivial (v_move rfl) ?_
                  refine rs_split (s := 62) rfl (fun g12_8 => ?_) (fun g12_8 => ?_)
                  · try with_reducible exact ft_elim g12_8
                    all_goals
                      try replace g12_8 := of_decide_eq_true g12_8
                      refine rs_aoff 10 rfl (met_off rfl rfl rfl rfl rfl) rfl rfl ?_
                      refine rs_koff 9 rfl (met_off rfl rfl rfl rfl rfl) rfl rfl ?_
                      refine rs_koff 11 rfl (met_off rfl rfl rfl rfl rfl) rfl rfl ?_
                      refine rs_koff 12 rfl (met_off rfl rfl rfl rfl rfl) rfl rfl ?_
                      refine rs_kv 13 rfl rfl rfl rfl (S' := fun _ => True) trivial (v_pick_true rfl rfl) ?_
                      refine rs_done (g_le (xK (xK (xK (xK (xK (xK (xK (xK (xK (xK (xK (xK (xK (xK (xK (Fr.le_refl _)))))))))))))))) ?_)
                      refine g_cond_true rfl ?_
                      refine g_seq ?_
                      refine g_region ?_
                      refine xV rfl rfl rfl (v_assign rfl) ?_
                      refine rl_nil (g_le (xK (Fr.le_refl _)) ?_)
                      refine g_ret1 Try.func54 rfl rfl ?_
                      refine ⟨false, rfl, ⟨fun h => absurd h (by simp), fun h => ?_⟩, (hw.xQ : Sat E w (pt q (.cells [Value.pointer (some ⟨rm, 0, none⟩), .slice (some ⟨k1, 0, none⟩) (rs : List Sg).length c1, .slice (some ⟨k2, 0, none⟩) (rs : List Sg).length c2, .slice (some ⟨k3, 0, none⟩) (rs : List Sg).length c3].toArray 120 (0, 0)) :: OwnSl 3 1 (.slice (some ⟨k1, 0, none⟩) (rs).length c1) (rs).length ((rs).map fun x => Value.int .i64 x.kind) :: OwnSl 3 1 (.slice (some ⟨k2, 0, none⟩) (rs).length c2) (rs).length ((rs).map fun x => Value.int .i64 x.used) :: OwnSl 3 1 (.slice (some ⟨k3, 0, none⟩) (rs).length c3) (rs).length ((rs).map fun x => Value.int .i64 x.live) :: RmAt rm p md :: A :: L))⟩
                      have h9 := h.2.2.1 x (List.mem_of_getElem? hx)
                      unfold within at h9
                      have h10 : ¬ md.is x.seg := by simpa using g12_8
                      exact absurd ⟨h9.1, by omega⟩ h10
                  · try with_reducible exact tf_elim g12_8
                    all_goals
                      try replace g12_8 := of_decide_eq_false g12_8
                      have his : md.is x.seg := by simpa using g12_8
                      refine rs_ag 10 rfl (met_on rfl rfl rfl rfl) rfl rfl (v_move rfl) ?_
                      refine rs_kvg 9 rfl (met_on rfl rfl rfl rfl) rfl rfl (by exact sat_cells hw (by (repeat first | with_reducible exact xH | apply xT); first | done | fail) ⟨rfl, rfl, rfl, trivial⟩) (v_loadAgg (vs := [_, _, _]) T.agg_58_3 rfl rfl) ?_
                      refine rs_kg 11 rfl (met_on rfl rfl rfl rfl) (k_callf Try.func74 rfl rfl rfl rfl ?_)
                      refine Calls.mono (within_calls x most (by omega) (by omega) hw) ?_
                      rintro _ w ⟨rfl, hw⟩
                      refine ⟨_, rfl, ?_⟩
                      refine ⟨fun hn => absurd (by decide) hn, ?_⟩
                      refine rs_kvg 12 rfl (met_on rfl rfl rfl rfl) rfl rfl (S' := fun _ => True) trivial (v_not rfl) ?_
                      refine rs_kv 13 rfl rfl rfl rfl (S' := fun _ => True) trivial (v_pick_false rfl rfl) ?_
                      refine rs_done (g_le (xK (xK (xK (xK (xK (xK (xK (xK (xK (xK (xK (xK (xK (xK (xK (Fr.le_refl _)))))))))))))))) ?_)
                      refine g_cond rfl (fun h5 => ?_) (fun h5 => ?_)
                      · try with_reducible exact ft_elim h5
                        all_goals
                          try replace h5 := of_decide_eq_true h5
                          refine g_seq ?_
                          refine g_region ?_
                          refine xV rfl rfl rfl (v_assign rfl) ?_
                          refine rl_nil (g_le (xK (Fr.le_refl _)) ?_)
                          refine g_ret1 Try.func54 rfl rfl ?_
                          refine ⟨false, rfl, ⟨fun h => absurd h (by simp), fun h => ?_⟩, (hw.xQ : Sat E w (pt q (.cells [Value.pointer (some ⟨rm, 0, none⟩), .slice (some ⟨k1, 0, none⟩) (rs : List Sg).length c1, .slice (some ⟨k2, 0, none⟩) (rs : List Sg).length c2, .slice (some ⟨k3, 0, none⟩) (rs : List Sg).length c3].toArray 120 (0, 0)) :: OwnSl 3 1 (.slice (some ⟨k1, 0, none⟩) (rs).length c1) (rs).length ((rs).map fun x => Value.int .i64 x.kind) :: OwnSl 3 1 (.slice (some ⟨k2, 0, none⟩) (rs).length c2) (rs).length ((rs).map fun x => Value.int .i64 x.used) :: OwnSl 3 1 (.slice (some ⟨k3, 0, none⟩) (rs).length c3) (rs).length ((rs).map fun x => Value.int .i64 x.live) :: RmAt rm p md :: A :: L))⟩
                          have h9 := h.2.2.1 x (List.mem_of_getElem? hx)
                          unfold within at h9
                          simp at h5
                          exfalso
                          omega
                      · try with_reducible exact tf_elim h5
                        all_goals
                          try replace h5 := of_decide_eq_false h5
                          refine g_skip (g_inBlock ?_)
                          refine g_region ?_
                          refine xV rfl rfl rfl (v_move rfl) ?_
                          refine xV rfl rfl rfl (v_add rfl rfl (by omega)) ?_
                          refine xV rfl rfl rfl (v_assign rfl) ?_
                          refine rl_nil (g_le (xK (xK (xK (Fr.le_refl _)))) ?_)
                          refine g_le (by repeat (first | exact Fr.le_nil _ | refine Fr.le_cons rfl ?_)) (ih (i + 1) w ⟨by omega, fun j p hj hp => ?_, hw.xQ⟩ (by omega))
                          rcases Nat.lt_or_ge j i with h9 | h9
                          · exact hall j p h9 hp
                          · obtain rfl : j = i := by omega
                            rw [hx] at hp
                            obtain rfl := Option.some.inj hp
                            have h10 : 1 ≤ x.len ∧ 0 ≤ x.off ∧ x.off ≤ most - x.len := by simpa using h5
                            exact ⟨his.1, by have := his.2; omega, h10.1, h10.2.1, by omega⟩
              · intro joinc4
                refine g_cond rfl (fun h4 => ?_) (fun h4 => ?_)
                · try with_reducible exact ft_elim h4
                  all_goals
                    try replace h4 := of_decide_eq_true h4
                    refine g_region ?_
                    refine xV rfl rfl rfl (v_move rfl) ?_
                    refine xV rfl rfl rfl (v_assign rfl) ?_
                    refine rl_nil (g_le (xK (xK (Fr.le_refl _))) ?_)
                    exact joinc4 us w _ (by repeat (first | exact Fr.le_nil _ | refine Fr.le_cons rfl ?_)) ⟨by unfold bgU; rw [if_pos (by omega)], hw.xQ⟩
                · try with_reducible exact tf_elim h4
                  all_goals
                    try replace h4 := of_decide_eq_false h4
                    refine g_skip ?_
                    exact joinc4 (md.used x.seg) w _ (by repeat (first | exact Fr.le_nil _ | refine Fr.le_cons rfl ?_)) ⟨by unfold bgU; rw [if_neg (by omega)], hw.xQ⟩
          · try with_reducible exact tf_elim h3
            all_goals
              try replace h3 := of_decide_eq_false h3
              refine g_exit rfl (g_seq (g_seq ?_))
              have hwi : ∀ p ∈ xs, within (bgU op us md) rs.length p := fun p hp => by
                obtain ⟨j, hj, hj2⟩ := List.getElem_of_mem hp
                exact hall j p (by omega) (by rw [List.getElem?_eq_getElem hj, hj2])
              have hwb : ∀ p ∈ xs, 0 ≤ p.seg ∧ p.seg < rs.length ∧ 0 ≤ p.off ∧ p.off ≤ 1048576 ∧ 1 ≤ p.len ∧ p.len ≤ 1048576 := fun p hp => by
                have h9 := hwi p hp
                unfold within at h9
                have h8 := hbd p.seg
                omega
              refine g_region ?_
              refine xV rfl rfl rfl (v_move rfl) ?_
              refine rl_k rfl (k_callf Try.func75 rfl rfl rfl rfl ?_)
              refine Calls.mono (overlap_calls hS (fun p hp => by have := hwb p hp; omega) (hw.xP (A := A))) ?_
              rintro _ w ⟨r, rfl, hr, hw⟩
              refine ⟨_, rfl, ?_⟩
              refine rl_nil (g_le (xK (xS rfl (Fr.le_refl _))) ?_)
              refine g_cond rfl (fun h6 => ?_) (fun h6 => ?_)
              · try with_reducible exact ft_elim h6
                all_goals
                  try replace h6 := of_decide_eq_true h6
                  subst h6
                  skip
                  refine g_seq ?_
                  refine g_region ?_
                  refine xV rfl rfl rfl (v_assign rfl) ?_
                  refine rl_nil (g_le (xK (Fr.le_refl _)) ?_)
                  refine g_ret1 Try.func54 rfl rfl ?_
                  exact ⟨false, rfl, ⟨fun h => absurd h (by simp), fun h => absurd (hr.2 h.2.2.2) (by simp)⟩, (hw.xQ : Sat E w (pt q (.cells [Value.pointer (some ⟨rm, 0, none⟩), .slice (some ⟨k1, 0, none⟩) (rs : List Sg).length c1, .slice (some ⟨k2, 0, none⟩) (rs : List Sg).length c2, .slice (some ⟨k3, 0, none⟩) (rs : List Sg).length c3].toArray 120 (0, 0)) :: OwnSl 3 1 (.slice (some ⟨k1, 0, none⟩) (rs).length c1) (rs).length ((rs).map fun x => Value.int .i64 x.kind) :: OwnSl 3 1 (.slice (some ⟨k2, 0, none⟩) (rs).length c2) (rs).length ((rs).map fun x => Value.int .i64 x.used) :: OwnSl 3 1 (.slice (some ⟨k3, 0, none⟩) (rs).length c3) (rs).length ((rs).map fun x => Value.int .i64 x.live) :: RmAt rm p md :: A :: L))⟩
              · try with_reducible exact tf_elim h6
                all_goals
                  try replace h6 := of_decide_eq_false h6
                  subst h6
                  have hfit : fitsP (bgU op us md) rs.length xs := ⟨hwi, hr.1 rfl⟩
                  refine g_skip (g_seq ?_)
                  refine g_region ?_
                  refine xV rfl rfl rfl (v_move rfl) ?_
                  refine xV rfl rfl rfl (v_move rfl) ?_
                  refine rl_k rfl (k_callf Try.func76 rfl rfl rfl rfl ?_)
                  refine Calls.mono (accounts_calls hb hS (fun p hp => by have := hwb p hp; omega) (hw.xQ)) ?_
                  rintro _ w ⟨rfl, hw⟩
                  refine ⟨_, rfl, ?_⟩
                  refine rl_nil (g_le (xS rfl (xS rfl (xS rfl (Fr.le_refl _)))) ?_)
                  refine g_seq (g_seq ?_)
                  have hll := lived_len rs xs
                  rw [hll] at hw
                  generalize hs1 : lived rs xs = s1 at hw hll
                  clear ih
                  refine g_region ?_
                  refine xV rfl rfl rfl (v_assign rfl) ?_
                  refine rl_nil (g_le (xK (Fr.le_refl _)) ?_)
                  refine g_block ?_
                  refine g_loopC (σ := Nat) (fun C x => (12, .int .i64 (x : Nat)) :: C) [(0, _), (1, _), (2, _), (8, _)] (by repeat (first | exact Fr.le_nil _ | refine Fr.le_cons rfl ?_)) (fun z w => z ≤ rs.length ∧ Sat E w (RmAt rm p md :: OwnSl 3 1 (.slice (some ⟨k1, 0, none⟩) rs.length c1) rs.length ((upI (rbg op us md) s1 z).map fun x => Value.int .i64 x.kind) :: pt q (.cells [Value.pointer (some ⟨rm, 0, none⟩), .slice (some ⟨k1, 0, none⟩) rs.length c1, .slice (some ⟨k2, 0, none⟩) rs.length c2, .slice (some ⟨k3, 0, none⟩) rs.length c3].toArray 120 (0, 0)) :: OwnSl 3 1 (.slice (some ⟨k2, 0, none⟩) rs.length c2) rs.length ((upI (rbg op us md) s1 z).map fun x => Value.int .i64 x.used) :: OwnSl 3 1 (.slice (some ⟨k3, 0, none⟩) rs.length c3) rs.length (s1.map fun x => Value.int .i64 x.live) :: A :: L)) (fun z => rs.length - z) ?_ 0 (by repeat (first | exact Fr.le_nil _ | refine Fr.le_cons rfl ?_)) ⟨by simp, by rw [upI_zero]; exact hw.xQ⟩
                  rintro i w ⟨hi, hw⟩ ih
                  refine g_seq (g_seq ?_)
                  refine g_region ?_
                  refine xV rfl rfl rfl (v_move rfl) ?_
                  refine xV rfl rfl rfl (v_move rfl) ?_
                  refine xV rfl rfl rfl (v_nilCheck rfl) ?_
                  refine xV rfl rfl rfl (v_fieldAddr0 T.fld_120_1_1 rfl) ?_
                  refine rl_v rfl rfl rfl (by exact sat_cell hw (by (repeat first | with_reducible exact xH | apply xT); first | done | fail) rfl) (v_load T.scal_61 rfl) ?_
                  refine xV rfl rfl rfl (v_lenSlice T.sl_61_3_1 rfl) ?_
                  refine xV rfl rfl rfl (v_lss rfl rfl) ?_
                  refine rl_nil (g_le (xK (xK (xK (xK (xK (xK (xK (Fr.le_refl _)))))))) ?_)
                  refine g_cond rfl (fun h7 => ?_) (fun h7 => ?_)
                  · try with_reducible exact ft_elim h7
                    all_goals
                      try replace h7 := of_decide_eq_true h7
                      refine g_skip (g_seq (g_block (g_seq ?_)))
                      have hlt : i < rs.length := by omega
                      have hx : s1[i]? = some s1[i] := List.getElem?_eq_getElem (by omega)
                      generalize s1[i] = x at hx
                      have hlg := lget (i := (i : Int)) (rs := s1) (by omega) (by rw [Int.toNat_natCast]; exact hx)
                      have hst1 : 0 + (i : Int).toNat * 1 < ((upI (rbg op us md) s1 i).map fun x => Value.int .i64 x.kind).length := by rw [List.length_map, upI_len]; omega
                      have hst2 : 0 + (i : Int).toNat * 1 < ((upI (rbg op us md) s1 i).map fun x => Value.int .i64 x.used).length := by rw [List.length_map, upI_len]; omega
                      have hst3 : 0 + (i : Int).toNat * 1 < (((upI (rbg op us md) s1 i).map fun x => Value.int .i64 x.kind).set (0 + (i : Int).toNat * 1) (Value.int .i64 1)).length := by rw [List.length_set, List.length_map, upI_len]; omega
                      have hst4 : 0 + (i : Int).toNat * 1 < (((upI (rbg op us md) s1 i).map fun x => Value.int .i64 x.used).set (0 + (i : Int).toNat * 1) (Value.int .i64 0)).length := by rw [List.length_set, List.length_map, upI_len]; omega
                      refine g_region ?_
                      refine xV rfl rfl rfl (v_move rfl) ?_
                      refine xV rfl rfl rfl (v_nilCheck rfl) ?_
                      refine xV rfl rfl rfl (v_fieldAddr0 T.fld_120_1_1 rfl) ?_
                      refine rl_v rfl rfl rfl (by exact sat_cell hw (by (repeat first | with_reducible exact xH | apply xT); first | done | fail) rfl) (v_load T.scal_61 rfl) ?_
                      refine xV rfl rfl rfl (v_move rfl) ?_
                      refine xV rfl rfl rfl (v_indexAddr T.sl_61_3_1 rfl rfl (by omega) (by omega)) ?_
                      refine rl_k rfl (k_storeOwn hw T.scal_3 rfl rfl rfl (by (repeat first | with_reducible exact xH | apply xT); first | done | fail) (by assumption) (fun w hw => ?_))
                      refine rl_nil (g_le (xK (xK (xK (xK (xK (xK (Fr.le_refl _))))))) ?_)
                      refine g_seq ?_
                      refine g_region ?_
                      refine xV rfl rfl rfl (v_move rfl) ?_
                      refine xV rfl rfl rfl (v_nilCheck rfl) ?_
                      refine xV rfl rfl rfl (v_fieldAddr0 T.fld_120_2_2 rfl) ?_
                      refine rl_v rfl rfl rfl (by exact sat_cell hw (by (repeat first | with_reducible exact xH | apply xT); first | done | fail) rfl) (v_load T.scal_61 rfl) ?_
                      refine xV rfl rfl rfl (v_move rfl) ?_
                      refine xV rfl rfl rfl (v_indexAddr T.sl_61_3_1 rfl rfl (by omega) (by omega)) ?_
                      refine rl_k rfl (k_storeOwn hw T.scal_3 rfl rfl rfl (by (repeat first | with_reducible exact xH | apply xT); first | done | fail) (by assumption) (fun w hw => ?_))
                      refine rl_nil (g_le (xK (xK (xK (xK (xK (xK (Fr.le_refl _))))))) ?_)
                      refine g_seq ?_
                      refine g_region ?_
                      refine xV rfl rfl rfl (v_move rfl) ?_
                      refine xV rfl rfl rfl (v_nilCheck rfl) ?_
                      refine xV rfl rfl rfl (v_fieldAddr0 T.fld_120_3_3 rfl) ?_
                      refine rl_v rfl rfl rfl (by exact sat_cell hw (by (repeat first | with_reducible exact xH | apply xT); first | done | fail) rfl) (v_load T.scal_61 rfl) ?_
                      refine xV rfl rfl rfl (v_move rfl) ?_
                      refine xV rfl rfl rfl (v_indexAddr T.sl_61_3_1 rfl rfl (by omega) (by omega)) ?_
                      refine rl_v rfl rfl rfl (by exact own_cell hw (by (repeat first | with_reducible exact xH | apply xT); first | done | fail) (by first | rfl | assumption)) (v_load T.scal_3 rfl) ?_
                      refine xV rfl rfl rfl (v_gtr rfl rfl) ?_
                      refine rl_nil (g_le (xK (xK (xK (xK (xK (xK (xK (xK (Fr.le_refl _))))))))) ?_)
                      refine g_cond rfl (fun h8 => ?_) (fun h8 => ?_)
                      · try with_reducible exact ft_elim h8
                        all_goals
                          try replace h8 := of_decide_eq_true h8
                          refine g_seq ?_
                          refine g_region ?_
                          refine xV rfl rfl rfl (v_move rfl) ?_
                          refine xV rfl rfl rfl (v_nilCheck rfl) ?_
                          refine xV rfl rfl rfl (v_fieldAddr0 T.fld_120_1_1 rfl) ?_
                          refine rl_v rfl rfl rfl (by exact sat_cell hw (by (repeat first | with_reducible exact xH | apply xT); first | done | fail) rfl) (v_load T.scal_61 rfl) ?_
                          refine xV rfl rfl rfl (v_move rfl) ?_
                          refine xV rfl rfl rfl (v_indexAddr T.sl_61_3_1 rfl rfl (by omega) (by omega)) ?_
                          refine rl_k rfl (k_storeOwn hw T.scal_3 rfl rfl rfl (by (repeat first | with_reducible exact xH | apply xT); first | done | fail) (by assumption) (fun w hw => ?_))
                          refine rl_nil (g_le (xK (xK (xK (xK (xK (xK (Fr.le_refl _))))))) ?_)
                          have hw := hw.xP (A := RmAt rm p md)
                          refine g_drawB ord_f54_r24_R14f (by kernel_rfl) T.mixed (fun w hw => (hw.pick .at0).drop) hw (fun w hw => ?_)
                          refine rs_a 0 rfl rfl rfl rfl (v_move rfl) ?_
                          refine rs_a 1 rfl rfl rfl rfl (v_nilCheck rfl) ?_
                          refine rs_a 2 rfl rfl rfl rfl (v_fieldAddr0 T.fld_120_2_2 rfl) ?_
                          refine rs_a 4 rfl rfl rfl rfl (v_move rfl) ?_
                          refine rs_a 5 rfl rfl rfl rfl (v_move rfl) ?_
                          refine rs_a 6 rfl rfl rfl rfl (v_nilCheck rfl) ?_
                          refine rs_a 7 rfl rfl rfl rfl (v_fieldAddr0 T.fld_120_0_0 rfl) ?_
                          refine rs_a 9 rfl rfl rfl rfl (v_move rfl) ?_
                          refine rs_v 3 rfl rfl rfl rfl (OpV.mono (v_load T.scal_61 rfl) (fun w hw => by exact sat_cell hw (by (repeat first | with_reducible exact xH | apply xT); first | done | fail) rfl)) (by exact Sat.sub hw (by (repeat (first | with_reducible exact Sub.refl _ | exact Sub.nil _ | (apply Sub.cons; focus ((repeat (first | with_reducible exact Pick.here _ | apply Pick.there)); (first | done | fail))) | with_reducible apply Sub.drop)); first | done | fail)) ?_
                          refine rs_kv 8 rfl rfl rfl rfl (by exact sat_cell hw (by (repeat first | with_reducible exact xH | apply xT); first | done | fail) rfl) (v_load T.scal_81 rfl) ?_
                          refine rs_k 10 rfl rfl (k_callf Try.func64 rfl rfl rfl rfl ?_)
                          refine Calls.mono (rused_calls (i : Int) hw) ?_
                          rintro _ w ⟨rfl, hw⟩
                          refine ⟨_, rfl, ?_⟩
                          refine ⟨fun _ => (by exact Sat.sub hw (by (repeat (first | with_reducible exact Sub.refl _ | exact Sub.nil _ | (apply Sub.cons; focus ((repeat (first | with_reducible exact Pick.here _ | apply Pick.there)); (first | done | fail))) | with_reducible apply Sub.drop)); first | done | fail)), ?_⟩
                          refine rs_kv 11 rfl rfl rfl rfl (S' := fun _ => True) trivial (v_indexAddr T.sl_61_3_1 rfl rfl (by omega) (by omega)) ?_
                          refine rs_k 12 rfl rfl (k_storeOwn hw T.scal_3 rfl rfl rfl (by (repeat first | with_reducible exact xH | apply xT); first | done | fail) (by assumption) (fun w hw => ?_))
                          refine ⟨fun hn => absurd (by decide) hn, ?_⟩
                          refine rs_done (g_le (xK (xK (xK (xK (xK (xK (xK (xK (xK (xK (xK (xK (Fr.le_refl _))))))))))))) ?_)
                          refine g_inBlock ?_
                          refine g_region ?_
                          refine xV rfl rfl rfl (v_move rfl) ?_
                          refine xV rfl rfl rfl (v_add rfl rfl (by omega)) ?_
                          refine xV rfl rfl rfl (v_assign rfl) ?_
                          refine rl_nil (g_le (xK (xK (xK (Fr.le_refl _)))) ?_)
                          have hf : rbg op us md i x = ⟨2, md.used i, x.live⟩ := by unfold rbg; rw [if_pos h8, if_pos h8]
                          have e1 := upI_map (f := rbg op us md) (g := Sg.kind) hx
                          have e2 := upI_map (f := rbg op us md) (g := Sg.used) hx
                          rw [hf] at e1 e2
                          dsimp only at e1 e2
                          rw [show 0 + (i : Int).toNat * 1 = i by omega, List.set_set, List.set_set, e1, e2] at hw
                          exact g_le (by repeat (first | exact Fr.le_nil _ | refine Fr.le_cons rfl ?_)) (ih (i + 1) w ⟨by omega, hw.xQ⟩ (by omega))
                      · try with_reducible exact tf_elim h8
                        all_goals
                          try replace h8 := of_decide_eq_false h8
                          refine g_skip (g_inBlock ?_)
                          refine g_region ?_
                          refine xV rfl rfl rfl (v_move rfl) ?_
                          refine xV rfl rfl rfl (v_add rfl rfl (by omega)) ?_
                          refine xV rfl rfl rfl (v_assign rfl) ?_
                          refine rl_nil (g_le (xK (xK (xK (Fr.le_refl _)))) ?_)
                          have hf : rbg op us md i x = ⟨1, 0, x.live⟩ := by unfold rbg; rw [if_neg h8, if_neg h8]
                          have e1 := upI_map (f := rbg op us md) (g := Sg.kind) hx
                          have e2 := upI_map (f := rbg op us md) (g := Sg.used) hx
                          rw [hf] at e1 e2
                          dsimp only at e1 e2
                          rw [show 0 + (i : Int).toNat * 1 = i by omega, e1, e2] at hw
                          exact g_le (by repeat (first | exact Fr.le_nil _ | refine Fr.le_cons rfl ?_)) (ih (i + 1) w ⟨by omega, hw.xQ⟩ (by omega))
                  · try with_reducible exact tf_elim h7
                    all_goals
                      try replace h7 := of_decide_eq_false h7
                      refine g_exit rfl (g_seq ?_)
                      obtain rfl : i = rs.length := by omega
                      rw [← hll, upI_all, hll] at hw
                      have hst5 : 0 + op.toNat * 1 < ((s1.mapIdx (rbg op us md)).map fun x => Value.int .i64 x.kind).length := by rw [List.length_map, List.length_mapIdx]; omega
                      have hst6 : 0 + op.toNat * 1 < ((s1.mapIdx (rbg op us md)).map fun x => Value.int .i64 x.used).length := by rw [List.length_map, List.length_mapIdx]; omega
                      refine g_region ?_
                      refine xV rfl rfl rfl (v_move rfl) ?_
                      refine xV rfl rfl rfl (v_nilCheck rfl) ?_
                      refine xV rfl rfl rfl (v_fieldAddr0 T.fld_120_1_1 rfl) ?_
                      refine rl_v rfl rfl rfl (by exact sat_cell hw (by (repeat first | with_reducible exact xH | apply xT); first | done | fail) rfl) (v_load T.scal_61 rfl) ?_
                      refine xV rfl rfl rfl (v_move rfl) ?_
                      refine xV rfl rfl rfl (v_indexAddr T.sl_61_3_1 rfl rfl (by omega) (by omega)) ?_
                      refine rl_k rfl (k_storeOwn hw T.scal_3 rfl rfl rfl (by (repeat first | with_reducible exact xH | apply xT); first | done | fail) (by assumption) (fun w hw => ?_))
                      refine rl_nil (g_le (xS rfl (xS rfl (xS rfl (xS rfl (xS rfl (xS rfl (Fr.le_refl _))))))) ?_)
                      refine g_seq ?_
                      refine g_region ?_
                      refine xV rfl rfl rfl (v_move rfl) ?_
                      refine xV rfl rfl rfl (v_nilCheck rfl) ?_
                      refine xV rfl rfl rfl (v_fieldAddr0 T.fld_120_2_2 rfl) ?_
                      refine rl_v rfl rfl rfl (by exact sat_cell hw (by (repeat first | with_reducible exact xH | apply xT); first | done | fail) rfl) (v_load T.scal_61 rfl) ?_
                      refine xV rfl rfl rfl (v_move rfl) ?_
                      refine xV rfl rfl rfl (v_move rfl) ?_
                      refine xV rfl rfl rfl (v_indexAddr T.sl_61_3_1 rfl rfl (by omega) (by omega)) ?_
                      refine rl_k rfl (k_storeOwn hw T.scal_3 rfl rfl rfl (by (repeat first | with_reducible exact xH | apply xT); first | done | fail) (by assumption) (fun w hw => ?_))
                      refine rl_nil (g_le (xS rfl (xS rfl (xS rfl (xS rfl (xS rfl (xS rfl (xS rfl (Fr.le_refl _)))))))) ?_)
                      refine g_seq ?_
                      refine g_region ?_
                      refine xV rfl rfl rfl (v_assign rfl) ?_
                      refine rl_nil (g_le (xK (Fr.le_refl _)) ?_)
                      refine g_ret1 Try.func54 rfl rfl ?_
                      refine ⟨true, rfl, ⟨fun _ => ⟨by omega, by omega, hfit⟩, fun _ => rfl⟩, ?_⟩
                      have hg : ∀ (j : Nat), (s1.mapIdx (rbg op us md))[j]? = rs[j]?.map fun _ => (⟨if liveOf xs j > 0 then 2 else 1, if liveOf xs j > 0 then md.used j else 0, liveOf xs j⟩ : Sg) := fun j => by
                        rw [List.getElem?_mapIdx, ← hs1]
                        unfold lived
                        rw [List.getElem?_mapIdx, Option.map_map]; rfl
                      have hr9 : ∀ (j : Nat), (rbegun md op us rs xs)[j]? = rs[j]?.map fun _ => (⟨if (j : Int) = op then 3 else if liveOf xs j > 0 then 2 else 1, if (j : Int) = op then us else if liveOf xs j > 0 then md.used j else 0, liveOf xs j⟩ : Sg) := fun j => by unfold rbegun; rw [List.getElem?_mapIdx]
                      have hkk : (((s1.mapIdx (rbg op us md)).map fun x => Value.int .i64 x.kind).set (0 + op.toNat * 1) (Value.int .i64 3)) = (rbegun md op us rs xs).map fun x => Value.int .i64 x.kind := by
                        apply List.ext_getElem?
                        intro j
                        rw [List.getElem?_map, hr9]
                        by_cases hj : j = op.toNat
                        · rw [hj, show 0 + op.toNat * 1 = op.toNat by omega, List.getElem?_set_self (by rw [List.length_map, List.length_mapIdx]; omega), sgAt_some h0 h1]
                          simp only [Option.map_some]
                          rw [if_pos (by omega)]
                        · rw [List.getElem?_set_ne (by omega), List.getElem?_map, hg, Option.map_map, Option.map_map]
                          congr 1
                          funext z
                          simp only [Function.comp]
                          rw [if_neg (show ¬ ((j : Nat) : Int) = op by omega)]
                      have huu : (((s1.mapIdx (rbg op us md)).map fun x => Value.int .i64 x.used).set (0 + op.toNat * 1) (Value.int .i64 us)) = (rbegun md op us rs xs).map fun x => Value.int .i64 x.used := by
                        apply List.ext_getElem?
                        intro j
                        rw [List.getElem?_map, hr9]
                        by_cases hj : j = op.toNat
                        · rw [hj, show 0 + op.toNat * 1 = op.toNat by omega, List.getElem?_set_self (by rw [List.length_map, List.length_mapIdx]; omega), sgAt_some h0 h1]
                          simp only [Option.map_some]
                          rw [if_pos (show ((op.toNat : Nat) : Int) = op by omega)]
                        · rw [List.getElem?_set_ne (by omega), List.getElem?_map, hg, Option.map_map, Option.map_map]
                          congr 1
                          funext z
                          simp only [Function.comp]
                          rw [if_neg (show ¬ ((j : Nat) : Int) = op by omega)]
                      have hvv : (s1.map fun x => Value.int .i64 x.live) = (rbegun md op us rs xs).map fun x => Value.int .i64 x.live := by
                        apply List.ext_getElem?
                        intro j
                        rw [List.getElem?_map, List.getElem?_map, hr9, ← hs1]
                        unfold lived
                        rw [List.getElem?_mapIdx, Option.map_map, Option.map_map]; rfl
                      rw [hkk, huu, hvv] at hw
                      have hbl := rbegun_len md op us rs xs
                      simp only [if_true]
                      rw [hbl]
                      exact hw.xQ
end Go.Proofs.Ytipdklbedpkobaa
