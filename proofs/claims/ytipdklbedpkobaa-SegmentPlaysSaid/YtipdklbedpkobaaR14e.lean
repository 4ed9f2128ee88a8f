/-
  The document's log (letheref14): New, Append.
-/
import Derived.Test.YtipdklbedpkobaaR14d
namespace Go.Proofs.Ytipdklbedpkobaa
set_option maxRecDepth 8000
set_option linter.unusedSimpArgs false
set_option linter.unusedVariables false
open Go Xe Go.Lib
theorem idx_none : ∀ (xs : List Sg) (i : Int), xs.countP (fun x : Sg => decide (x.kind = 1)) = 0 → idx (fun x : Sg => decide (x.kind = 1)) xs i = -1
  | [], _, _ => rfl
  | x :: xs, i, h => by
    rw [List.countP_cons] at h
    by_cases hx : decide (x.kind = 1) = true
    · rw [if_pos hx] at h; omega
    · rw [if_neg hx] at h
      simp only [idx]; rw [if_neg hx]; exact idx_none xs _ h
theorem putL_kind {o to at_ n : Int} {rs : List Sg} (ho0 : 0 ≤ o) (ho : o < rs.length) (ht0 : 0 ≤ to) (ht : to < rs.length) : ((rs.map fun x => Value.int .i64 x.kind).set o.toNat (Value.int .i64 2)).set to.toNat (Value.int .i64 3) = (putL o rs to at_ n).map fun x => Value.int .i64 x.kind := by
  apply List.ext_getElem?
  intro i
  rw [List.getElem?_map, putL_get ho0 ho ht0 ht]
  split
  · rename_i h; rw [show i = to.toNat by omega, List.getElem?_set_self (by rw [List.length_set, List.length_map]; omega)]; rfl
  · rename_i h
    rw [List.getElem?_set_ne (by omega)]
    split
    · rename_i h2; rw [show i = o.toNat by omega, List.getElem?_set_self (by rw [List.length_map]; omega)]; rfl
    · rw [List.getElem?_set_ne (by omega), List.getElem?_map]
theorem putL_used {o to at_ n : Int} {rs : List Sg} (ho0 : 0 ≤ o) (ho : o < rs.length) (ht0 : 0 ≤ to) (ht : to < rs.length) : (rs.map fun x => Value.int .i64 x.used).set to.toNat (Value.int .i64 (at_ + n)) = (putL o rs to at_ n).map fun x => Value.int .i64 x.used := by
  apply List.ext_getElem?
  intro i
  rw [List.getElem?_map, putL_get ho0 ho ht0 ht]
  split
  · rename_i h; rw [show i = to.toNat by omega, List.getElem?_set_self (by rw [List.length_map]; omega)]; rfl
  · rename_i h
    rw [List.getElem?_set_ne (by omega), List.getElem?_map]
    split
    · rename_i h2; rw [show i = o.toNat by omega, sgAt_some ho0 ho]; rfl
    · rfl
theorem putL_live {o to at_ n : Int} {rs : List Sg} (ho0 : 0 ≤ o) (ho : o < rs.length) (ht0 : 0 ≤ to) (ht : to < rs.length) : (rs.map fun x => Value.int .i64 x.live) = (putL o rs to at_ n).map fun x => Value.int .i64 x.live := by
  apply List.ext_getElem?
  intro i
  rw [List.getElem?_map, List.getElem?_map, putL_get ho0 ho ht0 ht]
  split
  · rename_i h; rw [show i = to.toNat by omega, sgAt_some ht0 ht]; rfl
  · split
    · rename_i h2; rw [show i = o.toNat by omega, sgAt_some ho0 ho]; rfl
    · rfl
theorem ord_f51_r5_R14e : orderOfB Try.f51 5 [] (.a 0 (.a 1 (.a 2 (.a 3 (.a 4 (.a 9 (.a 10 (.a 11 (.a 13 (.v 5 (.a 6 (.a 7 (.v 8 (.k 12 (.k 14 (.k 15 (.k 16 (.k 17 .done)))))))))))))))))) = true := by kernel_rfl
set_option maxHeartbeats 2000000 in
theorem rappend_calls {E : Env} {w : World} {L : List As} {q rm p k1 k2 k3 c1 c2 c3 : Nat} {o : Int} {rs : List Sg} {md : Md} {pw : Pw} (v : ByteArray) (hb : rs.length ≤ 4096) (hl : rs.length = md.segs.length) (ho0 : 0 ≤ o) (ho1 : o < rs.length) (hidx : idx (fun x : Sg => decide (x.kind = 3)) rs 0 = o) (hok : (sgAt rs o).kind = 3) (hu : ∀ x ∈ rs, 0 ≤ x.used ∧ x.used ≤ md.size) (hmd : md.ok) (hpw : pw.ok) (hpl : md.past.length ≤ 4000000000000)
    (hw : Sat E w (pt q (.cells [Value.pointer (some ⟨rm, 0, none⟩), .slice (some ⟨k1, 0, none⟩) (rs : List Sg).length c1, .slice (some ⟨k2, 0, none⟩) (rs : List Sg).length c2, .slice (some ⟨k3, 0, none⟩) (rs : List Sg).length c3].toArray 120 (0, 0)) :: OwnSl 3 1 (.slice (some ⟨k1, 0, none⟩) (rs).length c1) (rs).length ((rs).map fun x => Value.int .i64 x.kind) :: OwnSl 3 1 (.slice (some ⟨k2, 0, none⟩) (rs).length c2) (rs).length ((rs).map fun x => Value.int .i64 x.used) :: OwnSl 3 1 (.slice (some ⟨k3, 0, none⟩) (rs).length c3) (rs).length ((rs).map fun x => Value.int .i64 x.live) :: RmAt rm p md :: RwAt p pw.ref :: L)) :
    Calls Try.prog 51 #[.pointer (some ⟨q, 0, none⟩), .string v] w fun e w' => e = .returned (.tuple #[.agg #[.int .i64 (appL o rs md pw v).at_.1, .int .i64 (appL o rs md pw v).at_.2.1, .int .i64 (appL o rs md pw v).at_.2.2], .int .i64 (appL o rs md pw v).bad]) ∧
      Sat E w' (pt q (.cells [Value.pointer (some ⟨rm, 0, none⟩), .slice (some ⟨k1, 0, none⟩) (((appL o rs md pw v).ss) : List Sg).length c1, .slice (some ⟨k2, 0, none⟩) (((appL o rs md pw v).ss) : List Sg).length c2, .slice (some ⟨k3, 0, none⟩) (((appL o rs md pw v).ss) : List Sg).length c3].toArray 120 (0, 0)) :: OwnSl 3 1 (.slice (some ⟨k1, 0, none⟩) (((appL o rs md pw v).ss)).length c1) (((appL o rs md pw v).ss)).length ((((appL o rs md pw v).ss)).map fun x => Value.int .i64 x.kind) :: OwnSl 3 1 (.slice (some ⟨k2, 0, none⟩) (((appL o rs md pw v).ss)).length c2) (((appL o rs md pw v).ss)).length ((((appL o rs md pw v).ss)).map fun x => Value.int .i64 x.used) :: OwnSl 3 1 (.slice (some ⟨k3, 0, none⟩) (((appL o rs md pw v).ss)).length c3) (((appL o rs md pw v).ss)).length ((((appL o rs md pw v).ss)).map fun x => Value.int .i64 x.live) :: RmAt rm p (appL o rs md pw v).md :: RwAt p (appL o rs md pw v).pw.ref :: L) := by
  have hox := sgAt_some ho0 ho1
  have hux := hu _ (List.mem_of_getElem? hox)
  have hug := uget ho0 hox
  have hmsz := hmd.2.2.2.1
  have hib := idx_bound (p := fun x : Sg => decide (x.kind = 1)) (l := rs) (i := 0) (by omega)
  have hcl : ∀ {w : World} {M : List As}, Sat E w (RmAt rm p md :: M) → ∃ a c pv, Sat E w (pt rm (.cells [Value.pointer (some ⟨p, 0, none⟩), .int .i64 md.size, .slice a md.segs.length c, pv].toArray 116 (0, 0)) :: OwnSl 9 1 (.slice a md.segs.length c) md.segs.length (md.segs.map Value.string) :: OwnSl 128 3 pv md.past.length (md.past.flatMap wrCells) :: M) := fun h => by
    obtain ⟨a, c, pa, pc, _, h⟩ := rm_open h
    exact ⟨_, _, _, h⟩
  obtain ⟨ra, rc, rpv, hw⟩ := hcl (hw.xP (A := RmAt rm p md))
  unfold appL
  refine calls_of_g (n := 105) Try.func51 rfl rfl rfl ?_
  change G _ _ _ _ _ [(0, _), (1, _)] _
  refine g_seq ?_
  refine g_region ?_
  refine rl_k rfl (k_alloc hw T.zero_58 rfl rfl (fun bk0_0 w hw => ?_))
  refine xV rfl rfl rfl (v_assign rfl) ?_
  refine rl_nil (g_le (xK (xK (Fr.le_refl _))) ?_)
  refine g_seq (g_seq ?_)
  refine g_region ?_
  refine xV rfl rfl rfl (v_move rfl) ?_
  refine xV rfl rfl rfl (v_eqlStr rfl rfl) ?_
  refine xV rfl rfl rfl (v_move rfl) ?_
  refine rl_split (s := 13) rfl (fun g1_2 => ?_) (fun g1_2 => ?_)
  · try with_reducible exact ft_elim g1_2
    all_goals
      try replace g1_2 := of_decide_eq_true g1_2
      refine rl_off (met_off rfl rfl rfl rfl rfl) rfl rfl ?_
      refine rl_off (met_off rfl rfl rfl rfl rfl) rfl rfl ?_
      refine rl_off (met_off rfl rfl rfl rfl rfl) rfl rfl ?_
      refine rl_off (met_off rfl rfl rfl rfl rfl) rfl rfl ?_
      refine rl_off (met_off rfl rfl rfl rfl rfl) rfl rfl ?_
      refine rl_off (met_off rfl rfl rfl rfl rfl) rfl rfl ?_
      refine rl_off (met_off rfl rfl rfl rfl rfl) rfl rfl ?_
      refine rl_off (met_off rfl rfl rfl rfl rfl) rfl rfl ?_
      refine rl_off (met_off rfl rfl rfl rfl rfl) rfl rfl ?_
      refine rl_off (met_off rfl rfl rfl rfl rfl) rfl rfl ?_
      refine xV rfl rfl rfl (v_pick_true rfl rfl) ?_
      refine rl_nil (g_le (xK (xS rfl (xS rfl (xS rfl (xS rfl (xS rfl (xS rfl (xS rfl (xS rfl (xS rfl (xS rfl (xS rfl (xS rfl (xS rfl (xS rfl (Fr.le_refl _)))))))))))))))) ?_)
      refine g_cond_true rfl ?_
      refine g_seq ?_
      refine g_region ?_
      refine xV rfl rfl rfl (v_build rfl (T.build_58 ..)) ?_
      refine rl_k rfl (k_storeWhole hw T.agg_58_3 rfl rfl (by simp [Value.oneCell']) rfl (by (repeat first | with_reducible exact xH | apply xT); first | done | fail) rfl (fun w hw => ?_))
      refine xV rfl rfl rfl (v_assign rfl) ?_
      refine rl_nil (g_le (xK (xS rfl (Fr.le_refl _))) ?_)
      refine g_res2 Try.func51 rfl ⟨_, rfl, holds_agg (vs := [_, _, _]) T.agg_58_3 rfl (by exact sat_cells hw (by (repeat first | with_reducible exact xH | apply xT); first | done | fail) ⟨rfl, rfl, rfl, trivial⟩)⟩ rfl ?_
      have hc : v = ByteArray.empty ∨ (v.size : Int) > md.size := by exact .inl g1_2
      rw [if_pos hc]
      exact ⟨rfl, (rm_close rfl rfl rfl rfl rfl (hw.xQ) : Sat E w (RmAt rm p md :: pt q (.cells [Value.pointer (some ⟨rm, 0, none⟩), .slice (some ⟨k1, 0, none⟩) (rs : List Sg).length c1, .slice (some ⟨k2, 0, none⟩) (rs : List Sg).length c2, .slice (some ⟨k3, 0, none⟩) (rs : List Sg).length c3].toArray 120 (0, 0)) :: OwnSl 3 1 (.slice (some ⟨k1, 0, none⟩) (rs).length c1) (rs).length ((rs).map fun x => Value.int .i64 x.kind) :: OwnSl 3 1 (.slice (some ⟨k2, 0, none⟩) (rs).length c2) (rs).length ((rs).map fun x => Value.int .i64 x.used) :: OwnSl 3 1 (.slice (some ⟨k3, 0, none⟩) (rs).length c3) (rs).length ((rs).map fun x => Value.int .i64 x.live) :: RwAt p pw.ref :: L)).xQ⟩
  · try with_reducible exact tf_elim g1_2
    all_goals
      try replace g1_2 := of_decide_eq_false g1_2
      refine rl_vg (met_on rfl rfl rfl rfl) rfl rfl (S := fun _ => True) trivial (v_move rfl) ?_
      refine rl_vg (met_on rfl rfl rfl rfl) rfl rfl (S := fun _ => True) trivial (v_lenStr T.str_9 rfl) ?_
      refine rl_vg (met_on rfl rfl rfl rfl) rfl rfl (S := fun _ => True) trivial (v_move rfl) ?_
      refine rl_vg (met_on rfl rfl rfl rfl) rfl rfl (S := fun _ => True) trivial (v_nilCheck rfl) ?_
      refine rl_vg (met_on rfl rfl rfl rfl) rfl rfl (S := fun _ => True) trivial (v_fieldAddr0 T.fld_120_0_0 rfl) ?_
      refine rl_vg (met_on rfl rfl rfl rfl) rfl rfl (by exact sat_cell hw (by (repeat first | with_reducible exact xH | apply xT); first | done | fail) rfl) (v_load T.scal_81 rfl) ?_
      refine rl_vg (met_on rfl rfl rfl rfl) rfl rfl (S := fun _ => True) trivial (v_nilCheck rfl) ?_
      refine rl_vg (met_on rfl rfl rfl rfl) rfl rfl (S := fun _ => True) trivial (v_fieldAddr0 T.fld_116_1_1 rfl) ?_
      refine rl_vg (met_on rfl rfl rfl rfl) rfl rfl (by exact sat_cell hw (by (repeat first | with_reducible exact xH | apply xT); first | done | fail) rfl) (v_load T.scal_3 rfl) ?_
      refine rl_vg (met_on rfl rfl rfl rfl) rfl rfl (S := fun _ => True) trivial (v_gtr rfl rfl) ?_
      refine xV rfl rfl rfl (v_pick_false rfl rfl) ?_
      refine rl_nil (g_le (xK (xS rfl (xS rfl (xS rfl (xS rfl (xS rfl (xS rfl (xS rfl (xS rfl (xS rfl (xS rfl (xS rfl (xS rfl (xS rfl (xS rfl (Fr.le_refl _)))))))))))))))) ?_)
      refine g_cond rfl (fun h1 => ?_) (fun h1 => ?_)
      · try with_reducible exact ft_elim h1
        all_goals
          try replace h1 := of_decide_eq_true h1
          refine g_seq ?_
          refine g_region ?_
          refine xV rfl rfl rfl (v_build rfl (T.build_58 ..)) ?_
          refine rl_k rfl (k_storeWhole hw T.agg_58_3 rfl rfl (by simp [Value.oneCell']) rfl (by (repeat first | with_reducible exact xH | apply xT); first | done | fail) rfl (fun w hw => ?_))
          refine xV rfl rfl rfl (v_assign rfl) ?_
          refine rl_nil (g_le (xK (xS rfl (Fr.le_refl _))) ?_)
          refine g_res2 Try.func51 rfl ⟨_, rfl, holds_agg (vs := [_, _, _]) T.agg_58_3 rfl (by exact sat_cells hw (by (repeat first | with_reducible exact xH | apply xT); first | done | fail) ⟨rfl, rfl, rfl, trivial⟩)⟩ rfl ?_
          have hc : v = ByteArray.empty ∨ (v.size : Int) > md.size := by exact .inr (by omega)
          rw [if_pos hc]
          exact ⟨rfl, (rm_close rfl rfl rfl rfl rfl (hw.xQ) : Sat E w (RmAt rm p md :: pt q (.cells [Value.pointer (some ⟨rm, 0, none⟩), .slice (some ⟨k1, 0, none⟩) (rs : List Sg).length c1, .slice (some ⟨k2, 0, none⟩) (rs : List Sg).length c2, .slice (some ⟨k3, 0, none⟩) (rs : List Sg).length c3].toArray 120 (0, 0)) :: OwnSl 3 1 (.slice (some ⟨k1, 0, none⟩) (rs).length c1) (rs).length ((rs).map fun x => Value.int .i64 x.kind) :: OwnSl 3 1 (.slice (some ⟨k2, 0, none⟩) (rs).length c2) (rs).length ((rs).map fun x => Value.int .i64 x.used) :: OwnSl 3 1 (.slice (some ⟨k3, 0, none⟩) (rs).length c3) (rs).length ((rs).map fun x => Value.int .i64 x.live) :: RwAt p pw.ref :: L)).xQ⟩
      · try with_reducible exact tf_elim h1
        all_goals
          try replace h1 := of_decide_eq_false h1
          refine g_skip (g_seq ?_)
          rw [if_neg (by rintro (h | h); exact g1_2 h; omega)]
          refine g_region ?_
          refine xV rfl rfl rfl (v_move rfl) ?_
          refine rl_k rfl (k_callf Try.func63 rfl rfl rfl rfl ?_)
          refine Calls.mono (opened_calls (L := _) hb (hw.xQ : Sat E w (pt q (.cells [Value.pointer (some ⟨rm, 0, none⟩), .slice (some ⟨k1, 0, none⟩) (rs : List Sg).length c1, .slice (some ⟨k2, 0, none⟩) (rs : List Sg).length c2, .slice (some ⟨k3, 0, none⟩) (rs : List Sg).length c3].toArray 120 (0, 0)) :: OwnSl 3 1 (.slice (some ⟨k1, 0, none⟩) (rs).length c1) (rs).length ((rs).map fun x => Value.int .i64 x.kind) :: OwnSl 3 1 (.slice (some ⟨k2, 0, none⟩) (rs).length c2) (rs).length ((rs).map fun x => Value.int .i64 x.used) :: OwnSl 3 1 (.slice (some ⟨k3, 0, none⟩) (rs).length c3) (rs).length ((rs).map fun x => Value.int .i64 x.live) :: pt rm (.cells [Value.pointer (some ⟨p, 0, none⟩), .int .i64 md.size, .slice ra md.segs.length rc, rpv].toArray 116 (0, 0)) :: pt bk0_0 (.cells [Value.int .i64 0, .int .i64 0, .int .i64 0].toArray 58 (0, 0)) :: OwnSl 9 1 (.slice ra md.segs.length rc) md.segs.length (md.segs.map Value.string) :: OwnSl 128 3 rpv md.past.length (md.past.flatMap wrCells) :: RwAt p pw.ref :: L))) ?_
          rw [hidx]
          rintro _ w ⟨rfl, hw⟩
          refine ⟨_, rfl, ?_⟩
          refine xV rfl rfl rfl (v_assign rfl) ?_
          refine rl_nil (g_le (xK (xS rfl (xS rfl (Fr.le_refl _)))) ?_)
          refine g_seq ?_
          refine g_region ?_
          refine xV rfl rfl rfl (v_move rfl) ?_
          refine xV rfl rfl rfl (v_assign rfl) ?_
          refine rl_nil (g_le (xK (xS rfl (Fr.le_refl _))) ?_)
          refine g_seq (g_seq ?_)
          refine g_drawR ord_f51_r5_R14e (by kernel_rfl) T.mixed hw (fun w hw => ?_)
          refine rs_a 0 rfl rfl rfl rfl (v_move rfl) ?_
          refine rs_a 1 rfl rfl rfl rfl (v_lenStr T.str_9 rfl) ?_
          refine rs_a 2 rfl rfl rfl rfl (v_move rfl) ?_
          refine rs_a 3 rfl rfl rfl rfl (v_nilCheck rfl) ?_
          refine rs_a 4 rfl rfl rfl rfl (v_fieldAddr0 T.fld_120_0_0 rfl) ?_
          refine rs_a 9 rfl rfl rfl rfl (v_move rfl) ?_
          refine rs_a 10 rfl rfl rfl rfl (v_nilCheck rfl) ?_
          refine rs_a 11 rfl rfl rfl rfl (v_fieldAddr0 T.fld_120_2_2 rfl) ?_
          refine rs_a 13 rfl rfl rfl rfl (v_move rfl) ?_
          refine rs_v 5 rfl rfl rfl rfl (OpV.mono (v_load T.scal_81 rfl) (fun w hw => by exact sat_cell hw (by (repeat first | with_reducible exact xH | apply xT); first | done | fail) rfl)) (by exact hw) ?_
          refine rs_a 6 rfl rfl rfl rfl (v_nilCheck rfl) ?_
          refine rs_a 7 rfl rfl rfl rfl (v_fieldAddr0 T.fld_116_1_1 rfl) ?_
          refine rs_v 8 rfl rfl rfl rfl (OpV.mono (v_load T.scal_3 rfl) (fun w hw => by exact sat_cell hw (by (repeat first | with_reducible exact xH | apply xT); first | done | fail) rfl)) (by exact hw) ?_
          refine rs_kv 12 rfl rfl rfl rfl (by exact sat_cell hw (by (repeat first | with_reducible exact xH | apply xT); first | done | fail) rfl) (v_load T.scal_61 rfl) ?_
          refine rs_kv 14 rfl rfl rfl rfl (S' := fun _ => True) trivial (v_indexAddr T.sl_61_3_1 rfl rfl (by omega) (by omega)) ?_
          refine rs_kv 15 rfl rfl rfl rfl (by exact own_cell hw (by (repeat first | with_reducible exact xH | apply xT); first | done | fail) (by first | rfl | assumption)) (v_load T.scal_3 rfl) ?_
          refine rs_kv 16 rfl rfl rfl rfl (S' := fun _ => True) trivial (v_sub rfl rfl (by omega)) ?_
          refine rs_kv 17 rfl rfl rfl rfl (S' := fun _ => True) trivial (v_gtr rfl rfl) ?_
          refine rs_done (g_le (xK (xS rfl (xS rfl (xS rfl (xS rfl (xS rfl (xS rfl (xS rfl (xS rfl (xS rfl (xS rfl (xS rfl (xS rfl (xS rfl (xS rfl (xS rfl (xS rfl (xS rfl (Fr.le_refl _))))))))))))))))))) ?_)
          refine g_cutc (σ := Int) (fun C x => (7, .int .i64 x) :: C) [(0, _), (1, _), (4, _), (5, _), (6, _)] (by repeat (first | exact Fr.le_nil _ | refine Fr.le_cons rfl ?_)) (fun z w => (tgtL md.size o rs v.size).1 = z ∧ 0 ≤ z ∧ z < rs.length ∧ (z = o → (tgtL md.size o rs v.size).2 = (sgAt rs o).used) ∧ (z ≠ o → (tgtL md.size o rs v.size).2 = 0) ∧ Sat E w (RmAt rm p md :: pt bk0_0 (.cells [Value.int .i64 0, .int .i64 0, .int .i64 0].toArray 58 (0, 0)) :: pt q (.cells [Value.pointer (some ⟨rm, 0, none⟩), .slice (some ⟨k1, 0, none⟩) (rs : List Sg).length c1, .slice (some ⟨k2, 0, none⟩) (rs : List Sg).length c2, .slice (some ⟨k3, 0, none⟩) (rs : List Sg).length c3].toArray 120 (0, 0)) :: OwnSl 3 1 (.slice (some ⟨k1, 0, none⟩) (rs).length c1) (rs).length ((rs).map fun x => Value.int .i64 x.kind) :: OwnSl 3 1 (.slice (some ⟨k2, 0, none⟩) (rs).length c2) (rs).length ((rs).map fun x => Value.int .i64 x.used) :: OwnSl 3 1 (.slice (some ⟨k3, 0, none⟩) (rs).length c3) (rs).length ((rs).map fun x => Value.int .i64 x.live) :: RwAt p pw.ref :: L)) ?_ ?_
          · skip
            clear hw
            rintro to w ⟨htg, ht0, ht1, hat1, hat2, hw⟩
            all_goals
              refine g_seq ?_
              refine g_region ?_
              refine xV rfl rfl rfl (v_assign rfl) ?_
              refine rl_nil (g_le (xK (Fr.le_refl _)) ?_)
              refine g_seq (g_seq ?_)
              refine g_region ?_
              refine xV rfl rfl rfl (v_move rfl) ?_
              refine xV rfl rfl rfl (v_move rfl) ?_
              refine xV rfl rfl rfl (v_eql rfl rfl) ?_
              refine rl_nil (g_le (xK (xS rfl (xS rfl (Fr.le_refl _)))) ?_)
              refine g_cutc (σ := Int) (fun C x => (9, .int .i64 x) :: C) [(0, _), (1, _), (4, _), (5, _), (6, _), (7, _)] (by repeat (first | exact Fr.le_nil _ | refine Fr.le_cons rfl ?_)) (fun z w => tgtL md.size o rs v.size = (to, z) ∧ 0 ≤ z ∧ z ≤ md.size ∧ Sat E w (RmAt rm p md :: pt bk0_0 (.cells [Value.int .i64 0, .int .i64 0, .int .i64 0].toArray 58 (0, 0)) :: pt q (.cells [Value.pointer (some ⟨rm, 0, none⟩), .slice (some ⟨k1, 0, none⟩) (rs : List Sg).length c1, .slice (some ⟨k2, 0, none⟩) (rs : List Sg).length c2, .slice (some ⟨k3, 0, none⟩) (rs : List Sg).length c3].toArray 120 (0, 0)) :: OwnSl 3 1 (.slice (some ⟨k1, 0, none⟩) (rs).length c1) (rs).length ((rs).map fun x => Value.int .i64 x.kind) :: OwnSl 3 1 (.slice (some ⟨k2, 0, none⟩) (rs).length c2) (rs).length ((rs).map fun x => Value.int .i64 x.used) :: OwnSl 3 1 (.slice (some ⟨k3, 0, none⟩) (rs).length c3) (rs).length ((rs).map fun x => Value.int .i64 x.live) :: RwAt p pw.ref :: L)) ?_ ?_
              · skip
                clear hw
                rintro at_ w ⟨htg2, ha0, ha1, hw⟩
                rw [htg2, if_neg (by simp only; omega)]
                dsimp only
                all_goals
                  refine g_seq ?_
                  obtain ⟨ra, rc, rpv, hw⟩ := hcl (hw.xP (A := RmAt rm p md))
                  refine g_region ?_
                  refine xV rfl rfl rfl (v_move rfl) ?_
                  refine xV rfl rfl rfl (v_nilCheck rfl) ?_
                  refine xV rfl rfl rfl (v_fieldAddr0 T.fld_120_0_0 rfl) ?_
                  refine rl_v rfl rfl rfl (by exact sat_cell hw (by (repeat first | with_reducible exact xH | apply xT); first | done | fail) rfl) (v_load T.scal_81 rfl) ?_
                  refine xV rfl rfl rfl (v_move rfl) ?_
                  refine xV rfl rfl rfl (v_move rfl) ?_
                  refine xV rfl rfl rfl (v_move rfl) ?_
                  refine rl_k rfl (k_callf Try.func59 rfl rfl rfl rfl ?_)
                  have hw : Sat E w (RmAt rm p md :: RwAt p pw.ref :: pt bk0_0 (.cells [Value.int .i64 0, .int .i64 0, .int .i64 0].toArray 58 (0, 0)) :: pt q (.cells [Value.pointer (some ⟨rm, 0, none⟩), .slice (some ⟨k1, 0, none⟩) (rs : List Sg).length c1, .slice (some ⟨k2, 0, none⟩) (rs : List Sg).length c2, .slice (some ⟨k3, 0, none⟩) (rs : List Sg).length c3].toArray 120 (0, 0)) :: OwnSl 3 1 (.slice (some ⟨k1, 0, none⟩) (rs).length c1) (rs).length ((rs).map fun x => Value.int .i64 x.kind) :: OwnSl 3 1 (.slice (some ⟨k2, 0, none⟩) (rs).length c2) (rs).length ((rs).map fun x => Value.int .i64 x.used) :: OwnSl 3 1 (.slice (some ⟨k3, 0, none⟩) (rs).length c3) (rs).length ((rs).map fun x => Value.int .i64 x.live) :: L) := rm_close rfl rfl rfl rfl rfl (hw.xQ)
                  refine Calls.mono (rwrite_calls (m := rm) (p := p) (s := md) (pw := pw) to at_ v hmd hpw hpl hw) ?_
                  generalize md.write pw to at_ v = r
                  rintro _ w ⟨rfl, hw⟩
                  refine ⟨_, rfl, ?_⟩
                  refine xV rfl rfl rfl (v_assign rfl) ?_
                  refine rl_nil (g_le (xK (xS rfl (xS rfl (xS rfl (xS rfl (xS rfl (xS rfl (xS rfl (xS rfl (Fr.le_refl _)))))))))) ?_)
                  refine g_seq (g_seq ?_)
                  refine g_region ?_
                  refine xV rfl rfl rfl (v_move rfl) ?_
                  refine xV rfl rfl rfl (v_neq rfl rfl) ?_
                  refine rl_nil (g_le (xK (xS rfl (Fr.le_refl _))) ?_)
                  refine g_cond rfl (fun h5 => ?_) (fun h5 => ?_)
                  · try with_reducible exact ft_elim h5
                    all_goals
                      try replace h5 := of_decide_eq_true h5
                      refine g_seq ?_
                      refine g_region ?_
                      refine xV rfl rfl rfl (v_build rfl (T.build_58 ..)) ?_
                      refine xV rfl rfl rfl (v_move rfl) ?_
                      refine rl_k rfl (k_storeWhole hw T.agg_58_3 rfl rfl (by simp [Value.oneCell']) rfl (by (repeat first | with_reducible exact xH | apply xT); first | done | fail) rfl (fun w hw => ?_))
                      refine xV rfl rfl rfl (v_assign rfl) ?_
                      refine rl_nil (g_le (xK (xS rfl (xS rfl (Fr.le_refl _)))) ?_)
                      refine g_res2 Try.func51 rfl ⟨_, rfl, holds_agg (vs := [_, _, _]) T.agg_58_3 rfl (by exact sat_cells hw (by (repeat first | with_reducible exact xH | apply xT); first | done | fail) ⟨rfl, rfl, rfl, trivial⟩)⟩ rfl ?_
                      rw [if_pos (by omega)]
                      exact ⟨rfl, hw.xQ⟩
                  · try with_reducible exact tf_elim h5
                    all_goals
                      try replace h5 := of_decide_eq_false h5
                      refine g_skip (g_seq ?_)
                      rw [if_neg (by omega)]
                      have hst1 : 0 + o.toNat * 1 < (rs.map fun x => Value.int .i64 x.kind).length := by rw [List.length_map]; omega
                      have hst2 : 0 + to.toNat * 1 < ((rs.map fun x => Value.int .i64 x.kind).set (0 + o.toNat * 1) (Value.int .i64 2)).length := by rw [List.length_set, List.length_map]; omega
                      have hst3 : 0 + to.toNat * 1 < (rs.map fun x => Value.int .i64 x.used).length := by rw [List.length_map]; omega
                      refine g_region ?_
                      refine xV rfl rfl rfl (v_move rfl) ?_
                      refine xV rfl rfl rfl (v_nilCheck rfl) ?_
                      refine xV rfl rfl rfl (v_fieldAddr0 T.fld_120_1_1 rfl) ?_
                      refine rl_v rfl rfl rfl (by exact sat_cell hw (by (repeat first | with_reducible exact xH | apply xT); first | done | fail) rfl) (v_load T.scal_61 rfl) ?_
                      refine xV rfl rfl rfl (v_move rfl) ?_
                      refine xV rfl rfl rfl (v_indexAddr T.sl_61_3_1 rfl rfl (by omega) (by omega)) ?_
                      refine rl_k rfl (k_storeOwn hw T.scal_3 rfl rfl rfl (by (repeat first | with_reducible exact xH | apply xT); first | done | fail) (by assumption) (fun w hw => ?_))
                      refine rl_nil (g_le (xS rfl (xS rfl (xS rfl (xS rfl (xS rfl (xS rfl (Fr.le_refl _))))))) ?_)
                      refine g_seq ?_
                      refine g_region ?_
                      refine xV rfl rfl rfl (v_move rfl) ?_
                      refine xV rfl rfl rfl (v_nilCheck rfl) ?_
                      refine xV rfl rfl rfl (v_fieldAddr0 T.fld_120_1_1 rfl) ?_
                      refine rl_v rfl rfl rfl (by exact sat_cell hw (by (repeat first | with_reducible exact xH | apply xT); first | done | fail) rfl) (v_load T.scal_61 rfl) ?_
                      refine xV rfl rfl rfl (v_move rfl) ?_
                      refine xV rfl rfl rfl (v_indexAddr T.sl_61_3_1 rfl rfl (by omega) (by omega)) ?_
                      refine rl_k rfl (k_storeOwn hw T.scal_3 rfl rfl rfl (by (repeat first | with_reducible exact xH | apply xT); first | done | fail) (by assumption) (fun w hw => ?_))
                      refine rl_nil (g_le (xS rfl (xS rfl (xS rfl (xS rfl (xS rfl (xS rfl (Fr.le_refl _))))))) ?_)
                      refine g_seq ?_
                      refine g_region ?_
                      refine xV rfl rfl rfl (v_move rfl) ?_
                      refine xV rfl rfl rfl (v_nilCheck rfl) ?_
                      refine xV rfl rfl rfl (v_fieldAddr0 T.fld_120_2_2 rfl) ?_
                      refine rl_v rfl rfl rfl (by exact sat_cell hw (by (repeat first | with_reducible exact xH | apply xT); first | done | fail) rfl) (v_load T.scal_61 rfl) ?_
                      refine xV rfl rfl rfl (v_move rfl) ?_
                      refine xV rfl rfl rfl (v_move rfl) ?_
                      refine xV rfl rfl rfl (v_move rfl) ?_
                      refine xV rfl rfl rfl (v_lenStr T.str_9 rfl) ?_
                      refine xV rfl rfl rfl (v_add rfl rfl (by omega)) ?_
                      refine xV rfl rfl rfl (v_indexAddr T.sl_61_3_1 rfl rfl (by omega) (by omega)) ?_
                      refine rl_k rfl (k_storeOwn hw T.scal_3 rfl rfl rfl (by (repeat first | with_reducible exact xH | apply xT); first | done | fail) (by assumption) (fun w hw => ?_))
                      refine rl_nil (g_le (xS rfl (xS rfl (xS rfl (xS rfl (xS rfl (xS rfl (xS rfl (xS rfl (xS rfl (xS rfl (Fr.le_refl _))))))))))) ?_)
                      refine g_seq ?_
                      refine g_region ?_
                      refine xV rfl rfl rfl (v_move rfl) ?_
                      refine xV rfl rfl rfl (v_move rfl) ?_
                      refine xV rfl rfl rfl (v_move rfl) ?_
                      refine xV rfl rfl rfl (v_lenStr T.str_9 rfl) ?_
                      refine xV rfl rfl rfl (v_build rfl (T.build_58_0_1_2 ..)) ?_
                      refine rl_k rfl (k_storeWhole hw T.agg_58_3 rfl rfl (by simp [Value.oneCell']) rfl (by (repeat first | with_reducible exact xH | apply xT); first | done | fail) rfl (fun w hw => ?_))
                      refine xV rfl rfl rfl (v_assign rfl) ?_
                      refine rl_nil (g_le (xK (xS rfl (xS rfl (xS rfl (xS rfl (xS rfl (Fr.le_refl _))))))) ?_)
                      refine g_res2 Try.func51 rfl ⟨_, rfl, holds_agg (vs := [_, _, _]) T.agg_58_3 rfl (by exact sat_cells hw (by (repeat first | with_reducible exact xH | apply xT); first | done | fail) ⟨rfl, rfl, rfl, trivial⟩)⟩ rfl ?_
                      refine ⟨rfl, ?_⟩
                      dsimp only
                      rw [show 0 + o.toNat * 1 = o.toNat by omega, show 0 + to.toNat * 1 = to.toNat by omega, putL_kind (at_ := at_) (n := v.size) ho0 ho1 ht0 ht1, putL_used ho0 ho1 ht0 ht1, putL_live (at_ := at_) (n := v.size) ho0 ho1 ht0 ht1] at hw
                      rw [putL_len]
                      exact hw.xQ
              · intro joinc4
                refine g_cond rfl (fun h4 => ?_) (fun h4 => ?_)
                · try with_reducible exact ft_elim h4
                  all_goals
                    try replace h4 := of_decide_eq_true h4
                    refine g_region ?_
                    refine xV rfl rfl rfl (v_move rfl) ?_
                    refine xV rfl rfl rfl (v_nilCheck rfl) ?_
                    refine xV rfl rfl rfl (v_fieldAddr0 T.fld_120_2_2 rfl) ?_
                    refine rl_v rfl rfl rfl (by exact sat_cell hw (by (repeat first | with_reducible exact xH | apply xT); first | done | fail) rfl) (v_load T.scal_61 rfl) ?_
                    refine xV rfl rfl rfl (v_move rfl) ?_
                    refine xV rfl rfl rfl (v_indexAddr T.sl_61_3_1 rfl rfl (by omega) (by omega)) ?_
                    refine rl_v rfl rfl rfl (by exact own_cell hw (by (repeat first | with_reducible exact xH | apply xT); first | done | fail) (by first | rfl | assumption)) (v_load T.scal_3 rfl) ?_
                    refine xV rfl rfl rfl (v_assign rfl) ?_
                    refine rl_nil (g_le (xK (xS rfl (xS rfl (xS rfl (xS rfl (xS rfl (xS rfl (xS rfl (Fr.le_refl _))))))))) ?_)
                    exact joinc4 (sgAt rs o).used w _ (by repeat (first | exact Fr.le_nil _ | refine Fr.le_cons rfl ?_)) ⟨Prod.ext htg (hat1 (by omega)), by omega, by omega, hw.xQ⟩
                · try with_reducible exact tf_elim h4
                  all_goals
                    try replace h4 := of_decide_eq_false h4
                    refine g_skip ?_
                    exact joinc4 0 w _ (by repeat (first | exact Fr.le_nil _ | refine Fr.le_cons rfl ?_)) ⟨Prod.ext htg (hat2 (by omega)), by omega, by omega, hw.xQ⟩
          · intro joinc2
            refine g_cond rfl (fun h2 => ?_) (fun h2 => ?_)
            · try with_reducible exact ft_elim h2
              all_goals
                try replace h2 := of_decide_eq_true h2
                refine g_seq ?_
                refine g_region ?_
                refine xV rfl rfl rfl (v_move rfl) ?_
                refine rl_k rfl (k_callf Try.func62 rfl rfl rfl rfl ?_)
                refine Calls.mono (rof_calls 1 hb hw) ?_
                rintro _ w ⟨fv, rfl, hw⟩
                obtain ⟨fa, fc, rfl, _, _, hfa⟩ := hw.own_shape
                refine ⟨_, rfl, ?_⟩
                refine xV rfl rfl rfl (v_assign rfl) ?_
                refine rl_nil (g_le (xK (xS rfl (xS rfl (Fr.le_refl _)))) ?_)
                have htg : tgtL md.size o rs v.size = (idx (fun x : Sg => decide (x.kind = 1)) rs 0, 0) := by unfold tgtL; rw [if_pos (by omega)]
                have hol := ofS_len 1 rs 0
                refine g_seq (g_seq ?_)
                refine g_region ?_
                refine xV rfl rfl rfl (v_move rfl) ?_
                refine xV rfl rfl rfl (v_lenSlice T.sl_61_3_1 rfl) ?_
                refine xV rfl rfl rfl (v_eql rfl rfl) ?_
                refine rl_nil (g_le (xK (xS rfl (xS rfl (Fr.le_refl _)))) ?_)
                refine g_cond rfl (fun h3 => ?_) (fun h3 => ?_)
                · try with_reducible exact ft_elim h3
                  all_goals
                    try replace h3 := of_decide_eq_true h3
                    refine g_seq ?_
                    refine g_region ?_
                    refine xV rfl rfl rfl (v_build rfl (T.build_58 ..)) ?_
                    refine rl_k rfl (k_storeWhole hw T.agg_58_3 rfl rfl (by simp [Value.oneCell']) rfl (by (repeat first | with_reducible exact xH | apply xT); first | done | fail) rfl (fun w hw => ?_))
                    refine xV rfl rfl rfl (v_assign rfl) ?_
                    refine rl_nil (g_le (xK (xS rfl (Fr.le_refl _))) ?_)
                    refine g_res2 Try.func51 rfl ⟨_, rfl, holds_agg (vs := [_, _, _]) T.agg_58_3 rfl (by exact sat_cells hw (by (repeat first | with_reducible exact xH | apply xT); first | done | fail) ⟨rfl, rfl, rfl, trivial⟩)⟩ rfl ?_
                    have hin := idx_none rs 0 (by omega)
                    rw [htg, if_pos (by simp only; omega)]
                    exact ⟨rfl, (rm_close rfl rfl rfl rfl rfl (hw.xQ) : Sat E w (RmAt rm p md :: pt q (.cells [Value.pointer (some ⟨rm, 0, none⟩), .slice (some ⟨k1, 0, none⟩) (rs : List Sg).length c1, .slice (some ⟨k2, 0, none⟩) (rs : List Sg).length c2, .slice (some ⟨k3, 0, none⟩) (rs : List Sg).length c3].toArray 120 (0, 0)) :: OwnSl 3 1 (.slice (some ⟨k1, 0, none⟩) (rs).length c1) (rs).length ((rs).map fun x => Value.int .i64 x.kind) :: OwnSl 3 1 (.slice (some ⟨k2, 0, none⟩) (rs).length c2) (rs).length ((rs).map fun x => Value.int .i64 x.used) :: OwnSl 3 1 (.slice (some ⟨k3, 0, none⟩) (rs).length c3) (rs).length ((rs).map fun x => Value.int .i64 x.live) :: RwAt p pw.ref :: L)).xQ⟩
                · try with_reducible exact tf_elim h3
                  all_goals
                    try replace h3 := of_decide_eq_false h3
                    refine g_skip ?_
                    have hcp : 0 < rs.countP (fun x => decide (x.kind = 1)) := by omega
                    have hhd := ofS_head rs 0 hcp
                    have hat9 := idx_at (p := fun x : Sg => decide (x.kind = 1)) (l := rs) (i := 0) (Int.le_refl _) hcp
                    generalize hto : idx (fun x : Sg => decide (x.kind = 1)) rs 0 = to at *
                    obtain ⟨ht0, x9, hx9, hk9⟩ := hat9
                    rw [Int.sub_zero] at hx9
                    have hne : to ≠ o := fun h => by rw [h, hox] at hx9; rw [← Option.some.inj hx9] at hk9; have := of_decide_eq_true hk9; omega
                    obtain ⟨fg, rfl⟩ := hfa (by omega)
                    have hh2 : ((ofS 1 rs 0).map (Value.int .i64))[0 + (0 : Int).toNat * 1]? = some (.int .i64 to) := by show ((ofS 1 rs 0).map (Value.int .i64))[0]? = _; rw [List.getElem?_map, hhd]; rfl
                    refine g_region ?_
                    refine xV rfl rfl rfl (v_move rfl) ?_
                    refine xV rfl rfl rfl (v_indexAddr T.sl_61_3_1 rfl rfl (by omega) (by omega)) ?_
                    refine rl_v rfl rfl rfl (by exact own_cell hw (by (repeat first | with_reducible exact xH | apply xT); first | done | fail) (by first | rfl | assumption)) (v_load T.scal_3 rfl) ?_
                    refine xV rfl rfl rfl (v_assign rfl) ?_
                    refine rl_nil (g_le (xK (xS rfl (xS rfl (xS rfl (Fr.le_refl _))))) ?_)
                    refine joinc2 to w _ (by repeat (first | exact Fr.le_nil _ | refine Fr.le_cons rfl ?_)) ⟨by rw [htg], by omega, by omega, fun h => absurd h hne, fun _ => by rw [htg], (rm_close rfl rfl rfl rfl rfl (hw.xQ) : Sat E w (RmAt rm p md :: pt bk0_0 (.cells [Value.int .i64 0, .int .i64 0, .int .i64 0].toArray 58 (0, 0)) :: pt q (.cells [Value.pointer (some ⟨rm, 0, none⟩), .slice (some ⟨k1, 0, none⟩) (rs : List Sg).length c1, .slice (some ⟨k2, 0, none⟩) (rs : List Sg).length c2, .slice (some ⟨k3, 0, none⟩) (rs : List Sg).length c3].toArray 120 (0, 0)) :: OwnSl 3 1 (.slice (some ⟨k1, 0, none⟩) (rs).length c1) (rs).length ((rs).map fun x => Value.int .i64 x.kind) :: OwnSl 3 1 (.slice (some ⟨k2, 0, none⟩) (rs).length c2) (rs).length ((rs).map fun x => Value.int .i64 x.used) :: OwnSl 3 1 (.slice (some ⟨k3, 0, none⟩) (rs).length c3) (rs).length ((rs).map fun x => Value.int .i64 x.live) :: RwAt p pw.ref :: L))⟩
            · try with_reducible exact tf_elim h2
              all_goals
                try replace h2 := of_decide_eq_false h2
                refine g_skip ?_
                have htg : tgtL md.size o rs v.size = (o, (sgAt rs o).used) := by unfold tgtL; rw [if_neg (by omega)]
                refine joinc2 o w _ (by repeat (first | exact Fr.le_nil _ | refine Fr.le_cons rfl ?_)) ⟨by rw [htg], ho0, ho1, fun _ => by rw [htg], fun h => absurd rfl h, (rm_close rfl rfl rfl rfl rfl (hw.xQ) : Sat E w (RmAt rm p md :: pt bk0_0 (.cells [Value.int .i64 0, .int .i64 0, .int .i64 0].toArray 58 (0, 0)) :: pt q (.cells [Value.pointer (some ⟨rm, 0, none⟩), .slice (some ⟨k1, 0, none⟩) (rs : List Sg).length c1, .slice (some ⟨k2, 0, none⟩) (rs : List Sg).length c2, .slice (some ⟨k3, 0, none⟩) (rs : List Sg).length c3].toArray 120 (0, 0)) :: OwnSl 3 1 (.slice (some ⟨k1, 0, none⟩) (rs).length c1) (rs).length ((rs).map fun x => Value.int .i64 x.kind) :: OwnSl 3 1 (.slice (some ⟨k2, 0, none⟩) (rs).length c2) (rs).length ((rs).map fun x => Value.int .i64 x.used) :: OwnSl 3 1 (.slice (some ⟨k3, 0, none⟩) (rs).length c3) (rs).length ((rs).map fun x => Value.int .i64 x.live) :: RwAt p pw.ref :: L))⟩
end Go.Proofs.Ytipdklbedpkobaa
