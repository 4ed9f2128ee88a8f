/-
  The laws' example of layer 14.
-/
import Derived.Test.YtipdklbedpkobaaS14e
namespace Go.Proofs.Ytipdklbedpkobaa
set_option maxRecDepth 8000
set_option linter.unusedSimpArgs false
set_option linter.unusedVariables false
open Go Xe Go.Lib
theorem ord_f24_r1_S14f : orderOfB Try.f24 1 [] (.a 0 (.a 1 (.a 2 (.a 4 (.a 5 (.a 6 (.a 8 (.a 9 (.a 10 (.v 3 (.a 15 (.v 7 (.k 11 (.k 12 (.k 13 (.k 14 (.k 16 .done))))))))))))))))) = true := by kernel_rfl
theorem open_calls {E : Env} {w : World} {L : List As} {l m b c : Nat} {o : Int} {ss : List Sg} (ho : 0 ≤ o ∧ o < ss.length) (hb : ss.length ≤ 4096) (hw : Sat E w (pt l (.cells [Value.pointer (some ⟨m, 0, none⟩), .int .i64 o, .slice (some ⟨b, 0, none⟩) (ss : List Sg).length c].toArray 47 (0, 0)) :: OwnSl 104 3 (.slice (some ⟨b, 0, none⟩) (ss).length c) (ss).length ((ss).flatMap Sg.cells) :: L)) :
    Calls Try.prog 24 #[.pointer (some ⟨l, 0, none⟩)] w fun e w' => e = .returned (.tuple #[.int .i64 o, .int .i64 (sgAt ss o).used]) ∧ Sat E w' (pt l (.cells [Value.pointer (some ⟨m, 0, none⟩), .int .i64 o, .slice (some ⟨b, 0, none⟩) (ss : List Sg).length c].toArray 47 (0, 0)) :: OwnSl 104 3 (.slice (some ⟨b, 0, none⟩) (ss).length c) (ss).length ((ss).flatMap Sg.cells) :: L) := by
  have hx := sgAt_some ho.1 ho.2
  have hsub := subAt_flat (f := Sg.cells) (sz := 3) (fun _ => rfl) hx
  dsimp only [Sg.cells] at hsub
  refine calls_of_g (n := 19) Try.func24 rfl rfl rfl ?_
  change G _ _ _ _ _ [(0, _)] _
  refine g_seq ?_
  refine g_region ?_
  refine xV rfl rfl rfl (v_assign rfl) ?_
  refine xV rfl rfl rfl (v_assign rfl) ?_
  refine rl_nil (g_le (xK (xK (Fr.le_refl _))) ?_)
  refine g_seq ?_
  refine g_drawR ord_f24_r1_S14f (by kernel_rfl) T.mixed hw (fun w hw => ?_)
  refine rs_a 0 rfl rfl rfl rfl (v_move rfl) ?_
  refine rs_a 1 rfl rfl rfl rfl (v_nilCheck rfl) ?_
  refine rs_a 2 rfl rfl rfl rfl (v_fieldAddr0 T.fld_47_1_1 rfl) ?_
  refine rs_a 4 rfl rfl rfl rfl (v_move rfl) ?_
  refine rs_a 5 rfl rfl rfl rfl (v_nilCheck rfl) ?_
  refine rs_a 6 rfl rfl rfl rfl (v_fieldAddr0 T.fld_47_2_2 rfl) ?_
  refine rs_a 8 rfl rfl rfl rfl (v_move rfl) ?_
  refine rs_a 9 rfl rfl rfl rfl (v_nilCheck rfl) ?_
  refine rs_a 10 rfl rfl rfl rfl (v_fieldAddr0 T.fld_47_1_1 rfl) ?_
  refine rs_v 3 rfl rfl rfl rfl (OpV.mono (v_load T.scal_3 rfl) (fun w hw => by exact sat_cell hw (by (repeat first | with_reducible exact xH | apply xT); first | done | fail) rfl)) (by exact hw) ?_
  refine rs_a 15 rfl rfl rfl rfl (v_assign rfl) ?_
  refine rs_v 7 rfl rfl rfl rfl (OpV.mono (v_load T.scal_45 rfl) (fun w hw => by exact sat_cell hw (by (repeat first | with_reducible exact xH | apply xT); first | done | fail) rfl)) (by exact hw) ?_
  refine rs_kv 11 rfl rfl rfl rfl (by exact sat_cell hw (by (repeat first | with_reducible exact xH | apply xT); first | done | fail) rfl) (v_load T.scal_3 rfl) ?_
  refine rs_kv 12 rfl rfl rfl rfl (S' := fun _ => True) trivial (v_indexAddr T.sl_45_104_3 rfl rfl (by omega) (by omega)) ?_
  refine rs_kv 13 rfl rfl rfl rfl (S' := fun _ => True) trivial (v_fieldAddr T.fld_104_1_1 rfl) ?_
  refine rs_kv 14 rfl rfl rfl rfl (by exact own_at hw (by (repeat first | with_reducible exact xH | apply xT); first | done | fail) (by assumption) rfl) (v_load T.scal_3 rfl) ?_
  refine rs_kv 16 rfl rfl rfl rfl (S' := fun _ => True) trivial (v_assign rfl) ?_
  refine rs_done (g_le (xK (xS rfl (xS rfl (xS rfl (xS rfl (xS rfl (xK (xS rfl (xS rfl (xS rfl (xS rfl (xS rfl (xS rfl (xS rfl (xS rfl (xS rfl (xS rfl (Fr.le_refl _)))))))))))))))))) ?_)
  refine g_ret2 Try.func24 rfl rfl rfl ?_
  exact ⟨rfl, hw.xQ⟩
theorem kind_calls {E : Env} {w : World} {L : List As} {l m b c : Nat} {o : Int} {ss : List Sg} (i : Int) (hi : 0 ≤ i ∧ i < ss.length) (hb : ss.length ≤ 4096) (hw : Sat E w (pt l (.cells [Value.pointer (some ⟨m, 0, none⟩), .int .i64 o, .slice (some ⟨b, 0, none⟩) (ss : List Sg).length c].toArray 47 (0, 0)) :: OwnSl 104 3 (.slice (some ⟨b, 0, none⟩) (ss).length c) (ss).length ((ss).flatMap Sg.cells) :: L)) :
    Calls Try.prog 28 #[.pointer (some ⟨l, 0, none⟩), .int .i64 i] w fun e w' => e = .returned (.int .i64 (sgAt ss i).kind) ∧ Sat E w' (pt l (.cells [Value.pointer (some ⟨m, 0, none⟩), .int .i64 o, .slice (some ⟨b, 0, none⟩) (ss : List Sg).length c].toArray 47 (0, 0)) :: OwnSl 104 3 (.slice (some ⟨b, 0, none⟩) (ss).length c) (ss).length ((ss).flatMap Sg.cells) :: L) := by
  have hx := sgAt_some hi.1 hi.2
  have hsub := subAt_flat (f := Sg.cells) (sz := 3) (fun _ => rfl) hx
  dsimp only [Sg.cells] at hsub
  refine calls_of_g (n := 24) Try.func28 rfl rfl rfl ?_
  change G _ _ _ _ _ [(0, _), (1, _)] _
  refine g_seq ?_
  refine g_region ?_
  refine xV rfl rfl rfl (v_assign rfl) ?_
  refine rl_nil (g_le (xK (Fr.le_refl _)) ?_)
  refine g_seq (g_seq ?_)
  refine g_region ?_
  refine xV rfl rfl rfl (v_move rfl) ?_
  refine xV rfl rfl rfl (v_lssF rfl rfl (by omega)) ?_
  refine xV rfl rfl rfl (v_move rfl) ?_
  refine rl_split (s := 7) rfl (fun g1_2 => ?_) (fun g1_2 => ?_)
  · try with_reducible exact ft_elim g1_2
    all_goals
      try replace g1_2 := of_decide_eq_true g1_2
      try (exfalso; omega)
      all_goals
        refine rl_off (met_off rfl rfl rfl rfl rfl) rfl rfl ?_
        refine rl_off (met_off rfl rfl rfl rfl rfl) rfl rfl ?_
        refine rl_off (met_off rfl rfl rfl rfl rfl) rfl rfl ?_
        refine rl_off (met_off rfl rfl rfl rfl rfl) rfl rfl ?_
        refine rl_off (met_off rfl rfl rfl rfl rfl) rfl rfl ?_
        refine rl_off (met_off rfl rfl rfl rfl rfl) rfl rfl ?_
        refine rl_off (met_off rfl rfl rfl rfl rfl) rfl rfl ?_
        first | (refine xV rfl rfl rfl (v_pick_true rfl rfl) ?_) | (refine xV rfl rfl rfl (v_pick_false rfl rfl) ?_) | (refine xV rfl rfl rfl (v_pick rfl rfl rfl) ?_)
        refine rl_nil (g_le (xK (xS rfl (xS rfl (xS rfl (xS rfl (xS rfl (xS rfl (xS rfl (xS rfl (xS rfl (xS rfl (xS rfl (Fr.le_refl _))))))))))))) ?_)
        refine g_cond_true rfl ?_
        refine g_seq ?_
        refine g_region ?_
        refine xV rfl rfl rfl (v_assign rfl) ?_
        refine rl_nil (g_le (xK (Fr.le_refl _)) ?_)
        refine g_ret1 Try.func28 rfl rfl ?_
        exact ⟨rfl, hw⟩
  · try with_reducible exact tf_elim g1_2
    all_goals
      try replace g1_2 := of_decide_eq_false g1_2
      try (exfalso; omega)
      all_goals
        refine rl_vg (met_on rfl rfl rfl rfl) rfl rfl (S := fun _ => True) trivial (v_move rfl) ?_
        refine rl_vg (met_on rfl rfl rfl rfl) rfl rfl (S := fun _ => True) trivial (v_move rfl) ?_
        refine rl_vg (met_on rfl rfl rfl rfl) rfl rfl (S := fun _ => True) trivial (v_nilCheck rfl) ?_
        refine rl_vg (met_on rfl rfl rfl rfl) rfl rfl (S := fun _ => True) trivial (v_fieldAddr0 T.fld_47_2_2 rfl) ?_
        refine rl_vg (met_on rfl rfl rfl rfl) rfl rfl (by exact sat_cell hw (by (repeat first | with_reducible exact xH | apply xT); first | done | fail) rfl) (v_load T.scal_45 rfl) ?_
        refine rl_vg (met_on rfl rfl rfl rfl) rfl rfl (S := fun _ => True) trivial (v_lenSlice T.sl_45_104_3 rfl) ?_
        refine rl_vg (met_on rfl rfl rfl rfl) rfl rfl (S := fun _ => True) trivial (v_geqF rfl rfl (by omega)) ?_
        refine xV rfl rfl rfl (v_pick_false rfl rfl) ?_
        refine rl_nil (g_le (xK (xS rfl (xS rfl (xS rfl (xS rfl (xS rfl (xS rfl (xS rfl (xS rfl (xS rfl (xS rfl (xS rfl (Fr.le_refl _))))))))))))) ?_)
        refine g_cond rfl (fun h1 => ?_) (fun h1 => ?_)
        · try with_reducible exact ft_elim h1
          all_goals
            try replace h1 := of_decide_eq_true h1
            try (exfalso; omega)
            all_goals
              refine g_seq ?_
              refine g_region ?_
              refine xV rfl rfl rfl (v_assign rfl) ?_
              refine rl_nil (g_le (xK (Fr.le_refl _)) ?_)
              refine g_ret1 Try.func28 rfl rfl ?_
              exact ⟨rfl, hw⟩
        · try with_reducible exact tf_elim h1
          all_goals
            try replace h1 := of_decide_eq_false h1
            try (exfalso; omega)
            all_goals
              refine g_skip (g_seq ?_)
              refine g_region ?_
              refine xV rfl rfl rfl (v_move rfl) ?_
              refine xV rfl rfl rfl (v_nilCheck rfl) ?_
              refine xV rfl rfl rfl (v_fieldAddr0 T.fld_47_2_2 rfl) ?_
              refine rl_v rfl rfl rfl (by exact sat_cell hw (by (repeat first | with_reducible exact xH | apply xT); first | done | fail) rfl) (v_load T.scal_45 rfl) ?_
              refine xV rfl rfl rfl (v_move rfl) ?_
              refine xV rfl rfl rfl (v_indexAddr T.sl_45_104_3 rfl rfl (by omega) (by omega)) ?_
              refine xV rfl rfl rfl (v_fieldAddr T.fld_104_0_0 rfl) ?_
              refine rl_v rfl rfl rfl (by exact own_at0 hw (by (repeat first | with_reducible exact xH | apply xT); first | done | fail) (by assumption) rfl) (v_load T.scal_3 rfl) ?_
              refine xV rfl rfl rfl (v_assign rfl) ?_
              refine rl_nil (g_le (xK (xS rfl (xS rfl (xS rfl (xS rfl (xS rfl (xS rfl (xS rfl (xS rfl (Fr.le_refl _)))))))))) ?_)
              refine g_ret1 Try.func28 rfl rfl ?_
              exact ⟨rfl, hw.xQ⟩
def abc : ByteArray := ⟨#[97, 98, 99]⟩
def de : ByteArray := ⟨#[100, 101]⟩
def md1 : Md := ⟨4, [(ByteArray.empty.extract 0 0) ++ abc, ByteArray.empty, ByteArray.empty], [(0, 0, abc)], 3⟩
theorem awk1 : appL 0 (newSegs 3) (newMd 4 3) ⟨false, 0, 0⟩ abc = ⟨(0, 0, 3), 0, 0, [⟨3, 3, 0⟩, ⟨1, 0, 0⟩, ⟨1, 0, 0⟩], md1, ⟨false, 0, 1⟩⟩ := by rfl
def md2 : Md := ⟨4, [(ByteArray.empty.extract 0 0) ++ abc, (ByteArray.empty.extract 0 0) ++ de, ByteArray.empty], [(0, 0, abc), (1, 0, de)], 5⟩
theorem awk2 : appL 0 [⟨3, 3, 0⟩, ⟨1, 0, 0⟩, ⟨1, 0, 0⟩] md1 ⟨false, 0, 1⟩ de = ⟨(1, 0, 2), 0, 1, [⟨2, 3, 0⟩, ⟨3, 2, 0⟩, ⟨1, 0, 0⟩], md2, ⟨false, 0, 2⟩⟩ := by rfl
set_option maxHeartbeats 1000000 in
theorem awake_calls {E : Env} {w : World} {L : List As} (hw : Sat E w L) :
    Calls Try.prog 19 #[] w fun e w' => e = .returned (.bool true) ∧ Sat E w' L := by
  have I0 := new_LgI (size := 4) (n := 3) (by omega) (by omega) (by omega) (by omega)
  refine calls_of_g (n := 63) Try.func19 rfl rfl rfl ?_
  change G _ _ _ _ _ [] _
  refine g_seq ?_
  refine g_region ?_
  refine xV rfl rfl rfl (v_assign rfl) ?_
  refine rl_nil (g_le (xK (Fr.le_refl _)) ?_)
  refine g_seq ?_
  refine g_region ?_
  refine rl_k rfl (k_callf Try.func21 rfl rfl rfl rfl ?_)
  refine Calls.mono (fresh_calls 3 4 (by omega) (by omega) (by omega) (by omega) hw) ?_
  rintro _ w ⟨l, m, p, b, c, rfl, hw⟩
  refine ⟨_, rfl, ?_⟩
  refine xV rfl rfl rfl (v_assign rfl) ?_
  refine rl_nil (g_le (xK (xS rfl (Fr.le_refl _))) ?_)
  refine g_seq (g_seq ?_)
  refine g_region ?_
  refine xV rfl rfl rfl (v_move rfl) ?_
  refine xV rfl rfl rfl (v_eqlNil T.ptr_36 rfl rfl) ?_
  refine rl_nil (g_le (xK (xS rfl (Fr.le_refl _))) ?_)
  refine g_cond_false rfl ?_
  refine g_skip (g_seq ?_)
  refine g_region ?_
  refine xV rfl rfl rfl (v_move rfl) ?_
  refine rl_k rfl (k_callf Try.func22 rfl rfl rfl rfl ?_)
  have hw : Sat E w (pt l (.cells [Value.pointer (some ⟨m, 0, none⟩), .int .i64 0, .slice (some ⟨b, 0, none⟩) ((newSegs 3) : List Sg).length c].toArray 47 (0, 0)) :: OwnSl 104 3 (.slice (some ⟨b, 0, none⟩) ((newSegs 3)).length c) ((newSegs 3)).length (((newSegs 3)).flatMap Sg.cells) :: MdAt m p (newMd 4 3) :: PwAt p ⟨false, 0, 0⟩ :: L) := hw
  refine Calls.mono (append_calls abc I0.len ⟨I0.o0, I0.o1⟩ I0.us I0.pok (by simp [newMd]) hw) ?_
  rw [awk1]
  rintro _ w ⟨rfl, hw⟩
  refine ⟨_, rfl, ?_⟩
  refine xV rfl rfl rfl (v_move rfl) ?_
  refine xV rfl rfl rfl (v_extract rfl rfl) ?_
  refine xV rfl rfl rfl (v_extract rfl rfl) ?_
  refine rl_k rfl (k_alloc hw T.zero_58 rfl rfl (fun bk4_5 w hw => ?_))
  refine rl_k rfl (k_storeWhole hw T.agg_58_3 rfl rfl (by simp [Value.oneCell']) rfl (by (repeat first | with_reducible exact xH | apply xT); first | done | fail) rfl (fun w hw => ?_))
  refine xV rfl rfl rfl (v_assign rfl) ?_
  refine rl_nil (g_le (xK (xK (xS rfl (xS rfl (xS rfl (xS rfl (xS rfl (Fr.le_refl _)))))))) ?_)
  refine g_seq ?_
  refine g_region ?_
  refine xV rfl rfl rfl (v_move rfl) ?_
  refine rl_k rfl (k_callf Try.func22 rfl rfl rfl rfl ?_)
  refine Calls.mono (append_calls (l := l) (m := m) (p := p) (b := b) (c := c) (o := 0) (ss := [⟨3, 3, 0⟩, ⟨1, 0, 0⟩, ⟨1, 0, 0⟩]) (md := md1) (pw := ⟨false, 0, 1⟩) de rfl (by decide) (by simp [md1]) ⟨by simp, by simp, rfl⟩ (by simp [md1]) (hw.xQ)) ?_
  rw [awk2]
  rintro _ w ⟨rfl, hw⟩
  refine ⟨_, rfl, ?_⟩
  refine xV rfl rfl rfl (v_move rfl) ?_
  refine xV rfl rfl rfl (v_extract rfl rfl) ?_
  refine xV rfl rfl rfl (v_extract rfl rfl) ?_
  refine rl_k rfl (k_alloc hw T.zero_58 rfl rfl (fun bk5_5 w hw => ?_))
  refine rl_k rfl (k_storeWhole hw T.agg_58_3 rfl rfl (by simp [Value.oneCell']) rfl (by (repeat first | with_reducible exact xH | apply xT); first | done | fail) rfl (fun w hw => ?_))
  refine xV rfl rfl rfl (v_assign rfl) ?_
  refine rl_nil (g_le (xK (xK (xS rfl (xS rfl (xS rfl (xS rfl (xS rfl (Fr.le_refl _)))))))) ?_)
  refine g_seq ?_
  refine g_region ?_
  refine xV rfl rfl rfl (v_move rfl) ?_
  refine rl_k rfl (k_callf Try.func24 rfl rfl rfl rfl ?_)
  refine Calls.mono (open_calls (l := l) (m := m) (b := b) (c := c) (o := 1) (ss := [⟨2, 3, 0⟩, ⟨3, 2, 0⟩, ⟨1, 0, 0⟩]) (by decide) (by decide) (hw.xQ)) ?_
  rintro _ w ⟨rfl, hw⟩
  refine ⟨_, rfl, ?_⟩
  refine xV rfl rfl rfl (v_move rfl) ?_
  refine xV rfl rfl rfl (v_extract rfl rfl) ?_
  refine xV rfl rfl rfl (v_extract rfl rfl) ?_
  refine xV rfl rfl rfl (v_assign rfl) ?_
  refine xV rfl rfl rfl (v_assign rfl) ?_
  refine rl_nil (g_le (xK (xK (xS rfl (xS rfl (xS rfl (xS rfl (xS rfl (Fr.le_refl _)))))))) ?_)
  refine g_seq ?_
  refine g_region ?_
  refine xV rfl rfl rfl (v_move rfl) ?_
  refine xV rfl rfl rfl (v_eqlT rfl rfl (by rfl)) ?_
  refine xV rfl rfl rfl (v_move rfl) ?_
  refine rl_split (s := 28) rfl (fun g7_2 => ?_) (fun g7_2 => ?_)
  · try with_reducible exact ft_elim g7_2
    all_goals
      try replace g7_2 := of_decide_eq_true g7_2
      refine rl_vg (met_on rfl rfl rfl rfl) rfl rfl (S := fun _ => True) trivial (v_move rfl) ?_
      refine rl_vg (met_on rfl rfl rfl rfl) rfl rfl (S := fun _ => True) trivial (v_eqlT rfl rfl (by rfl)) ?_
      refine xV rfl rfl rfl (v_pick_true rfl rfl) ?_
      refine xV rfl rfl rfl (v_move rfl) ?_
      refine rl_split (s := 32) rfl (fun g7_6 => ?_) (fun g7_6 => ?_)
      · try with_reducible exact ft_elim g7_6
        all_goals
          try replace g7_6 := of_decide_eq_true g7_6
          refine rl_vg (met_on rfl rfl rfl rfl) rfl rfl (by exact sat_cells hw (by (repeat first | with_reducible exact xH | apply xT); first | done | fail) ⟨rfl, rfl, rfl, trivial⟩) (v_loadAgg (vs := [_, _, _]) T.agg_58_3 rfl rfl) ?_
          refine rl_vg (met_on rfl rfl rfl rfl) rfl rfl (S := fun _ => True) trivial (v_build rfl (T.build_58_2 ..)) ?_
          refine rl_vg (met_on rfl rfl rfl rfl) rfl rfl (S := fun _ => True) trivial (v_eqlAgg T.cmp_58_iii rfl rfl rfl rfl (by first | rfl)) ?_
          refine xV rfl rfl rfl (v_pick_true rfl rfl) ?_
          refine xV rfl rfl rfl (v_move rfl) ?_
          refine rl_split (s := 37) rfl (fun g7_11 => ?_) (fun g7_11 => ?_)
          · try with_reducible exact ft_elim g7_11
            all_goals
              try replace g7_11 := of_decide_eq_true g7_11
              refine rl_vg (met_on rfl rfl rfl rfl) rfl rfl (by exact sat_cells hw (by (repeat first | with_reducible exact xH | apply xT); first | done | fail) ⟨rfl, rfl, rfl, trivial⟩) (v_loadAgg (vs := [_, _, _]) T.agg_58_3 rfl rfl) ?_
              refine rl_vg (met_on rfl rfl rfl rfl) rfl rfl (S := fun _ => True) trivial (v_build rfl (T.build_58_0_2 ..)) ?_
              refine rl_vg (met_on rfl rfl rfl rfl) rfl rfl (S := fun _ => True) trivial (v_eqlAgg T.cmp_58_iii rfl rfl rfl rfl (by first | rfl)) ?_
              refine xV rfl rfl rfl (v_pick_true rfl rfl) ?_
              refine xV rfl rfl rfl (v_move rfl) ?_
              refine rl_split (s := 42) rfl (fun g7_16 => ?_) (fun g7_16 => ?_)
              · try with_reducible exact ft_elim g7_16
                all_goals
                  try replace g7_16 := of_decide_eq_true g7_16
                  refine rl_vg (met_on rfl rfl rfl rfl) rfl rfl (S := fun _ => True) trivial (v_move rfl) ?_
                  refine rl_vg (met_on rfl rfl rfl rfl) rfl rfl (S := fun _ => True) trivial (v_eqlT rfl rfl (by omega)) ?_
                  refine xV rfl rfl rfl (v_pick_true rfl rfl) ?_
                  refine xV rfl rfl rfl (v_move rfl) ?_
                  refine rl_split (s := 46) rfl (fun g7_20 => ?_) (fun g7_20 => ?_)
                  · try with_reducible exact ft_elim g7_20
                    all_goals
                      try replace g7_20 := of_decide_eq_true g7_20
                      refine rl_vg (met_on rfl rfl rfl rfl) rfl rfl (S := fun _ => True) trivial (v_move rfl) ?_
                      refine rl_vg (met_on rfl rfl rfl rfl) rfl rfl (S := fun _ => True) trivial (v_eqlT rfl rfl (by rfl)) ?_
                      refine xV rfl rfl rfl (v_pick_true rfl rfl) ?_
                      refine xV rfl rfl rfl (v_move rfl) ?_
                      refine rl_split (s := 50) rfl (fun g7_24 => ?_) (fun g7_24 => ?_)
                      · try with_reducible exact ft_elim g7_24
                        all_goals
                          try replace g7_24 := of_decide_eq_true g7_24
                          refine rl_vg (met_on rfl rfl rfl rfl) rfl rfl (S := fun _ => True) trivial (v_move rfl) ?_
                          refine rl_kg (met_on rfl rfl rfl rfl) (k_callf Try.func28 rfl rfl rfl rfl ?_)
                          refine Calls.mono (kind_calls (l := l) (m := m) (b := b) (c := c) (o := 1) (ss := [⟨2, 3, 0⟩, ⟨3, 2, 0⟩, ⟨1, 0, 0⟩]) 0 (by decide) (by decide) (hw.xQ)) ?_
                          rintro _ w ⟨rfl, hw⟩
                          refine ⟨_, rfl, ?_⟩
                          refine rl_vg (met_on rfl rfl rfl rfl) rfl rfl (S := fun _ => True) trivial (v_eqlT rfl rfl (by rfl)) ?_
                          refine xV rfl rfl rfl (v_pick_true rfl rfl) ?_
                          refine xV rfl rfl rfl (v_move rfl) ?_
                          refine rl_split (s := 55) rfl (fun g7_29 => ?_) (fun g7_29 => ?_)
                          · try with_reducible exact ft_elim g7_29
                            all_goals
                              try replace g7_29 := of_decide_eq_true g7_29
                              refine rl_vg (met_on rfl rfl rfl rfl) rfl rfl (S := fun _ => True) trivial (v_move rfl) ?_
                              refine rl_vg (met_on rfl rfl rfl rfl) rfl rfl (S := fun _ => True) trivial (v_nilCheck rfl) ?_
                              refine rl_vg (met_on rfl rfl rfl rfl) rfl rfl (S := fun _ => True) trivial (v_fieldAddr0 T.fld_47_0_0 rfl) ?_
                              refine rl_vg (met_on rfl rfl rfl rfl) rfl rfl (by exact sat_cell hw (by (repeat first | with_reducible exact xH | apply xT); first | done | fail) rfl) (v_load T.scal_24 rfl) ?_
                              refine rl_kg (met_on rfl rfl rfl rfl) (k_callf Try.func25 rfl rfl rfl rfl ?_)
                              refine Calls.mono (mcount_calls m p md2 (hw.xP)) ?_
                              rintro _ w ⟨rfl, hw⟩
                              refine ⟨_, rfl, ?_⟩
                              refine rl_vg (met_on rfl rfl rfl rfl) rfl rfl (S := fun _ => True) trivial (v_eqlT rfl rfl (by rfl)) ?_
                              refine xV rfl rfl rfl (v_pick_true rfl rfl) ?_
                              refine xV rfl rfl rfl (v_assign rfl) ?_
                              refine rl_nil (g_le (xK (xS rfl (xS rfl (xS rfl (xS rfl (xS rfl (xS rfl (xS rfl (xS rfl (xS rfl (xS rfl (xS rfl (xS rfl (xS rfl (xS rfl (xS rfl (xS rfl (xS rfl (xS rfl (xS rfl (xS rfl (xS rfl (xS rfl (xS rfl (xS rfl (xS rfl (xS rfl (xS rfl (xS rfl (xS rfl (xS rfl (xS rfl (xS rfl (xS rfl (xS rfl (xS rfl (xS rfl (xS rfl (xS rfl (xS rfl (xS rfl (xS rfl (xS rfl (xS rfl (xS rfl (Fr.le_refl _)))))))))))))))))))))))))))))))))))))))))))))) ?_)
                              refine g_ret1 Try.func19 rfl rfl ?_
                              refine ⟨?_, hw.xQ⟩
                              first | rfl | simp [md2]
                          · try with_reducible exact tf_elim g7_29
                            all_goals
                              try replace g7_29 := of_decide_eq_false g7_29
                              simp [sgAt] at g7_29
                      · try with_reducible exact tf_elim g7_24
                        all_goals
                          try replace g7_24 := of_decide_eq_false g7_24
                          simp [sgAt] at g7_24
                  · try with_reducible exact tf_elim g7_20
                    all_goals
                      try replace g7_20 := of_decide_eq_false g7_20
                      simp at g7_20
              · try with_reducible exact tf_elim g7_16
                all_goals
                  try replace g7_16 := of_decide_eq_false g7_16
                  simp at g7_16
          · try with_reducible exact tf_elim g7_11
            all_goals
              try replace g7_11 := of_decide_eq_false g7_11
              simp at g7_11
      · try with_reducible exact tf_elim g7_6
        all_goals
          try replace g7_6 := of_decide_eq_false g7_6
          simp at g7_6
  · try with_reducible exact tf_elim g7_2
    all_goals
      try replace g7_2 := of_decide_eq_false g7_2
      simp at g7_2
end Go.Proofs.Ytipdklbedpkobaa
