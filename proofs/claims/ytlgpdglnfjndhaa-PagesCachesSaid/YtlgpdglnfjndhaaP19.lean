/-
  Pages on a log (layer 16): made by the laws; what holds of them while they are written.
-/
import Derived.Test.YtlgpdglnfjndhaaP18
import Derived.Test.YtlgpdglnfjndhaaS14x
namespace Go.Proofs.Ytlgpdglnfjndhaa
set_option maxRecDepth 8000
set_option linter.unusedSimpArgs false
set_option linter.unusedVariables false
open Go Xe Go.Lib
theorem ro0 {E : Env} {w : World} {L : List As} (h : Sat E w L) : Sat E w (RO (fun _ => none) :: L) := h.emp.imp fun h he => funext he
def segB (q : Qt) : Int := max 1 q.segB
def roomC (q : Qt) : Int := min (max q.ca 0) 32
def newS (q : Qt) (n : Nat) (l : List Int) : PS := ⟨0, newSegs n, newMd (segB q) n, ⟨false, 0, 0⟩, l, 0, ⟨roomC q, [], 0, 0⟩⟩
theorem segB_bounds (q : Qt) : 1 ≤ segB q ∧ segB q ≤ 8000 := by
  have := q.pageB_bounds; unfold segB Qt.segB; omega
theorem roomC_bounds (q : Qt) : 0 ≤ roomC q ∧ roomC q ≤ 32 := by unfold roomC; omega
theorem ord_f6_r1_P19 : orderOfB Try.f6 1 [3, 5] (.a 1 (.v 2 (.k 0 (.k 3 (.k 4 (.k 5 (.k 6 (.a 7 (.a 8 (.k 9 (.k 10 .done))))))))))) = true := by kernel_rfl
theorem ord_f6_r6_P19 : orderOfB Try.f6 6 [5] (.a 1 (.a 3 (.a 4 (.v 0 (.k 2 (.k 5 (.k 6 (.a 7 (.a 8 (.k 9 (.k 10 .done))))))))))) = true := by kernel_rfl
set_option maxHeartbeats 2000000 in
theorem made_calls {E : Env} {w : World} {L : List As} {g : Hp} {q : Qt} {n : Int} {a : Option Addr} {nn kk : Nat} {xs : List Int} (hq : q.ok) (h1 : 1 ≤ n) (h2 : n ≤ 4096) (hv : rdSl 8 1 (rdInt .u64) g [.slice a nn kk] xs) (hn : nn ≤ 100000) (hw : Sat E w (RO g :: L)) :
    Calls Try.prog 6 #[q.v, .int .i64 n, .slice a nn kk] w fun e w' => ∃ pp, e = .returned (.pointer (some ⟨pp, 0, none⟩)) ∧ Sat E w' (PgA pp q (newS q n.toNat xs) :: RO g :: L) := by
  have hsb := segB_bounds q
  have hl9 : (List.replicate n.toNat ByteArray.empty).length = n.toNat := List.length_replicate
  refine calls_of_g (n := 59) Try.func6 rfl rfl rfl ?_
  change G _ _ _ _ _ [(0, _), (1, _), (2, _)] _
  refine g_seq ?_
  refine g_region ?_
  refine rl_k rfl (k_box hw rfl rfl rfl (fun bk0_0 w hw => ?_))
  refine xV rfl rfl rfl (v_assign rfl) ?_
  refine rl_nil (g_le (xK (xK (Fr.le_refl _))) ?_)
  refine g_seq ?_
  refine g_drawR ord_f6_r1_P19 (by kernel_rfl) T.mixed hw (fun w hw => ?_)
  refine rs_a 1 rfl rfl rfl rfl (v_move rfl) ?_
  refine rs_v 2 rfl rfl rfl rfl (OpV.mono (v_loadAgg (vs := [_, _, _, _, _, _, _]) T.agg_23_7 rfl rfl) (fun w hw => by exact sat_cells hw (by (repeat first | with_reducible exact xH | apply xT); first | done | fail) ⟨rfl, rfl, rfl, rfl, rfl, rfl, rfl, trivial⟩)) (by exact hw) ?_
  refine rs_k 0 rfl rfl (k_callf Try.func20 rfl rfl rfl rfl ?_)
  refine Calls.mono (new_calls hw) ?_
  rintro _ w ⟨p, rfl, hw⟩
  refine ⟨_, rfl, ?_⟩
  refine ⟨fun _ => (by exact Sat.sub hw (by (repeat (first | with_reducible exact Sub.refl _ | exact Sub.nil _ | (apply Sub.cons; focus ((repeat (first | with_reducible exact Pick.here _ | apply Pick.there)); (first | done | fail))) | with_reducible apply Sub.drop)); first | done | fail)), ?_⟩
  refine rs_k 3 rfl rfl (k_callf Try.func21 rfl rfl rfl rfl ?_)
  refine Calls.mono (rsegB_calls q (hw.xQ)) ?_
  rintro _ w ⟨rfl, hw⟩
  refine ⟨_, rfl, ?_⟩
  refine ⟨fun hn => absurd (by decide) hn, ?_⟩
  refine rs_kv 4 rfl rfl rfl rfl (S' := fun _ => True) trivial (v_max rfl rfl) ?_
  refine rs_k 5 rfl rfl (k_callf Try.func19 rfl rfl rfl rfl ?_)
  rw [show max 1 q.segB = segB q from rfl]
  refine Calls.mono (mnew_calls p n (segB q) h1 h2 hsb.1 (by omega) hw) ?_
  rintro _ w ⟨m, rfl, hw⟩
  refine ⟨_, rfl, ?_⟩
  refine ⟨fun hn => absurd (by decide) hn, ?_⟩
  refine rs_kv 6 rfl rfl rfl rfl (S' := fun _ => True) trivial (v_move rfl) ?_
  refine rs_a 7 rfl rfl rfl rfl (v_extract rfl rfl) ?_
  refine rs_a 8 rfl rfl rfl rfl (v_extract rfl rfl) ?_
  refine rs_kv 9 rfl rfl rfl rfl (S' := fun _ => True) trivial (v_assign rfl) ?_
  refine rs_kv 10 rfl rfl rfl rfl (S' := fun _ => True) trivial (v_assign rfl) ?_
  refine rs_done (g_le (xK (xK (xS rfl (xS rfl (xS rfl (xS rfl (xS rfl (xS rfl (xS rfl (xS rfl (xS rfl (Fr.le_refl _)))))))))))) ?_)
  refine g_seq ?_
  refine g_region ?_
  refine xV rfl rfl rfl (v_fieldAddr0 T.fld_23_6_6 rfl) ?_
  refine rl_v rfl rfl rfl (by exact sat_cell hw (by (repeat first | with_reducible exact xH | apply xT); first | done | fail) rfl) (v_load T.scal_3 rfl) ?_
  refine xV rfl rfl rfl (v_max rfl rfl) ?_
  refine xV rfl rfl rfl (v_min rfl rfl) ?_
  refine rl_k rfl (k_callf Try.func22 rfl rfl rfl rfl ?_)
  rw [show min (max q.ca 0) 32 = roomC q from rfl]
  refine Calls.mono (cnew_calls (roomC q) hw) ?_
  rintro _ w ⟨hy, _⟩
  obtain ⟨c, rfl, hw⟩ := hy (roomC_bounds q)
  refine ⟨_, rfl, ?_⟩
  refine xV rfl rfl rfl (v_move rfl) ?_
  refine xV rfl rfl rfl (v_extract rfl rfl) ?_
  refine xV rfl rfl rfl (v_extract rfl rfl) ?_
  refine xV rfl rfl rfl (v_assign rfl) ?_
  refine xV rfl rfl rfl (v_assign rfl) ?_
  refine rl_nil (g_le (xK (xK (xS rfl (xS rfl (xS rfl (xS rfl (xS rfl (xS rfl (xS rfl (xS rfl (Fr.le_refl _))))))))))) ?_)
  refine g_seq ?_
  refine g_region ?_
  refine xV rfl rfl rfl (v_move rfl) ?_
  refine rl_k rfl (k_callf Try.func23 rfl rfl rfl rfl ?_)
  refine Calls.mono (dnew_calls hv hn (hw.xQ)) ?_
  rintro _ w ⟨d, dv, rfl, hw⟩
  refine ⟨_, rfl, ?_⟩
  refine xV rfl rfl rfl (v_move rfl) ?_
  refine xV rfl rfl rfl (v_extract rfl rfl) ?_
  refine xV rfl rfl rfl (v_extract rfl rfl) ?_
  refine xV rfl rfl rfl (v_assign rfl) ?_
  refine xV rfl rfl rfl (v_assign rfl) ?_
  refine rl_nil (g_le (xK (xK (xS rfl (xS rfl (xS rfl (xS rfl (xS rfl (Fr.le_refl _)))))))) ?_)
  refine g_seq (g_seq ?_)
  refine g_region ?_
  refine xV rfl rfl rfl (v_move rfl) ?_
  refine xV rfl rfl rfl (v_neqF rfl rfl (by omega)) ?_
  refine xV rfl rfl rfl (v_move rfl) ?_
  refine rl_split (s := 39) rfl (fun g4_2 => ?_) (fun g4_2 => ?_)
  · try with_reducible exact ft_elim g4_2
    all_goals
      try replace g4_2 := of_decide_eq_true g4_2
      simp at g4_2
  · try with_reducible exact tf_elim g4_2
    all_goals
      try replace g4_2 := of_decide_eq_false g4_2
      try (exfalso; omega)
      all_goals
        refine rl_vg (met_on rfl rfl rfl rfl) rfl rfl (S := fun _ => True) trivial (v_move rfl) ?_
        refine rl_vg (met_on rfl rfl rfl rfl) rfl rfl (S := fun _ => True) trivial (v_neqF rfl rfl (by omega)) ?_
        refine xV rfl rfl rfl (v_pick_false rfl rfl) ?_
        refine xV rfl rfl rfl (v_move rfl) ?_
        refine rl_split (s := 43) rfl (fun g4_6 => ?_) (fun g4_6 => ?_)
        · try with_reducible exact ft_elim g4_6
          all_goals
            try replace g4_6 := of_decide_eq_true g4_6
            simp at g4_6
        · try with_reducible exact tf_elim g4_6
          all_goals
            try replace g4_6 := of_decide_eq_false g4_6
            try (exfalso; omega)
            all_goals
              refine rl_vg (met_on rfl rfl rfl rfl) rfl rfl (S := fun _ => True) trivial (v_move rfl) ?_
              refine rl_vg (met_on rfl rfl rfl rfl) rfl rfl (S := fun _ => True) trivial (v_neqF rfl rfl (by omega)) ?_
              refine xV rfl rfl rfl (v_pick_false rfl rfl) ?_
              refine rl_nil (g_le (xK (xS rfl (xS rfl (xS rfl (xS rfl (xS rfl (xS rfl (xS rfl (xS rfl (xS rfl (xS rfl (xS rfl (Fr.le_refl _))))))))))))) ?_)
              refine g_cond_false rfl ?_
              refine g_skip (g_seq ?_)
              refine g_drawR ord_f6_r6_P19 (by kernel_rfl) T.mixed hw (fun w hw => ?_)
              refine rs_a 1 rfl rfl rfl rfl (v_move rfl) ?_
              refine rs_a 3 rfl rfl rfl rfl (v_move rfl) ?_
              refine rs_a 4 rfl rfl rfl rfl (v_move rfl) ?_
              refine rs_v 0 rfl rfl rfl rfl (OpV.mono (v_loadAgg (vs := [_, _, _, _, _, _, _]) T.agg_23_7 rfl rfl) (fun w hw => by exact sat_cells hw (by (repeat first | with_reducible exact xH | apply xT); first | done | fail) ⟨rfl, rfl, rfl, rfl, rfl, rfl, rfl, trivial⟩)) (by exact hw) ?_
              refine rs_k 2 rfl rfl (k_callf Try.func25 rfl rfl rfl rfl ?_)
              refine Calls.mono (snew_calls m p _ (hw.xP (A := MdAt m p ⟨segB q, List.replicate n.toNat ByteArray.empty, [], 0⟩))) ?_
              rintro _ w ⟨l, b, k, rfl, hw⟩
              refine ⟨_, rfl, ?_⟩
              refine ⟨fun _ => (by exact Sat.sub hw (by (repeat (first | with_reducible exact Sub.refl _ | exact Sub.nil _ | (apply Sub.cons; focus ((repeat (first | with_reducible exact Pick.here _ | apply Pick.there)); (first | done | fail))) | with_reducible apply Sub.drop)); first | done | fail)), ?_⟩
              refine rs_k 5 rfl rfl (k_callf Try.func24 rfl rfl rfl rfl ?_)
              refine Calls.mono (pnew_calls q hq l c d (hw.xQ)) ?_
              rintro _ w ⟨pp, rfl, hw⟩
              refine ⟨_, rfl, ?_⟩
              refine ⟨fun hn => absurd (by decide) hn, ?_⟩
              refine rs_kv 6 rfl rfl rfl rfl (S' := fun _ => True) trivial (v_move rfl) ?_
              refine rs_a 7 rfl rfl rfl rfl (v_extract rfl rfl) ?_
              refine rs_a 8 rfl rfl rfl rfl (v_extract rfl rfl) ?_
              refine rs_kv 9 rfl rfl rfl rfl (S' := fun _ => True) trivial (v_assign rfl) ?_
              refine rs_kv 10 rfl rfl rfl rfl (S' := fun _ => True) trivial (v_assign rfl) ?_
              refine rs_done (g_le (xK (xK (xS rfl (xS rfl (xS rfl (xS rfl (xS rfl (xS rfl (xS rfl (xS rfl (xS rfl (Fr.le_refl _)))))))))))) ?_)
              refine g_seq (g_seq ?_)
              refine g_region ?_
              refine xV rfl rfl rfl (v_move rfl) ?_
              refine xV rfl rfl rfl (v_neqF rfl rfl (by omega)) ?_
              refine rl_nil (g_le (xK (xS rfl (Fr.le_refl _))) ?_)
              refine g_cond_false rfl ?_
              refine g_skip (g_seq ?_)
              refine g_region ?_
              refine xV rfl rfl rfl (v_move rfl) ?_
              refine xV rfl rfl rfl (v_assign rfl) ?_
              refine rl_nil (g_le (xK (xS rfl (Fr.le_refl _))) ?_)
              refine g_ret1 Try.func6 rfl rfl ?_
              rw [show (⟨segB q, List.replicate n.toNat ByteArray.empty, [], 0⟩ : Md).segs.length = n.toNat from hl9] at hw
              refine ⟨pp, rfl, pg_close ⟨l, c, d, m, p, b, k, .slice none 0 0, dv, []⟩ .nil (gc := fun _ => none) ?_⟩
              dsimp only [newS, newMd]
              exact (ro0 hw).xQ
set_option maxHeartbeats 2000000 in
theorem madeBad_calls {E : Env} {w : World} {L : List As} {g : Hp} {q : Qt} {n : Int} {a : Option Addr} {nn kk : Nat} {xs : List Int} (hq : ¬ q.ok) (h1 : 1 ≤ n) (h2 : n ≤ 4096) (hv : rdSl 8 1 (rdInt .u64) g [.slice a nn kk] xs) (hn : nn ≤ 100000) (hw : Sat E w (RO g :: L)) :
    Calls Try.prog 6 #[q.v, .int .i64 n, .slice a nn kk] w fun e w' => e = .returned (.pointer none) ∧ Sat E w' (RO g :: L) := by
  have hsb := segB_bounds q
  refine calls_of_g (n := 59) Try.func6 rfl rfl rfl ?_
  change G _ _ _ _ _ [(0, _), (1, _), (2, _)] _
  refine g_seq ?_
  refine g_region ?_
  refine rl_k rfl (k_box hw rfl rfl rfl (fun bk0_0 w hw => ?_))
  refine xV rfl rfl rfl (v_assign rfl) ?_
  refine rl_nil (g_le (xK (xK (Fr.le_refl _))) ?_)
  refine g_seq ?_
  refine g_drawR ord_f6_r1_P19 (by kernel_rfl) T.mixed hw (fun w hw => ?_)
  refine rs_a 1 rfl rfl rfl rfl (v_move rfl) ?_
  refine rs_v 2 rfl rfl rfl rfl (OpV.mono (v_loadAgg (vs := [_, _, _, _, _, _, _]) T.agg_23_7 rfl rfl) (fun w hw => by exact sat_cells hw (by (repeat first | with_reducible exact xH | apply xT); first | done | fail) ⟨rfl, rfl, rfl, rfl, rfl, rfl, rfl, trivial⟩)) (by exact hw) ?_
  refine rs_k 0 rfl rfl (k_callf Try.func20 rfl rfl rfl rfl ?_)
  refine Calls.mono (new_calls hw) ?_
  rintro _ w ⟨p, rfl, hw⟩
  refine ⟨_, rfl, ?_⟩
  refine ⟨fun _ => (by exact Sat.sub hw (by (repeat (first | with_reducible exact Sub.refl _ | exact Sub.nil _ | (apply Sub.cons; focus ((repeat (first | with_reducible exact Pick.here _ | apply Pick.there)); (first | done | fail))) | with_reducible apply Sub.drop)); first | done | fail)), ?_⟩
  refine rs_k 3 rfl rfl (k_callf Try.func21 rfl rfl rfl rfl ?_)
  refine Calls.mono (rsegB_calls q (hw.xQ)) ?_
  rintro _ w ⟨rfl, hw⟩
  refine ⟨_, rfl, ?_⟩
  refine ⟨fun hn => absurd (by decide) hn, ?_⟩
  refine rs_kv 4 rfl rfl rfl rfl (S' := fun _ => True) trivial (v_max rfl rfl) ?_
  refine rs_k 5 rfl rfl (k_callf Try.func19 rfl rfl rfl rfl ?_)
  rw [show max 1 q.segB = segB q from rfl]
  refine Calls.mono (mnew_calls p n (segB q) h1 h2 hsb.1 (by omega) hw) ?_
  rintro _ w ⟨m, rfl, hw⟩
  refine ⟨_, rfl, ?_⟩
  refine ⟨fun hn => absurd (by decide) hn, ?_⟩
  refine rs_kv 6 rfl rfl rfl rfl (S' := fun _ => True) trivial (v_move rfl) ?_
  refine rs_a 7 rfl rfl rfl rfl (v_extract rfl rfl) ?_
  refine rs_a 8 rfl rfl rfl rfl (v_extract rfl rfl) ?_
  refine rs_kv 9 rfl rfl rfl rfl (S' := fun _ => True) trivial (v_assign rfl) ?_
  refine rs_kv 10 rfl rfl rfl rfl (S' := fun _ => True) trivial (v_assign rfl) ?_
  refine rs_done (g_le (xK (xK (xS rfl (xS rfl (xS rfl (xS rfl (xS rfl (xS rfl (xS rfl (xS rfl (xS rfl (Fr.le_refl _)))))))))))) ?_)
  refine g_seq ?_
  refine g_region ?_
  refine xV rfl rfl rfl (v_fieldAddr0 T.fld_23_6_6 rfl) ?_
  refine rl_v rfl rfl rfl (by exact sat_cell hw (by (repeat first | with_reducible exact xH | apply xT); first | done | fail) rfl) (v_load T.scal_3 rfl) ?_
  refine xV rfl rfl rfl (v_max rfl rfl) ?_
  refine xV rfl rfl rfl (v_min rfl rfl) ?_
  refine rl_k rfl (k_callf Try.func22 rfl rfl rfl rfl ?_)
  rw [show min (max q.ca 0) 32 = roomC q from rfl]
  refine Calls.mono (cnew_calls (roomC q) hw) ?_
  rintro _ w ⟨hy, _⟩
  obtain ⟨c, rfl, hw⟩ := hy (roomC_bounds q)
  refine ⟨_, rfl, ?_⟩
  refine xV rfl rfl rfl (v_move rfl) ?_
  refine xV rfl rfl rfl (v_extract rfl rfl) ?_
  refine xV rfl rfl rfl (v_extract rfl rfl) ?_
  refine xV rfl rfl rfl (v_assign rfl) ?_
  refine xV rfl rfl rfl (v_assign rfl) ?_
  refine rl_nil (g_le (xK (xK (xS rfl (xS rfl (xS rfl (xS rfl (xS rfl (xS rfl (xS rfl (xS rfl (Fr.le_refl _))))))))))) ?_)
  refine g_seq ?_
  refine g_region ?_
  refine xV rfl rfl rfl (v_move rfl) ?_
  refine rl_k rfl (k_callf Try.func23 rfl rfl rfl rfl ?_)
  refine Calls.mono (dnew_calls hv hn (hw.xQ)) ?_
  rintro _ w ⟨d, dv, rfl, hw⟩
  refine ⟨_, rfl, ?_⟩
  refine xV rfl rfl rfl (v_move rfl) ?_
  refine xV rfl rfl rfl (v_extract rfl rfl) ?_
  refine xV rfl rfl rfl (v_extract rfl rfl) ?_
  refine xV rfl rfl rfl (v_assign rfl) ?_
  refine xV rfl rfl rfl (v_assign rfl) ?_
  refine rl_nil (g_le (xK (xK (xS rfl (xS rfl (xS rfl (xS rfl (xS rfl (Fr.le_refl _)))))))) ?_)
  refine g_seq (g_seq ?_)
  refine g_region ?_
  refine xV rfl rfl rfl (v_move rfl) ?_
  refine xV rfl rfl rfl (v_neqF rfl rfl (by omega)) ?_
  refine xV rfl rfl rfl (v_move rfl) ?_
  refine rl_split (s := 39) rfl (fun g4_2 => ?_) (fun g4_2 => ?_)
  · try with_reducible exact ft_elim g4_2
    all_goals
      try replace g4_2 := of_decide_eq_true g4_2
      simp at g4_2
  · try with_reducible exact tf_elim g4_2
    all_goals
      try replace g4_2 := of_decide_eq_false g4_2
      try (exfalso; omega)
      all_goals
        refine rl_vg (met_on rfl rfl rfl rfl) rfl rfl (S := fun _ => True) trivial (v_move rfl) ?_
        refine rl_vg (met_on rfl rfl rfl rfl) rfl rfl (S := fun _ => True) trivial (v_neqF rfl rfl (by omega)) ?_
        refine xV rfl rfl rfl (v_pick_false rfl rfl) ?_
        refine xV rfl rfl rfl (v_move rfl) ?_
        refine rl_split (s := 43) rfl (fun g4_6 => ?_) (fun g4_6 => ?_)
        · try with_reducible exact ft_elim g4_6
          all_goals
            try replace g4_6 := of_decide_eq_true g4_6
            simp at g4_6
        · try with_reducible exact tf_elim g4_6
          all_goals
            try replace g4_6 := of_decide_eq_false g4_6
            try (exfalso; omega)
            all_goals
              refine rl_vg (met_on rfl rfl rfl rfl) rfl rfl (S := fun _ => True) trivial (v_move rfl) ?_
              refine rl_vg (met_on rfl rfl rfl rfl) rfl rfl (S := fun _ => True) trivial (v_neqF rfl rfl (by omega)) ?_
              refine xV rfl rfl rfl (v_pick_false rfl rfl) ?_
              refine rl_nil (g_le (xK (xS rfl (xS rfl (xS rfl (xS rfl (xS rfl (xS rfl (xS rfl (xS rfl (xS rfl (xS rfl (xS rfl (Fr.le_refl _))))))))))))) ?_)
              refine g_cond_false rfl ?_
              refine g_skip (g_seq ?_)
              refine g_drawR ord_f6_r6_P19 (by kernel_rfl) T.mixed hw (fun w hw => ?_)
              refine rs_a 1 rfl rfl rfl rfl (v_move rfl) ?_
              refine rs_a 3 rfl rfl rfl rfl (v_move rfl) ?_
              refine rs_a 4 rfl rfl rfl rfl (v_move rfl) ?_
              refine rs_v 0 rfl rfl rfl rfl (OpV.mono (v_loadAgg (vs := [_, _, _, _, _, _, _]) T.agg_23_7 rfl rfl) (fun w hw => by exact sat_cells hw (by (repeat first | with_reducible exact xH | apply xT); first | done | fail) ⟨rfl, rfl, rfl, rfl, rfl, rfl, rfl, trivial⟩)) (by exact hw) ?_
              refine rs_k 2 rfl rfl (k_callf Try.func25 rfl rfl rfl rfl ?_)
              refine Calls.mono (snew_calls m p _ (hw.xP (A := MdAt m p ⟨segB q, List.replicate n.toNat ByteArray.empty, [], 0⟩))) ?_
              rintro _ w ⟨l, b, k, rfl, hw⟩
              refine ⟨_, rfl, ?_⟩
              refine ⟨fun _ => (by exact Sat.sub hw (by (repeat (first | with_reducible exact Sub.refl _ | exact Sub.nil _ | (apply Sub.cons; focus ((repeat (first | with_reducible exact Pick.here _ | apply Pick.there)); (first | done | fail))) | with_reducible apply Sub.drop)); first | done | fail)), ?_⟩
              refine rs_k 5 rfl rfl (k_callf Try.func24 rfl rfl rfl rfl ?_)
              refine Calls.mono (pnewBad_calls q hq _ _ _ (hw.xQ)) ?_
              rintro _ w ⟨rfl, hw⟩
              refine ⟨_, rfl, ?_⟩
              refine ⟨fun hn => absurd (by decide) hn, ?_⟩
              refine rs_kv 6 rfl rfl rfl rfl (S' := fun _ => True) trivial (v_move rfl) ?_
              refine rs_a 7 rfl rfl rfl rfl (v_extract rfl rfl) ?_
              refine rs_a 8 rfl rfl rfl rfl (v_extract rfl rfl) ?_
              refine rs_kv 9 rfl rfl rfl rfl (S' := fun _ => True) trivial (v_assign rfl) ?_
              refine rs_kv 10 rfl rfl rfl rfl (S' := fun _ => True) trivial (v_assign rfl) ?_
              refine rs_done (g_le (xK (xK (xS rfl (xS rfl (xS rfl (xS rfl (xS rfl (xS rfl (xS rfl (xS rfl (xS rfl (Fr.le_refl _)))))))))))) ?_)
              refine g_seq (g_seq ?_)
              refine g_region ?_
              refine xV rfl rfl rfl (v_move rfl) ?_
              refine xV rfl rfl rfl (v_neqT rfl rfl (by omega)) ?_
              refine rl_nil (g_le (xK (xS rfl (Fr.le_refl _))) ?_)
              refine g_cond_true rfl ?_
              refine g_seq ?_
              refine g_region ?_
              refine xV rfl rfl rfl (v_assign rfl) ?_
              refine rl_nil (g_le (xK (Fr.le_refl _)) ?_)
              refine g_ret1 Try.func6 rfl rfl ?_
              exact ⟨rfl, hw.xQ⟩
theorem cut16_calls {E : Env} {w : World} {L : List As} {a : Option Addr} {n c : Nat} {m : Int} (h0 : 0 ≤ m) (hc : n ≤ c) (hw : Sat E w L) :
    Calls Try.prog 7 #[.slice a n c, .int .i64 m] w fun e w' => e = .returned (.slice a (min n m.toNat) c) ∧ Sat E w' L := by
  refine calls_of_g (n := 13) Try.func7 rfl rfl rfl ?_
  change G _ _ _ _ _ [(0, _), (1, _)] _
  refine g_seq ?_
  refine g_region ?_
  refine xV rfl rfl rfl (v_assign rfl) ?_
  refine rl_nil (g_le (xK (Fr.le_refl _)) ?_)
  refine g_seq (g_seq ?_)
  refine g_region ?_
  refine xV rfl rfl rfl (v_move rfl) ?_
  refine xV rfl rfl rfl (v_lenSlice T.sl_24_49_1 rfl) ?_
  refine xV rfl rfl rfl (v_move rfl) ?_
  refine xV rfl rfl rfl (v_gtr rfl rfl) ?_
  refine rl_nil (g_le (xK (xS rfl (xS rfl (xS rfl (Fr.le_refl _))))) ?_)
  refine g_cond rfl (fun h1 => ?_) (fun h1 => ?_)
  · try with_reducible exact ft_elim h1
    all_goals
      try replace h1 := of_decide_eq_true h1
      refine g_seq ?_
      refine g_region ?_
      refine xV rfl rfl rfl (v_move rfl) ?_
      refine xV rfl rfl rfl (v_move rfl) ?_
      refine xV rfl rfl rfl (v_sliceTo T.sl_24_49_1 rfl rfl (by omega) (by omega)) ?_
      refine xV rfl rfl rfl (v_assign rfl) ?_
      refine rl_nil (g_le (xK (xS rfl (xS rfl (xS rfl (Fr.le_refl _))))) ?_)
      refine g_ret1 Try.func7 rfl rfl ?_
      exact ⟨by rw [Nat.min_eq_right (by omega)], hw.xQ⟩
  · try with_reducible exact tf_elim h1
    all_goals
      try replace h1 := of_decide_eq_false h1
      refine g_skip (g_seq ?_)
      refine g_region ?_
      refine xV rfl rfl rfl (v_move rfl) ?_
      refine xV rfl rfl rfl (v_assign rfl) ?_
      refine rl_nil (g_le (xK (xS rfl (Fr.le_refl _))) ?_)
      refine g_ret1 Try.func7 rfl rfl ?_
      exact ⟨by rw [Nat.min_eq_left (by omega)], hw.xQ⟩
/-- What holds of pages that were written m times, in a log of which F0 segments were free. -/
structure PInv (q : Qt) (F0 m : Nat) (S : PS) : Prop where
  lg : LgI (4 * q.pageB) S.o S.ss S.md S.pw.plain
  pw : S.pw.ok
  room : RoomI q.pageB F0 m S.o S.ss
  past : S.md.past.length = m
  ch : S.ch.l.length ≤ 32
  chr : 0 ≤ S.ch.room ∧ S.ch.room ≤ 32 ∧ S.ch.l.length ≤ S.ch.room
  dr : ∀ n ∈ S.list, U64 n
theorem PInv.ok {q : Qt} {F0 m : Nat} {S : PS} (I : PInv q F0 m S) (hm : m ≤ 4000000000) (ht : S.tk ≤ 1000000000) : S.ok :=
  ⟨I.lg.ok, I.lg.len, I.lg.o0, I.lg.o1, I.lg.us, I.pw, by rw [I.past]; exact hm, ht, by have := I.ch; omega, I.dr⟩
theorem pageB_eq {q : Qt} (hq : q.ok) : q.pageB = pageB q ∧ 1 ≤ q.pageB := by
  have h1 := Qt.prod_bounds hq
  have h3 : q.pageB = pageB q := by unfold Qt.pageB; rw [if_pos hq]; rfl
  obtain ⟨_, h2, _⟩ := hq
  rw [h3]; unfold pageB; exact ⟨rfl, by omega⟩
theorem segB_eq {q : Qt} (hq : q.ok) : segB q = 4 * q.pageB := by
  have := (pageB_eq hq).2
  unfold segB Qt.segB; omega
theorem new_PInv {q : Qt} (hq : q.ok) {n : Nat} (h1 : 1 ≤ n) (h2 : n ≤ 4096) {l : List Int} (hl : ∀ x ∈ l, U64 x) : PInv q (n - 1) 0 (newS q n l) := by
  have hb := segB_bounds q
  have he := segB_eq hq
  have hr := roomC_bounds q
  refine ⟨?_, Pw.ok_new, ⟨?_, .inl ?_⟩, rfl, by simp [newS], ⟨hr.1, hr.2, by simp only [newS]; simpa using hr.1⟩, hl⟩
  · have := new_LgI (size := segB q) (n := n) h1 h2 hb.1 (by omega)
    rw [he] at this
    simp only [newS, he]
    exact this
  · simp only [newS]; rw [new_frees]; exact Nat.le_refl _
  · simp only [newS]; rw [new_frees]
theorem wr_pos (t : Tm) : 0 < (wrT t).size := by
  cases t with
  | mk k n b l =>
    rw [wrT, ByteArray.size_append, headT, ByteArray.size_append]
    show 0 < 1 + _ + _
    omega
theorem put_room_le {s : Ch} (r : Rf) (n : Nd) (h : s.l.length ≤ s.room) (h2 : s.room ≤ 32) : (s.put r n).2.l.length ≤ s.room ∧ (s.put r n).2.l.length ≤ 32 := by
  have key : ((s.put r n).2.l.length : Int) ≤ s.room := by
    unfold Ch.put
    have he (i : Nat) (hi : i < s.l.length) : (s.l.eraseIdx i).length + 1 = s.l.length := by rw [List.length_eraseIdx_of_lt hi]; omega
    split
    · rename_i x hx
      have h9 := he _ (List.getElem?_eq_some_iff.1 hx).1
      split
      · simp only [List.length_append, List.length_cons, List.length_nil]; omega
      · split
        · split
          · simpa using h
          · rename_i h3
            have h8 := he _ (idx_at (p := fun h : Hd => decide (h.pins = 0)) (l := s.l) (by omega))
            simp only [List.length_append, List.length_cons, List.length_nil]; omega
        · simp only [List.length_append, List.length_cons, List.length_nil]; omega
    · split
      · simpa using h
      · simp only [List.length_append, List.length_cons, List.length_nil]; omega
  exact ⟨key, by omega⟩
/-- A node that may be is laid down, if the power is on. -/
theorem wr_step {q : Qt} (hq : q.ok) {F0 m : Nat} {S : PS} (I : PInv q F0 m S) {n : Nd} (hn : rightN q n = 0) (hk : keysOk n) (hm : m + 3 < 4 * F0) (ht : S.tk ≤ 1000000000) :
    (S.pw.off = true → S.wr q n = (rf0, 110, { S with tk := S.tk + 1 })) ∧
    (S.pw.off = false → ∃ r S', S.wr q n = (r, 0, S') ∧ PInv q F0 (m + 1) S' ∧ S'.tk = S.tk + 1 ∧ S'.list = S.list ∧ S'.pw = S.pw.spend.2 ∧ r.key = drawI S.list S.tk ∧ S'.ch.room = S.ch.room) := by
  have hsz := size_page (key := drawI S.list S.tk) hn hk (drawI_ok I.dr ht).2
  have hpos := wr_pos (boxT (drawI S.list S.tk) (tmNd n))
  have hpb := pageB_eq hq
  rw [← hpb.1] at hsz
  have hne : wrT (boxT (drawI S.list S.tk) (tmNd n)) ≠ ByteArray.empty := fun h => by rw [h] at hpos; exact absurd hpos (by decide)
  have hrl := I.room.le
  have hfr : 0 < frees S.ss := by omega
  have hp0 : S.pw.plain.plain = S.pw.plain := rfl
  obtain ⟨hb, hR⟩ := room_step I.lg (wrT (boxT (drawI S.list S.tk) (tmNd n))) hne hsz hfr I.room
  obtain ⟨_, hL, hpst, _, _⟩ := app_step I.lg (wrT (boxT (drawI S.list S.tk) (tmNd n))) hne (by omega) hfr
  obtain ⟨hon, hoff, hpp⟩ := app_plain hb
  refine ⟨fun ho => ?_, fun ho => ?_⟩
  · unfold PS.wr PS.app PS.laid
    rw [if_neg (by omega), hoff ho]
    simp
  · have hsp := spend_on ho
    have hwr : S.wr q n = (S.ref (S.app q n), 0, { S.laid (S.app q n) with ch := (S.ch.put (S.ref (S.app q n)) n).2 }) := by
      unfold PS.wr
      rw [if_neg (by omega), if_neg (by unfold PS.app; rw [hon ho]; simp)]
    refine ⟨_, _, hwr, ?_, rfl, rfl, ?_, rfl, (put_facts ..).2.2.2⟩
    · unfold PS.app PS.laid
      rw [hon ho]
      have hpr := put_room_le (S.ref (appL S.o S.ss S.md S.pw (wrT (boxT (drawI S.list S.tk) (tmNd n))))) n I.chr.2.2 I.chr.2.1
      have hpf := (put_facts S.ch (S.ref (appL S.o S.ss S.md S.pw (wrT (boxT (drawI S.list S.tk) (tmNd n))))) n).2.2.2
      rw [hon ho] at hpr hpf
      refine ⟨?_, ?_, hR, ?_, hpr.2, ?_, I.dr⟩
      · simp only
        rw [hsp.2, ← hpp]; exact hL
      · exact Pw.ok_spend I.pw
      · simp only; rw [hpst, I.past]
      · simp only; rw [hpf]; exact ⟨I.chr.1, I.chr.2.1, hpr.1⟩
    · unfold PS.app PS.laid
      rw [hon ho]
end Go.Proofs.Ytlgpdglnfjndhaa
