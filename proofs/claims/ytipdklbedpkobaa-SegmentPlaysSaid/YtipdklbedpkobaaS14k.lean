/-
  The log (layer 14): Settle, Sealed, Live, Kind.
-/
import Derived.Test.YtipdklbedpkobaaS14j
namespace Go.Proofs.Ytipdklbedpkobaa
set_option maxRecDepth 8000
set_option linter.unusedSimpArgs false
set_option linter.unusedVariables false
open Go Xe Go.Lib
def usedS (ss : List Sg) (s : Int) : Int := if (sgAt ss s).kind = 1 then 0 else (sgAt ss s).used
def settled (ss : List Sg) (ps : List Pl) : List Sg := (lived ss ps).map fr
theorem settled_len (ss : List Sg) (ps : List Pl) : (settled ss ps).length = ss.length := by simp [settled, lived_len]
theorem usedS_calls {E : Env} {w : World} {L : List As} {l m b c q : Nat} {o : Int} {ss : List Sg} (hb : ss.length ≤ 4096) (s : Int) (h0 : 0 ≤ s) (h1 : s < ss.length) (hw : Sat E w (pt l (.cells [Value.pointer (some ⟨m, 0, none⟩), .int .i64 o, .slice (some ⟨b, 0, none⟩) (ss : List Sg).length c].toArray 47 (0, 0)) :: OwnSl 104 3 (.slice (some ⟨b, 0, none⟩) (ss).length c) (ss).length ((ss).flatMap Sg.cells) :: pt q (.cells [Value.pointer (some ⟨l, 0, none⟩)].toArray 36 (0, 0)) :: L)) :
    Calls Try.prog 45 #[.int .i64 s, .pointer (some ⟨q, 0, none⟩)] w fun e w' => e = .returned (.int .i64 (usedS ss s)) ∧ Sat E w' (pt l (.cells [Value.pointer (some ⟨m, 0, none⟩), .int .i64 o, .slice (some ⟨b, 0, none⟩) (ss : List Sg).length c].toArray 47 (0, 0)) :: OwnSl 104 3 (.slice (some ⟨b, 0, none⟩) (ss).length c) (ss).length ((ss).flatMap Sg.cells) :: pt q (.cells [Value.pointer (some ⟨l, 0, none⟩)].toArray 36 (0, 0)) :: L) := by
  have hx := sgAt_some h0 h1
  have hsub := subAt_flat (f := Sg.cells) (sz := 3) (fun _ => rfl) hx
  dsimp only [Sg.cells] at hsub
  unfold usedS
  refine calls_of_g (n := 21) Try.func45 rfl rfl rfl ?_
  change G _ _ _ _ _ [(0, _), (1, _)] _
  refine g_seq ?_
  refine g_region ?_
  refine xV rfl rfl rfl (v_assign rfl) ?_
  refine rl_nil (g_le (xK (Fr.le_refl _)) ?_)
  refine g_seq (g_seq ?_)
  refine g_region ?_
  refine rl_v rfl rfl rfl (by exact sat_cell hw (by (repeat first | with_reducible exact xH | apply xT); first | done | fail) rfl) (v_load T.scal_36 rfl) ?_
  refine xV rfl rfl rfl (v_nilCheck rfl) ?_
  refine xV rfl rfl rfl (v_fieldAddr0 T.fld_47_2_2 rfl) ?_
  refine rl_v rfl rfl rfl (by exact sat_cell hw (by (repeat first | with_reducible exact xH | apply xT); first | done | fail) rfl) (v_load T.scal_45 rfl) ?_
  refine xV rfl rfl rfl (v_move rfl) ?_
  refine xV rfl rfl rfl (v_indexAddr T.sl_45_104_3 rfl rfl (by omega) (by omega)) ?_
  refine xV rfl rfl rfl (v_fieldAddr T.fld_104_0_0 rfl) ?_
  refine rl_v rfl rfl rfl (by exact own_at0 hw (by (repeat first | with_reducible exact xH | apply xT); first | done | fail) (by assumption) rfl) (v_load T.scal_3 rfl) ?_
  refine xV rfl rfl rfl (v_eql rfl rfl) ?_
  refine rl_nil (g_le (xK (xS rfl (xS rfl (xS rfl (xS rfl (xS rfl (xS rfl (xS rfl (xS rfl (Fr.le_refl _)))))))))) ?_)
  refine g_cond rfl (fun h1 => ?_) (fun h1 => ?_)
  · try with_reducible exact ft_elim h1
    all_goals
      try replace h1 := of_decide_eq_true h1
      refine g_seq ?_
      refine g_region ?_
      refine xV rfl rfl rfl (v_assign rfl) ?_
      refine rl_nil (g_le (xK (Fr.le_refl _)) ?_)
      refine g_ret1 Try.func45 rfl rfl ?_
      rw [if_pos (by omega)]
      exact ⟨rfl, hw.xQ⟩
  · try with_reducible exact tf_elim h1
    all_goals
      try replace h1 := of_decide_eq_false h1
      refine g_skip (g_seq ?_)
      refine g_region ?_
      refine rl_v rfl rfl rfl (by exact sat_cell hw (by (repeat first | with_reducible exact xH | apply xT); first | done | fail) rfl) (v_load T.scal_36 rfl) ?_
      refine xV rfl rfl rfl (v_nilCheck rfl) ?_
      refine xV rfl rfl rfl (v_fieldAddr0 T.fld_47_2_2 rfl) ?_
      refine rl_v rfl rfl rfl (by exact sat_cell hw (by (repeat first | with_reducible exact xH | apply xT); first | done | fail) rfl) (v_load T.scal_45 rfl) ?_
      refine xV rfl rfl rfl (v_move rfl) ?_
      refine xV rfl rfl rfl (v_indexAddr T.sl_45_104_3 rfl rfl (by omega) (by omega)) ?_
      refine xV rfl rfl rfl (v_fieldAddr T.fld_104_1_1 rfl) ?_
      refine rl_v rfl rfl rfl (by exact own_at hw (by (repeat first | with_reducible exact xH | apply xT); first | done | fail) (by assumption) rfl) (v_load T.scal_3 rfl) ?_
      refine xV rfl rfl rfl (v_assign rfl) ?_
      refine rl_nil (g_le (xK (xS rfl (xS rfl (xS rfl (xS rfl (xS rfl (xS rfl (xS rfl (xS rfl (Fr.le_refl _)))))))))) ?_)
      refine g_ret1 Try.func45 rfl rfl ?_
      rw [if_neg (by omega)]
      exact ⟨rfl, hw.xQ⟩
theorem usedS_bound {ss : List Sg} (hu : ∀ x ∈ ss, 0 ≤ x.used ∧ x.used ≤ 1048576) (s : Int) (h0 : 0 ≤ s) (h1 : s < ss.length) : 0 ≤ usedS ss s ∧ usedS ss s ≤ 1048576 := by
  have := hu _ (List.mem_of_getElem? (sgAt_some h0 h1))
  unfold usedS; split <;> omega
set_option maxHeartbeats 2000000 in
theorem settle_calls {E : Env} {w : World} {L : List As} {l m b c : Nat} {o : Int} {ss : List Sg} {A : As} {v : Value} {xs : List Pl} (hb : ss.length ≤ 4096) (hu : ∀ x ∈ ss, 0 ≤ x.used ∧ x.used ≤ 1048576) (hS : SrcA A v xs) (hok : ∀ p ∈ xs, p.len ≤ 9223372036854775807)
    (hw : Sat E w (pt l (.cells [Value.pointer (some ⟨m, 0, none⟩), .int .i64 o, .slice (some ⟨b, 0, none⟩) (ss : List Sg).length c].toArray 47 (0, 0)) :: OwnSl 104 3 (.slice (some ⟨b, 0, none⟩) (ss).length c) (ss).length ((ss).flatMap Sg.cells) :: A :: L)) :
    Calls Try.prog 26 #[.pointer (some ⟨l, 0, none⟩), v] w fun e w' => ∃ r : Bool, e = .returned (.int .i64 (if r then 0 else 121)) ∧ (r = true ↔ fitsP (usedS ss) ss.length xs) ∧ Sat E w' (pt l (.cells [Value.pointer (some ⟨m, 0, none⟩), .int .i64 o, .slice (some ⟨b, 0, none⟩) (((if r then settled ss xs else ss)) : List Sg).length c].toArray 47 (0, 0)) :: OwnSl 104 3 (.slice (some ⟨b, 0, none⟩) (((if r then settled ss xs else ss))).length c) (((if r then settled ss xs else ss))).length ((((if r then settled ss xs else ss))).flatMap Sg.cells) :: A :: L) := by
  have hub := usedS_bound hu
  obtain ⟨a, c', rfl, hn, hat⟩ := id hS
  refine calls_of_g (n := 43) Try.func26 rfl rfl rfl ?_
  change G _ _ _ _ _ [(0, _), (1, _)] _
  refine g_seq ?_
  refine g_region ?_
  refine rl_k rfl (k_box hw rfl rfl rfl (fun bk0_0 w hw => ?_))
  refine xV rfl rfl rfl (v_assign rfl) ?_
  refine rl_nil (g_le (xK (xK (Fr.le_refl _))) ?_)
  refine g_seq ?_
  refine g_region ?_
  refine xV rfl rfl rfl (v_makeFunc rfl rfl) ?_
  refine xV rfl rfl rfl (v_assign rfl) ?_
  refine rl_nil (g_le (xK (xS rfl (Fr.le_refl _))) ?_)
  refine g_seq (g_seq ?_)
  refine g_region ?_
  refine rl_v rfl rfl rfl (by exact sat_cell hw (by (repeat first | with_reducible exact xH | apply xT); first | done | fail) rfl) (v_load T.scal_36 rfl) ?_
  refine xV rfl rfl rfl (v_move rfl) ?_
  refine xV rfl rfl rfl (v_move rfl) ?_
  refine rl_k rfl (k_callf Try.func46 rfl rfl rfl rfl ?_)
  refine Calls.mono (fits_calls (U := pt bk0_0 (.cells [Value.pointer (some ⟨l, 0, none⟩)].toArray 36 (0, 0))) (usedS ss) hb hS hok hub (fun s w M h0 h1 hw => CallsV.mk Try.func45 rfl rfl rfl (usedS_calls hb s h0 h1 hw)) (hw.xQ)) ?_
  rintro _ w ⟨r, rfl, hr, hw⟩
  refine ⟨_, rfl, ?_⟩
  refine xV rfl rfl rfl (v_not rfl) ?_
  refine rl_nil (g_le (xK (xS rfl (xS rfl (xS rfl (xS rfl (Fr.le_refl _)))))) ?_)
  refine g_cond rfl (fun h1 => ?_) (fun h1 => ?_)
  · try with_reducible exact ft_elim h1
    all_goals
      try replace h1 := of_decide_eq_true h1
      have hr0 : r = false := by simpa using h1
      subst hr0
      refine g_seq ?_
      refine g_region ?_
      refine xV rfl rfl rfl (v_assign rfl) ?_
      refine rl_nil (g_le (xK (Fr.le_refl _)) ?_)
      refine g_ret1 Try.func26 rfl rfl ?_
      exact ⟨false, rfl, hr, (hw.xQ : Sat E w (pt l (.cells [Value.pointer (some ⟨m, 0, none⟩), .int .i64 o, .slice (some ⟨b, 0, none⟩) (ss : List Sg).length c].toArray 47 (0, 0)) :: OwnSl 104 3 (.slice (some ⟨b, 0, none⟩) (ss).length c) (ss).length ((ss).flatMap Sg.cells) :: A :: L))⟩
  · try with_reducible exact tf_elim h1
    all_goals
      try replace h1 := of_decide_eq_false h1
      have hr0 : r = true := by simpa using h1
      subst hr0
      refine g_skip (g_seq ?_)
      have hfit := hr.1 rfl
      refine g_region ?_
      refine rl_v rfl rfl rfl (by exact sat_cell hw (by (repeat first | with_reducible exact xH | apply xT); first | done | fail) rfl) (v_load T.scal_36 rfl) ?_
      refine xV rfl rfl rfl (v_move rfl) ?_
      refine rl_k rfl (k_callf Try.func47 rfl rfl rfl rfl ?_)
      refine Calls.mono (account_calls hb hS (fun p hp => by have h9 := hfit.1 p hp; unfold within at h9; have h8 := hub p.seg h9.1 h9.2.1; omega) (hw.xQ)) ?_
      rintro _ w ⟨rfl, hw⟩
      refine ⟨_, rfl, ?_⟩
      refine rl_nil (g_le (xS rfl (xS rfl (xS rfl (Fr.le_refl _)))) ?_)
      refine g_seq (g_seq ?_)
      have hll := lived_len ss xs
      have hss : settled ss xs = (lived ss xs).map fr := rfl
      generalize lived ss xs = s1 at hw hll hss
      refine g_region ?_
      refine rl_v rfl rfl rfl (by exact sat_cell hw (by (repeat first | with_reducible exact xH | apply xT); first | done | fail) rfl) (v_load T.scal_36 rfl) ?_
      refine xV rfl rfl rfl (v_nilCheck rfl) ?_
      refine xV rfl rfl rfl (v_fieldAddr0 T.fld_47_2_2 rfl) ?_
      refine rl_v rfl rfl rfl (by exact sat_cell hw (by (repeat first | with_reducible exact xH | apply xT); first | done | fail) rfl) (v_load T.scal_45 rfl) ?_
      refine xV rfl rfl rfl (v_lenSlice T.sl_45_104_3 rfl) ?_
      refine xV rfl rfl rfl (v_move rfl) ?_
      refine rl_nil (g_le (xK (xK (xK (xS rfl (xS rfl (xS rfl (Fr.le_refl _))))))) ?_)
      refine g_block ?_
      refine g_loopC (σ := Nat) (fun C x => (22, .int .i64 (x : Nat)) :: C) [(2, _), (4, _), (20, _), (21, _)] (by repeat (first | exact Fr.le_nil _ | refine Fr.le_cons rfl ?_)) (fun z w => z ≤ s1.length ∧ Sat E w (OwnSl 104 3 (.slice (some ⟨b, 0, none⟩) s1.length c) s1.length ((upTo fr s1 z).flatMap Sg.cells) :: pt l (.cells [Value.pointer (some ⟨m, 0, none⟩), .int .i64 o, .slice (some ⟨b, 0, none⟩) s1.length c].toArray 47 (0, 0)) :: pt bk0_0 (.cells [Value.pointer (some ⟨l, 0, none⟩)].toArray 36 (0, 0)) :: A :: L)) (fun z => s1.length - z) ?_ 0 (by repeat (first | exact Fr.le_nil _ | refine Fr.le_cons rfl ?_)) ⟨by simp, by rw [upTo_zero]; exact hw.xQ⟩
      rintro i w ⟨hi, hw⟩ ih
      refine g_seq ?_
      refine g_region ?_
      refine xV rfl rfl rfl (v_lss rfl rfl) ?_
      refine rl_nil (g_le (xK (Fr.le_refl _)) ?_)
      refine g_seq ?_
      refine g_cond rfl (fun h2 => ?_) (fun h2 => ?_)
      · try with_reducible exact ft_elim h2
        all_goals
          try replace h2 := of_decide_eq_true h2
          refine g_skip (g_seq (g_block (g_seq ?_)))
          have hlt : i < s1.length := by omega
          have hx : s1[i]? = some s1[i] := List.getElem?_eq_getElem hlt
          generalize s1[i] = x at hx
          have hsub := subAt_flat (f := Sg.cells) (sz := 3) (fun _ => rfl) (upTo_at (f := fr) hx)
          rw [show 0 + i * 3 = 0 + (i : Int).toNat * 3 by omega] at hsub
          dsimp only [Sg.cells] at hsub
          have hst : 0 + (i : Int).toNat * 3 + 0 < ((upTo fr s1 i).flatMap Sg.cells).length := by rw [sg_len, upTo_len]; omega
          refine g_region ?_
          refine xV rfl rfl rfl (v_move rfl) ?_
          refine xV rfl rfl rfl (v_indexAddr T.sl_45_104_3 rfl rfl (by omega) (by omega)) ?_
          refine rl_v rfl rfl rfl (by exact own_cells hw (by (repeat first | with_reducible exact xH | apply xT); first | done | fail) (by assumption)) (v_loadAgg (vs := [_, _, _]) T.agg_104_3 rfl rfl) ?_
          refine rl_k rfl (k_alloc hw T.zero_104 rfl rfl (fun bk7_3 w hw => ?_))
          refine xV rfl rfl rfl (v_assign rfl) ?_
          refine rl_k rfl (k_storeWhole hw T.agg_104_3 rfl rfl (by simp [Value.oneCell']) rfl (by (repeat first | with_reducible exact xH | apply xT); first | done | fail) rfl (fun w hw => ?_))
          refine rl_nil (g_le (xK (xK (xK (xK (xK (Fr.le_refl _)))))) ?_)
          refine g_seq ?_
          refine g_region ?_
          refine xV rfl rfl rfl (v_fieldAddr0 T.fld_104_0_0 rfl) ?_
          refine rl_v rfl rfl rfl (by exact sat_cell hw (by (repeat first | with_reducible exact xH | apply xT); first | done | fail) rfl) (v_load T.scal_3 rfl) ?_
          refine xV rfl rfl rfl (v_eql rfl rfl) ?_
          refine xV rfl rfl rfl (v_move rfl) ?_
          refine rl_split (s := 30) rfl (fun g8_3 => ?_) (fun g8_3 => ?_)
          · try with_reducible exact ft_elim g8_3
            all_goals
              try replace g8_3 := of_decide_eq_true g8_3
              refine rl_vg (met_on rfl rfl rfl rfl) rfl rfl (S := fun _ => True) trivial (v_fieldAddr0 T.fld_104_2_2 rfl) ?_
              refine rl_vg (met_on rfl rfl rfl rfl) rfl rfl (by exact sat_cell hw (by (repeat first | with_reducible exact xH | apply xT); first | done | fail) rfl) (v_load T.scal_3 rfl) ?_
              refine rl_vg (met_on rfl rfl rfl rfl) rfl rfl (S := fun _ => True) trivial (v_eql rfl rfl) ?_
              refine xV rfl rfl rfl (v_pick_true rfl rfl) ?_
              refine rl_nil (g_le (xK (xK (xK (xK (xK (xK (xK (xK (xK (Fr.le_refl _)))))))))) ?_)
              refine g_cond rfl (fun h3 => ?_) (fun h3 => ?_)
              · try with_reducible exact ft_elim h3
                all_goals
                  try replace h3 := of_decide_eq_true h3
                  refine g_region ?_
                  refine rl_v rfl rfl rfl (by exact sat_cell hw (by (repeat first | with_reducible exact xH | apply xT); first | done | fail) rfl) (v_load T.scal_36 rfl) ?_
                  refine xV rfl rfl rfl (v_nilCheck rfl) ?_
                  refine xV rfl rfl rfl (v_fieldAddr0 T.fld_47_2_2 rfl) ?_
                  refine rl_v rfl rfl rfl (by exact sat_cell hw (by (repeat first | with_reducible exact xH | apply xT); first | done | fail) rfl) (v_load T.scal_45 rfl) ?_
                  refine xV rfl rfl rfl (v_move rfl) ?_
                  refine xV rfl rfl rfl (v_indexAddr T.sl_45_104_3 rfl rfl (by omega) (by omega)) ?_
                  refine xV rfl rfl rfl (v_fieldAddr T.fld_104_0_0 rfl) ?_
                  refine rl_k rfl (k_storeOwn hw T.scal_3 rfl rfl rfl (by (repeat first | with_reducible exact xH | apply xT); first | done | fail) (by assumption) (fun w hw => ?_))
                  refine rl_nil (g_le (xK (xK (xK (xK (xK (xK (xK (Fr.le_refl _)))))))) ?_)
                  refine g_inBlock ?_
                  refine g_region ?_
                  refine xV rfl rfl rfl (v_add rfl rfl (by omega)) ?_
                  refine xV rfl rfl rfl (v_move rfl) ?_
                  refine rl_nil (g_le (xK (xK (Fr.le_refl _))) ?_)
                  have hf : fr x = ⟨1, x.used, x.live⟩ := by unfold fr; rw [if_pos ⟨by omega, by omega⟩]
                  rw [show 0 + (i : Int).toNat * 3 + 0 = i * 3 + 0 by omega, sg_set (y := ⟨1, x.used, x.live⟩) (upTo_at hx) (by omega) rfl, ← hf, upTo_succ hx] at hw
                  exact g_le (by repeat (first | exact Fr.le_nil _ | refine Fr.le_cons rfl ?_)) (ih (i + 1) w ⟨by omega, hw.xQ⟩ (by omega))
              · try with_reducible exact tf_elim h3
                all_goals
                  try replace h3 := of_decide_eq_false h3
                  refine g_skip (g_inBlock ?_)
                  refine g_region ?_
                  refine xV rfl rfl rfl (v_add rfl rfl (by omega)) ?_
                  refine xV rfl rfl rfl (v_move rfl) ?_
                  refine rl_nil (g_le (xK (xK (Fr.le_refl _))) ?_)
                  have hf : fr x = x := by unfold fr; rw [if_neg (by omega)]
                  rw [← upTo_same hx hf] at hw
                  exact g_le (by repeat (first | exact Fr.le_nil _ | refine Fr.le_cons rfl ?_)) (ih (i + 1) w ⟨by omega, hw.xQ⟩ (by omega))
          · try with_reducible exact tf_elim g8_3
            all_goals
              try replace g8_3 := of_decide_eq_false g8_3
              refine rl_off (met_off rfl rfl rfl rfl rfl) rfl rfl ?_
              refine rl_off (met_off rfl rfl rfl rfl rfl) rfl rfl ?_
              refine rl_off (met_off rfl rfl rfl rfl rfl) rfl rfl ?_
              refine xV rfl rfl rfl (v_pick_false rfl rfl) ?_
              refine rl_nil (g_le (xK (xK (xK (xK (xK (xK (xK (xK (xK (Fr.le_refl _)))))))))) ?_)
              refine g_cond_false rfl ?_
              refine g_skip (g_inBlock ?_)
              refine g_region ?_
              refine xV rfl rfl rfl (v_add rfl rfl (by omega)) ?_
              refine xV rfl rfl rfl (v_move rfl) ?_
              refine rl_nil (g_le (xK (xK (Fr.le_refl _))) ?_)
              have hf : fr x = x := by unfold fr; rw [if_neg (by omega)]
              rw [← upTo_same hx hf] at hw
              exact g_le (by repeat (first | exact Fr.le_nil _ | refine Fr.le_cons rfl ?_)) (ih (i + 1) w ⟨by omega, hw.xQ⟩ (by omega))
      · try with_reducible exact tf_elim h2
        all_goals
          try replace h2 := of_decide_eq_false h2
          refine g_exit rfl (g_seq ?_)
          refine g_region ?_
          refine xV rfl rfl rfl (v_assign rfl) ?_
          refine rl_nil (g_le (xK (Fr.le_refl _)) ?_)
          refine g_ret1 Try.func26 rfl rfl ?_
          obtain rfl : i = s1.length := by omega
          rw [upTo_all] at hw
          refine ⟨true, rfl, hr, ?_⟩
          rw [if_pos rfl, hss, List.length_map]
          exact hw.xQ
theorem sealed_calls {E : Env} {w : World} {L : List As} {l m b c : Nat} {o : Int} {ss : List Sg} (hb : ss.length ≤ 4096) (hw : Sat E w (pt l (.cells [Value.pointer (some ⟨m, 0, none⟩), .int .i64 o, .slice (some ⟨b, 0, none⟩) (ss : List Sg).length c].toArray 47 (0, 0)) :: OwnSl 104 3 (.slice (some ⟨b, 0, none⟩) (ss).length c) (ss).length ((ss).flatMap Sg.cells) :: L)) :
    Calls Try.prog 27 #[.pointer (some ⟨l, 0, none⟩)] w fun e w' => ∃ v, e = .returned v ∧ Sat E w' (OwnSl 3 1 v (ofS 2 ss 0).length ((ofS 2 ss 0).map (Value.int .i64)) :: pt l (.cells [Value.pointer (some ⟨m, 0, none⟩), .int .i64 o, .slice (some ⟨b, 0, none⟩) (ss : List Sg).length c].toArray 47 (0, 0)) :: OwnSl 104 3 (.slice (some ⟨b, 0, none⟩) (ss).length c) (ss).length ((ss).flatMap Sg.cells) :: L) := by
  refine calls_of_g (n := 5) Try.func27 rfl rfl rfl ?_
  change G _ _ _ _ _ [(0, _)] _
  refine g_seq ?_
  refine g_region ?_
  refine xV rfl rfl rfl (v_assign rfl) ?_
  refine rl_nil (g_le (xK (Fr.le_refl _)) ?_)
  refine g_seq ?_
  refine g_region ?_
  refine xV rfl rfl rfl (v_move rfl) ?_
  refine rl_k rfl (k_callf Try.func44 rfl rfl rfl rfl ?_)
  refine Calls.mono (of_calls 2 hb hw) ?_
  rintro _ w ⟨v, rfl, hw⟩
  refine ⟨_, rfl, ?_⟩
  refine xV rfl rfl rfl (v_assign rfl) ?_
  refine rl_nil (g_le (xK (xS rfl (xS rfl (Fr.le_refl _)))) ?_)
  refine g_ret1 Try.func27 rfl rfl ?_
  exact ⟨_, rfl, hw.xQ⟩
/-- What a segment is; what of it is live. -/
def kindS (ss : List Sg) (i : Int) : Int := if 0 ≤ i ∧ i < ss.length then (sgAt ss i).kind else 0
def liveS (ss : List Sg) (i : Int) : Int := if 0 ≤ i ∧ i < ss.length then (sgAt ss i).live else 0
theorem kindS_calls {E : Env} {w : World} {L : List As} {l m b c : Nat} {o : Int} {ss : List Sg} (i : Int) (hb : ss.length ≤ 4096) (hw : Sat E w (pt l (.cells [Value.pointer (some ⟨m, 0, none⟩), .int .i64 o, .slice (some ⟨b, 0, none⟩) (ss : List Sg).length c].toArray 47 (0, 0)) :: OwnSl 104 3 (.slice (some ⟨b, 0, none⟩) (ss).length c) (ss).length ((ss).flatMap Sg.cells) :: L)) :
    Calls Try.prog 28 #[.pointer (some ⟨l, 0, none⟩), .int .i64 i] w fun e w' => e = .returned (.int .i64 (kindS ss i)) ∧ Sat E w' (pt l (.cells [Value.pointer (some ⟨m, 0, none⟩), .int .i64 o, .slice (some ⟨b, 0, none⟩) (ss : List Sg).length c].toArray 47 (0, 0)) :: OwnSl 104 3 (.slice (some ⟨b, 0, none⟩) (ss).length c) (ss).length ((ss).flatMap Sg.cells) :: L) := by
  unfold kindS
  refine calls_of_g (n := 24) Try.func28 rfl rfl rfl ?_
  change G _ _ _ _ _ [(0, _), (1, _)] _
  refine g_seq ?_
  refine g_region ?_
  refine xV rfl rfl rfl (v_assign rfl) ?_
  refine rl_nil (g_le (xK (Fr.le_refl _)) ?_)
  refine g_seq (g_seq ?_)
  refine g_region ?_
  refine xV rfl rfl rfl (v_move rfl) ?_
  refine xV rfl rfl rfl (v_lss rfl rfl) ?_
  refine xV rfl rfl rfl (v_move rfl) ?_
  refine rl_split (s := 7) rfl (fun g1_2 => ?_) (fun g1_2 => ?_)
  · try with_reducible exact ft_elim g1_2
    all_goals
      try replace g1_2 := of_decide_eq_true g1_2
      refine rl_off (met_off rfl rfl rfl rfl rfl) rfl rfl ?_
      refine rl_off (met_off rfl rfl rfl rfl rfl) rfl rfl ?_
      refine rl_off (met_off rfl rfl rfl rfl rfl) rfl rfl ?_
      refine rl_off (met_off rfl rfl rfl rfl rfl) rfl rfl ?_
      refine rl_off (met_off rfl rfl rfl rfl rfl) rfl rfl ?_
      refine rl_off (met_off rfl rfl rfl rfl rfl) rfl rfl ?_
      refine rl_off (met_off rfl rfl rfl rfl rfl) rfl rfl ?_
      refine xV rfl rfl rfl (v_pick_true rfl rfl) ?_
      refine rl_nil (g_le (xK (xS rfl (xS rfl (xS rfl (xS rfl (xS rfl (xS rfl (xS rfl (xS rfl (xS rfl (xS rfl (xS rfl (Fr.le_refl _))))))))))))) ?_)
      refine g_cond_true rfl ?_
      refine g_seq ?_
      refine g_region ?_
      refine xV rfl rfl rfl (v_assign rfl) ?_
      refine rl_nil (g_le (xK (Fr.le_refl _)) ?_)
      refine g_ret1 Try.func28 rfl rfl ?_
      rw [if_neg (by omega)]
      exact ⟨rfl, hw.xQ⟩
  · try with_reducible exact tf_elim g1_2
    all_goals
      try replace g1_2 := of_decide_eq_false g1_2
      refine rl_vg (met_on rfl rfl rfl rfl) rfl rfl (S := fun _ => True) trivial (v_move rfl) ?_
      refine rl_vg (met_on rfl rfl rfl rfl) rfl rfl (S := fun _ => True) trivial (v_move rfl) ?_
      refine rl_vg (met_on rfl rfl rfl rfl) rfl rfl (S := fun _ => True) trivial (v_nilCheck rfl) ?_
      refine rl_vg (met_on rfl rfl rfl rfl) rfl rfl (S := fun _ => True) trivial (v_fieldAddr0 T.fld_47_2_2 rfl) ?_
      refine rl_vg (met_on rfl rfl rfl rfl) rfl rfl (by exact sat_cell hw (by (repeat first | with_reducible exact xH | apply xT); first | done | fail) rfl) (v_load T.scal_45 rfl) ?_
      refine rl_vg (met_on rfl rfl rfl rfl) rfl rfl (S := fun _ => True) trivial (v_lenSlice T.sl_45_104_3 rfl) ?_
      refine rl_vg (met_on rfl rfl rfl rfl) rfl rfl (S := fun _ => True) trivial (v_geq rfl rfl) ?_
      refine xV rfl rfl rfl (v_pick_false rfl rfl) ?_
      refine rl_nil (g_le (xK (xS rfl (xS rfl (xS rfl (xS rfl (xS rfl (xS rfl (xS rfl (xS rfl (xS rfl (xS rfl (xS rfl (Fr.le_refl _))))))))))))) ?_)
      refine g_cond rfl (fun h1 => ?_) (fun h1 => ?_)
      · try with_reducible exact ft_elim h1
        all_goals
          try replace h1 := of_decide_eq_true h1
          refine g_seq ?_
          refine g_region ?_
          refine xV rfl rfl rfl (v_assign rfl) ?_
          refine rl_nil (g_le (xK (Fr.le_refl _)) ?_)
          refine g_ret1 Try.func28 rfl rfl ?_
          rw [if_neg (by omega)]
          exact ⟨rfl, hw.xQ⟩
      · try with_reducible exact tf_elim h1
        all_goals
          try replace h1 := of_decide_eq_false h1
          have hx := sgAt_some (ss := ss) (i := i) (by omega) (by omega)
          have hsub := subAt_flat (f := Sg.cells) (sz := 3) (fun _ => rfl) hx
          dsimp only [Sg.cells] at hsub
          refine g_skip (g_seq ?_)
          refine g_region ?_
          refine xV rfl rfl rfl (v_move rfl) ?_
          refine xV rfl rfl rfl (v_nilCheck rfl) ?_
          refine xV rfl rfl rfl (v_fieldAddr0 T.fld_47_2_2 rfl) ?_
          refine rl_v rfl rfl rfl (by exact sat_cell hw (by (repeat first | with_reducible exact xH | apply xT); first | done | fail) rfl) (v_load T.scal_45 rfl) ?_
          refine xV rfl rfl rfl (v_move rfl) ?_
          refine xV rfl rfl rfl (v_indexAddr T.sl_45_104_3 rfl rfl (by omega) (by omega)) ?_
          refine xV rfl rfl rfl (v_fieldAddr T.fld_104_0_0 rfl) ?_
          refine rl_v rfl rfl rfl (by exact own_at0 hw (by (repeat first | with_reducible exact xH | apply xT); first | done | fail) (by assumption) rfl) (v_load T.scal_3 rfl) ?_
          refine xV rfl rfl rfl (v_assign rfl) ?_
          refine rl_nil (g_le (xK (xS rfl (xS rfl (xS rfl (xS rfl (xS rfl (xS rfl (xS rfl (xS rfl (Fr.le_refl _)))))))))) ?_)
          refine g_ret1 Try.func28 rfl rfl ?_
          rw [if_pos (by omega)]
          exact ⟨rfl, hw.xQ⟩
theorem liveS_calls {E : Env} {w : World} {L : List As} {l m b c : Nat} {o : Int} {ss : List Sg} (i : Int) (hb : ss.length ≤ 4096) (hw : Sat E w (pt l (.cells [Value.pointer (some ⟨m, 0, none⟩), .int .i64 o, .slice (some ⟨b, 0, none⟩) (ss : List Sg).length c].toArray 47 (0, 0)) :: OwnSl 104 3 (.slice (some ⟨b, 0, none⟩) (ss).length c) (ss).length ((ss).flatMap Sg.cells) :: L)) :
    Calls Try.prog 30 #[.pointer (some ⟨l, 0, none⟩), .int .i64 i] w fun e w' => e = .returned (.int .i64 (liveS ss i)) ∧ Sat E w' (pt l (.cells [Value.pointer (some ⟨m, 0, none⟩), .int .i64 o, .slice (some ⟨b, 0, none⟩) (ss : List Sg).length c].toArray 47 (0, 0)) :: OwnSl 104 3 (.slice (some ⟨b, 0, none⟩) (ss).length c) (ss).length ((ss).flatMap Sg.cells) :: L) := by
  unfold liveS
  refine calls_of_g (n := 24) Try.func30 rfl rfl rfl ?_
  change G _ _ _ _ _ [(0, _), (1, _)] _
  refine g_seq ?_
  refine g_region ?_
  refine xV rfl rfl rfl (v_assign rfl) ?_
  refine rl_nil (g_le (xK (Fr.le_refl _)) ?_)
  refine g_seq (g_seq ?_)
  refine g_region ?_
  refine xV rfl rfl rfl (v_move rfl) ?_
  refine xV rfl rfl rfl (v_lss rfl rfl) ?_
  refine xV rfl rfl rfl (v_move rfl) ?_
  refine rl_split (s := 7) rfl (fun g1_2 => ?_) (fun g1_2 => ?_)
  · try with_reducible exact ft_elim g1_2
    all_goals
      try replace g1_2 := of_decide_eq_true g1_2
      refine rl_off (met_off rfl rfl rfl rfl rfl) rfl rfl ?_
      refine rl_off (met_off rfl rfl rfl rfl rfl) rfl rfl ?_
      refine rl_off (met_off rfl rfl rfl rfl rfl) rfl rfl ?_
      refine rl_off (met_off rfl rfl rfl rfl rfl) rfl rfl ?_
      refine rl_off (met_off rfl rfl rfl rfl rfl) rfl rfl ?_
      refine rl_off (met_off rfl rfl rfl rfl rfl) rfl rfl ?_
      refine rl_off (met_off rfl rfl rfl rfl rfl) rfl rfl ?_
      refine xV rfl rfl rfl (v_pick_true rfl rfl) ?_
      refine rl_nil (g_le (xK (xS rfl (xS rfl (xS rfl (xS rfl (xS rfl (xS rfl (xS rfl (xS rfl (xS rfl (xS rfl (xS rfl (Fr.le_refl _))))))))))))) ?_)
      refine g_cond_true rfl ?_
      refine g_seq ?_
      refine g_region ?_
      refine xV rfl rfl rfl (v_assign rfl) ?_
      refine rl_nil (g_le (xK (Fr.le_refl _)) ?_)
      refine g_ret1 Try.func30 rfl rfl ?_
      rw [if_neg (by omega)]
      exact ⟨rfl, hw.xQ⟩
  · try with_reducible exact tf_elim g1_2
    all_goals
      try replace g1_2 := of_decide_eq_false g1_2
      refine rl_vg (met_on rfl rfl rfl rfl) rfl rfl (S := fun _ => True) trivial (v_move rfl) ?_
      refine rl_vg (met_on rfl rfl rfl rfl) rfl rfl (S := fun _ => True) trivial (v_move rfl) ?_
      refine rl_vg (met_on rfl rfl rfl rfl) rfl rfl (S := fun _ => True) trivial (v_nilCheck rfl) ?_
      refine rl_vg (met_on rfl rfl rfl rfl) rfl rfl (S := fun _ => True) trivial (v_fieldAddr0 T.fld_47_2_2 rfl) ?_
      refine rl_vg (met_on rfl rfl rfl rfl) rfl rfl (by exact sat_cell hw (by (repeat first | with_reducible exact xH | apply xT); first | done | fail) rfl) (v_load T.scal_45 rfl) ?_
      refine rl_vg (met_on rfl rfl rfl rfl) rfl rfl (S := fun _ => True) trivial (v_lenSlice T.sl_45_104_3 rfl) ?_
      refine rl_vg (met_on rfl rfl rfl rfl) rfl rfl (S := fun _ => True) trivial (v_geq rfl rfl) ?_
      refine xV rfl rfl rfl (v_pick_false rfl rfl) ?_
      refine rl_nil (g_le (xK (xS rfl (xS rfl (xS rfl (xS rfl (xS rfl (xS rfl (xS rfl (xS rfl (xS rfl (xS rfl (xS rfl (Fr.le_refl _))))))))))))) ?_)
      refine g_cond rfl (fun h1 => ?_) (fun h1 => ?_)
      · try with_reducible exact ft_elim h1
        all_goals
          try replace h1 := of_decide_eq_true h1
          refine g_seq ?_
          refine g_region ?_
          refine xV rfl rfl rfl (v_assign rfl) ?_
          refine rl_nil (g_le (xK (Fr.le_refl _)) ?_)
          refine g_ret1 Try.func30 rfl rfl ?_
          rw [if_neg (by omega)]
          exact ⟨rfl, hw.xQ⟩
      · try with_reducible exact tf_elim h1
        all_goals
          try replace h1 := of_decide_eq_false h1
          have hx := sgAt_some (ss := ss) (i := i) (by omega) (by omega)
          have hsub := subAt_flat (f := Sg.cells) (sz := 3) (fun _ => rfl) hx
          dsimp only [Sg.cells] at hsub
          refine g_skip (g_seq ?_)
          refine g_region ?_
          refine xV rfl rfl rfl (v_move rfl) ?_
          refine xV rfl rfl rfl (v_nilCheck rfl) ?_
          refine xV rfl rfl rfl (v_fieldAddr0 T.fld_47_2_2 rfl) ?_
          refine rl_v rfl rfl rfl (by exact sat_cell hw (by (repeat first | with_reducible exact xH | apply xT); first | done | fail) rfl) (v_load T.scal_45 rfl) ?_
          refine xV rfl rfl rfl (v_move rfl) ?_
          refine xV rfl rfl rfl (v_indexAddr T.sl_45_104_3 rfl rfl (by omega) (by omega)) ?_
          refine xV rfl rfl rfl (v_fieldAddr T.fld_104_2_2 rfl) ?_
          refine rl_v rfl rfl rfl (by exact own_at hw (by (repeat first | with_reducible exact xH | apply xT); first | done | fail) (by assumption) rfl) (v_load T.scal_3 rfl) ?_
          refine xV rfl rfl rfl (v_assign rfl) ?_
          refine rl_nil (g_le (xK (xS rfl (xS rfl (xS rfl (xS rfl (xS rfl (xS rfl (xS rfl (xS rfl (Fr.le_refl _)))))))))) ?_)
          refine g_ret1 Try.func30 rfl rfl ?_
          rw [if_pos (by omega)]
          exact ⟨rfl, hw.xQ⟩
end Go.Proofs.Ytipdklbedpkobaa
