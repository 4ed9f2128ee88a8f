/-
  Parts of the search tree: rows copied and put together, halves.
-/
import Derived.Test.YtdiocmjhencbpaaC07
namespace Go.Proofs.Ytdiocmjhencbpaa
set_option maxRecDepth 8000
set_option linter.unusedSimpArgs false
set_option linter.unusedVariables false
open Go Xe
def Nd.small (x : Nd) : Prop := x.entries.length ≤ 4 ∧ x.kids.length ≤ 4 ∧ (x.leaf = true → x.kids = []) ∧ (x.leaf = false → x.entries = [])
def Nd.mid (x : Nd) : Prop := x.entries.length ≤ 8 ∧ x.kids.length ≤ 8
theorem Nd.small.mid {x : Nd} (h : x.small) : x.mid := ⟨Nat.le_trans h.1 (by omega), Nat.le_trans h.2.1 (by omega)⟩
theorem cloneEn_calls {E : Env} {w : World} {L : List As} {g : Hp} {v : Value} {xs : List En} (hv1 : (rdSl 40 2 rdEn) g [v] xs) (hw : Sat E w (RO g :: L)) :
    Calls Try.prog 82 #[v] w fun e w' => ∃ v cells, e = .returned v ∧ Els rdEn 2 g cells xs ∧ Sat E w' (OwnSl 40 2 v xs.length cells :: RO g :: L) := by
  obtain ⟨a1, n1, k1, rfl⟩ := rdSl_shape hv1
  obtain ⟨rfl, hle, hm, hb, cells, hels, hsrc⟩ := rdSl_cells hv1
  have hlen := hels.len
  have hone := hels.ones one_En
  simp only [reachBytes] at hb
  simp only [maxLen] at hm
  refine calls_of_g (n := 8) Try.func82 rfl rfl rfl ?_
  change G _ _ _ _ _ [(0, _)] _
  refine g_seq ?_
  refine g_region ?_
  refine xV rfl rfl rfl (v_assign rfl) ?_
  refine rl_nil (g_le (xK (Fr.le_refl _)) ?_)
  refine g_seq (g_seq ?_)
  refine g_region ?_
  refine xV rfl rfl rfl (v_move rfl) ?_
  refine xV rfl rfl rfl (v_eqlSlNil T.sl_33_40_2 rfl rfl) ?_
  refine rl_nil (g_le (xK (xS rfl (Fr.le_refl _))) ?_)
  refine g_cond rfl (fun h1 => ?_) (fun h1 => ?_)
  · try with_reducible exact ft_elim h1
    all_goals
      try replace h1 := of_decide_eq_true h1
      have h0 : xs.length = 0 := by (rcases hsrc with h | ⟨b, o, h, _⟩ <;> first | exact h | (subst h; cases h1))
      refine g_seq ?_
      refine g_region ?_
      refine xV rfl rfl rfl (v_assign rfl) ?_
      refine rl_nil (g_le (xK (Fr.le_refl _)) ?_)
      refine g_ret1 Try.func82 rfl rfl ?_
      refine ⟨_, [], rfl, ?_⟩
      have hx := List.eq_nil_of_length_eq_zero h0
      subst hx
      exact ⟨.nil, hw.own_nil _ _⟩
  · try with_reducible exact tf_elim h1
    all_goals
      try replace h1 := of_decide_eq_false h1
      refine g_skip (g_seq ?_)
      refine g_region ?_
      refine rl_k rfl (k_buildSlice0 hw T.sl_33_40_2 T.zero_40 rfl (fun bk3_0 w hw => ?_))
      refine xV rfl rfl rfl (v_move rfl) ?_
      refine rl_k rfl (k_appendS hw T.sl_33_40_2 T.zero_40 T.bytes_40_40 rfl (by decide) rfl rfl (by (repeat first | with_reducible exact xH | apply xT); first | done | fail) (by assumption) (by exact ro_src hw (by (repeat first | with_reducible exact xH | apply xT); first | done | fail) (by assumption) (by assumption)) (by assumption) (by omega) (by simp only [maxLen] at *; omega) rfl (fun vv3_2 w hw hnil => ?_))
      rw [Nat.zero_add, List.nil_append] at hw
      refine xV rfl rfl rfl (v_assign rfl) ?_
      refine rl_nil (g_le (xK (xS rfl (xS rfl (xS rfl (Fr.le_refl _))))) ?_)
      refine g_ret1 Try.func82 rfl rfl ?_
      exact ⟨_, cells, rfl, hels, hw.xQ⟩
theorem els_Kd {ks : List Kd} {g : Hp} (h : ∀ k ∈ ks, k.ok) : Els rdKd 5 g (ks.flatMap Kd.cells) ks := els_of (f := Kd.cells) (R := rdKd) (fun x => rfl) (fun x hx => ⟨rfl, h x hx⟩)
/-- Rows of a node, written no more. -/
theorem nd_stands {E : Env} {w : World} {L : List As} {g : Hp} {x : Nd} {ev kv : Value} {cells : List Value} (hels : Els rdEn 2 g cells x.entries) (hk : ∀ k ∈ x.kids, k.ok) (hs : x.mid)
    (h : Sat E w (RO g :: OwnSl 40 2 ev x.entries.length cells :: OwnSl 104 5 kv x.kids.length (x.kids.flatMap Kd.cells) :: L)) :
    ∃ g', g.le g' ∧ rdNd g' [.bool x.leaf, ev, kv] x ∧ Sat E w (RO g' :: L) := by
  obtain ⟨h1, h2⟩ := hs
  obtain ⟨g1, l1, r1, h3⟩ := h.freeze_sl (bytes := 40) mono_En hels rfl (by simp only [reachBytes]; omega)
  obtain ⟨g2, l2, r2, h4⟩ := h3.freeze_sl (bytes := 48) mono_Kd (els_Kd hk) rfl (by simp only [reachBytes]; omega)
  exact ⟨g2, l1.trans l2, ⟨_, _, _, rfl, rfl, mono_sl mono_En l2 r1, r2⟩, h4⟩
theorem sizeN_le {x : Nd} (h : x.mid) : sizeN x ≤ 8 := by unfold sizeN; split; exact h.1; exact h.2
theorem ord_f71_r2_C07b : orderOfB Try.f71 2 [13] (.a 0 (.a 1 (.a 5 (.a 6 (.v 2 (.a 3 (.a 4 (.v 7 (.a 8 (.a 9 (.b2 10 11 (.k 11 (.k 12 (.k 13 .done))) (.k 10 (.k 12 (.k 13 .done)))))))))))))) = true := by kernel_rfl
theorem ord_f71_r4_C07b : orderOfB Try.f71 4 [11, 14, 17] (.a 0 (.a 1 (.a 3 (.a 6 (.a 7 (.a 9 (.v 2 (.a 4 (.v 8 (.a 10 (.k 5 (.a 12 (.a 13 (.k 11 (.k 14 (.k 15 (.k 16 (.k 17 .done)))))))))))))))))) = true := by kernel_rfl
theorem ord_f71_r5_C07b : orderOfB Try.f71 5 [11, 14, 17] (.a 0 (.a 1 (.a 3 (.a 6 (.a 7 (.a 9 (.v 2 (.a 4 (.v 8 (.a 10 (.k 5 (.a 12 (.a 13 (.k 11 (.k 14 (.k 15 (.k 16 (.k 17 .done)))))))))))))))))) = true := by kernel_rfl
set_option maxHeartbeats 1000000 in
theorem halves_calls {E : Env} {w : World} {L : List As} {g : Hp} {xcs : List Value} {x : Nd} (hx : rdNd g xcs x) (hs : x.mid) (hw : Sat E w (RO g :: L)) :
    Calls Try.prog 71 #[.agg xcs.toArray] w fun e w' => ∃ g' a c, g.le g' ∧ e = .returned (.slice a 2 c) ∧ (rdSl 56 3 rdNd) g' [.slice a 2 c] (halvesN x) ∧ Sat E w' (RO g' :: L) := by
  have hfx := Nd.fine_of hx
  have hsz := sizeN_le hs
  obtain ⟨q0, q1, q2, rfl, qe, qf, qg⟩ := hx
  simp only [rdBool, List.cons.injEq, and_true] at qe
  subst qe
  obtain ⟨a1, n1, c1, rfl⟩ := rdSl_shape qf
  obtain ⟨a2, n2, c2, rfl⟩ := rdSl_shape qg
  obtain ⟨rfl, _, he1, _⟩ := rdSl_get qf
  obtain ⟨rfl, _, hk1, _⟩ := rdSl_get qg
  have hse : (if x.leaf = true then x.entries.length else x.kids.length) = sizeN x := rfl
  obtain ⟨k, hk⟩ : ∃ k : Nat, k = (sizeN x + 1) / 2 := ⟨_, rfl⟩
  refine calls_of_g (n := 58) Try.func71 rfl rfl rfl ?_
  change G _ _ _ _ _ [(0, _)] _
  refine g_seq ?_
  refine g_region ?_
  refine rl_k rfl (k_box hw rfl rfl rfl (fun bk0_0 w hw => ?_))
  refine xV rfl rfl rfl (v_assign rfl) ?_
  refine rl_nil (g_le (xK (xK (Fr.le_refl _))) ?_)
  refine g_seq ?_
  refine g_region ?_
  refine rl_v rfl rfl rfl (by exact sat_cells hw (by (repeat first | with_reducible exact xH | apply xT); first | done | fail) ⟨rfl, rfl, rfl, trivial⟩) (v_loadAgg (vs := [_, _, _]) T.agg_117_3 rfl rfl) ?_
  refine rl_k rfl (k_callf Try.func70 rfl rfl rfl rfl ?_)
  refine Calls.mono (size_calls x.leaf a1 a2 _ c1 _ c2 hw) ?_
  rw [hse]
  rintro _ w ⟨rfl, hw⟩
  refine ⟨_, rfl, ?_⟩
  refine xV rfl rfl rfl (v_add rfl rfl (by omega)) ?_
  refine xV rfl rfl rfl (v_quo rfl rfl (by omega) (by omega) (by omega)) ?_
  refine xV rfl rfl rfl (v_assign rfl) ?_
  refine rl_nil (g_le (xK (xS rfl (xS rfl (xS rfl (xS rfl (Fr.le_refl _)))))) ?_)
  rw [show ((sizeN x : Int) + 1) / 2 = (k : Nat) by omega]
  refine g_seq ?_
  refine g_drawR ord_f71_r2_C07b (by kernel_rfl) T.mixed hw (fun w hw => ?_)
  refine rs_a 0 rfl rfl rfl rfl (v_fieldAddr0 T.fld_117_0_0 rfl) ?_
  refine rs_a 1 rfl rfl rfl rfl (v_fieldAddr0 T.fld_84_0_0 rfl) ?_
  refine rs_a 5 rfl rfl rfl rfl (v_fieldAddr0 T.fld_117_0_0 rfl) ?_
  refine rs_a 6 rfl rfl rfl rfl (v_fieldAddr0 T.fld_84_0_0 rfl) ?_
  refine rs_v 2 rfl rfl rfl rfl (OpV.mono (v_load T.scal_4 rfl) (fun w hw => by exact sat_cell hw (by (repeat first | with_reducible exact xH | apply xT); first | done | fail) rfl)) (by exact hw) ?_
  refine rs_a 3 rfl rfl rfl rfl (v_build rfl (T.build_84_0 ..)) ?_
  refine rs_a 4 rfl rfl rfl rfl (v_build rfl (T.build_117_0 ..)) ?_
  refine rs_v 7 rfl rfl rfl rfl (OpV.mono (v_load T.scal_4 rfl) (fun w hw => by exact sat_cell hw (by (repeat first | with_reducible exact xH | apply xT); first | done | fail) rfl)) (by exact hw) ?_
  refine rs_a 8 rfl rfl rfl rfl (v_build rfl (T.build_84_0 ..)) ?_
  refine rs_a 9 rfl rfl rfl rfl (v_build rfl (T.build_117_0 ..)) ?_
  refine rs_b2 10 11 rfl rfl rfl rfl ?_ ?_ 
  · skip
    refine (k_alloc hw T.zero_117 rfl rfl (fun bk2_10 w hw => ?_))
    refine ⟨fun _ => (by exact Sat.sub hw (by (repeat (first | with_reducible exact Sub.refl _ | exact Sub.nil _ | (apply Sub.cons; focus ((repeat (first | with_reducible exact Pick.here _ | apply Pick.there)); (first | done | fail))) | with_reducible apply Sub.drop)); first | done | fail)), ?_⟩
    refine rs_k 11 rfl rfl (k_alloc hw T.zero_117 rfl rfl (fun bk2_11 w hw => ?_))
    refine ⟨fun _ => (by exact Sat.sub hw (by (repeat (first | with_reducible exact Sub.refl _ | exact Sub.nil _ | (apply Sub.cons; focus ((repeat (first | with_reducible exact Pick.here _ | apply Pick.there)); (first | done | fail))) | with_reducible apply Sub.drop)); first | done | fail)), ?_⟩
    refine rs_k 12 rfl rfl (k_storeWhole hw T.agg_117_3 rfl rfl (by simp [Value.oneCell']) rfl (by (repeat first | with_reducible exact xH | apply xT); first | done | fail) rfl (fun w hw => ?_))
    refine ⟨fun _ => (by exact Sat.sub hw (by (repeat (first | with_reducible exact Sub.refl _ | exact Sub.nil _ | (apply Sub.cons; focus ((repeat (first | with_reducible exact Pick.here _ | apply Pick.there)); (first | done | fail))) | with_reducible apply Sub.drop)); first | done | fail)), ?_⟩
    refine rs_k 13 rfl rfl (k_storeWhole hw T.agg_117_3 rfl rfl (by simp [Value.oneCell']) rfl (by (repeat first | with_reducible exact xH | apply xT); first | done | fail) rfl (fun w hw => ?_))
    refine ⟨fun hn => absurd (by decide) hn, ?_⟩
    refine rs_done (g_le (xK (xK (xS rfl (xS rfl (xS rfl (xS rfl (xS rfl (xS rfl (xS rfl (xS rfl (xS rfl (xS rfl (Fr.le_refl _))))))))))))) ?_)
    refine g_seq (g_seq ?_)
    refine g_region ?_
    refine xV rfl rfl rfl (v_fieldAddr0 T.fld_117_0_0 rfl) ?_
    refine xV rfl rfl rfl (v_fieldAddr0 T.fld_84_0_0 rfl) ?_
    refine rl_v rfl rfl rfl (by exact sat_cell hw (by (repeat first | with_reducible exact xH | apply xT); first | done | fail) rfl) (v_load T.scal_4 rfl) ?_
    refine rl_nil (g_le (xK (xS rfl (xS rfl (Fr.le_refl _)))) ?_)
    refine g_cond rfl (fun h1 => ?_) (fun h1 => ?_)
    · try with_reducible exact ft_elim h1
      all_goals
        try replace h1 := of_decide_eq_true h1
        have hN : sizeN x = x.entries.length := if_pos h1
        refine g_drawR ord_f71_r4_C07b (by kernel_rfl) T.mixed hw (fun w hw => ?_)
        refine rs_a 0 rfl rfl rfl rfl (v_fieldAddr0 T.fld_117_0_0 rfl) ?_
        refine rs_a 1 rfl rfl rfl rfl (v_fieldAddr0 T.fld_84_1_1 rfl) ?_
        refine rs_a 3 rfl rfl rfl rfl (v_move rfl) ?_
        refine rs_a 6 rfl rfl rfl rfl (v_fieldAddr0 T.fld_117_0_0 rfl) ?_
        refine rs_a 7 rfl rfl rfl rfl (v_fieldAddr0 T.fld_84_1_1 rfl) ?_
        refine rs_a 9 rfl rfl rfl rfl (v_move rfl) ?_
        refine rs_v 2 rfl rfl rfl rfl (OpV.mono (v_load T.scal_33 rfl) (fun w hw => by exact sat_cell hw (by (repeat first | with_reducible exact xH | apply xT); first | done | fail) rfl)) (by exact hw) ?_
        refine rs_a 4 rfl rfl rfl rfl (v_sliceTo T.sl_33_40_2 rfl rfl (by omega) (by omega)) ?_
        refine rs_v 8 rfl rfl rfl rfl (OpV.mono (v_load T.scal_33 rfl) (fun w hw => by exact sat_cell hw (by (repeat first | with_reducible exact xH | apply xT); first | done | fail) rfl)) (by exact hw) ?_
        refine rs_a 10 rfl rfl rfl rfl (v_sliceFromA T.sl_33_40_2 rfl rfl (by omega) (by omega) (by omega)) ?_
        refine rs_k 5 rfl rfl (k_callf Try.func82 rfl rfl rfl rfl ?_)
        refine Calls.mono (cloneEn_calls (rdSl_take k qf (by omega)) (hw.xQ)) ?_
        rintro _ w ⟨v1, cs1, rfl, hels1, hw⟩
        obtain ⟨b1, d1, rfl, _, _, _⟩ := hw.own_shape
        refine ⟨_, rfl, ?_⟩
        refine ⟨fun _ => (by exact Sat.sub hw (by (repeat (first | with_reducible exact Sub.refl _ | exact Sub.nil _ | (apply Sub.cons; focus ((repeat (first | with_reducible exact Pick.here _ | apply Pick.there)); (first | done | fail))) | with_reducible apply Sub.drop)); first | done | fail)), ?_⟩
        refine rs_a 12 rfl rfl rfl rfl (v_fieldAddr0 T.fld_117_0_0 rfl) ?_
        refine rs_a 13 rfl rfl rfl rfl (v_fieldAddr0 T.fld_84_1_1 rfl) ?_
        refine rs_k 11 rfl rfl (k_callf Try.func82 rfl rfl rfl rfl ?_)
        refine Calls.mono (cloneEn_calls (rdSl_from k qf (by omega)) (hw.xQ)) ?_
        rintro _ w ⟨v2, cs2, rfl, hels2, hw⟩
        obtain ⟨b2, d2, rfl, _, _, _⟩ := hw.own_shape
        refine ⟨_, rfl, ?_⟩
        refine ⟨fun hn => absurd (by decide) hn, ?_⟩
        refine rs_k 14 rfl rfl (k_store hw T.scal_33 rfl rfl rfl (by (repeat first | with_reducible exact xH | apply xT); first | done | fail) rfl (by simp only [List.set, Int.reduceToNat, Nat.reduceMul, Nat.reduceAdd]; rfl) (fun w hw => ?_))
        refine ⟨fun hn => absurd (by decide) hn, ?_⟩
        refine rs_kv 15 rfl rfl rfl rfl (S' := fun _ => True) trivial (v_fieldAddr0 T.fld_117_0_0 rfl) ?_
        refine rs_kv 16 rfl rfl rfl rfl (S' := fun _ => True) trivial (v_fieldAddr0 T.fld_84_1_1 rfl) ?_
        refine rs_k 17 rfl rfl (k_store hw T.scal_33 rfl rfl rfl (by (repeat first | with_reducible exact xH | apply xT); first | done | fail) rfl (by simp only [List.set, Int.reduceToNat, Nat.reduceMul, Nat.reduceAdd]; rfl) (fun w hw => ?_))
        refine ⟨fun hn => absurd (by decide) hn, ?_⟩
        refine rs_done (g_le (xS rfl (xS rfl (xS rfl (xS rfl (xS rfl (xS rfl (xS rfl (xS rfl (xS rfl (xS rfl (xS rfl (xS rfl (xS rfl (xS rfl (xS rfl (xS rfl (Fr.le_refl _))))))))))))))))) ?_)
        refine g_seq ?_
        refine g_region ?_
        refine rl_v rfl rfl rfl (by exact sat_cells hw (by (repeat first | with_reducible exact xH | apply xT); first | done | fail) ⟨rfl, rfl, rfl, trivial⟩) (v_loadAgg (vs := [_, _, _]) T.agg_117_3 rfl rfl) ?_
        refine rl_v rfl rfl rfl (by exact sat_cells hw (by (repeat first | with_reducible exact xH | apply xT); first | done | fail) ⟨rfl, rfl, rfl, trivial⟩) (v_loadAgg (vs := [_, _, _]) T.agg_117_3 rfl rfl) ?_
        refine rl_k rfl (k_buildSlice (cells := [_, _, _, _, _, _]) hw T.sl_108_117_3 T.zero_117 rfl rfl rfl rfl rfl rfl (fun bk6_2 w hw => ?_))
        refine xV rfl rfl rfl (v_assign rfl) ?_
        refine rl_nil (g_le (xK (xS rfl (xS rfl (xS rfl (Fr.le_refl _))))) ?_)
        refine g_ret1 Try.func71 rfl rfl ?_
        rw [h1] at hw
        have hh : halvesN x = [⟨true, x.entries.take k, []⟩, ⟨true, x.entries.drop k, []⟩] := by unfold halvesN; rw [if_pos h1, ← hk]
        rw [hh]
        have hs1 := hs.1
        have hs2 := hs.2
        obtain ⟨g1, l1, r1, hw⟩ := (hw.xQ : Sat E w (RO g :: OwnSl 40 2 (.slice b1 (x.entries.take k).length d1) (x.entries.take k).length cs1 :: OwnSl 40 2 (.slice b2 (x.entries.drop k).length d2) (x.entries.drop k).length cs2 :: pt bk6_2 (.cells [.bool true, .slice b1 (x.entries.take k).length d1, .slice none 0 0, .bool true, .slice b2 (x.entries.drop k).length d2, .slice none 0 0].toArray 117 (0, 0)) :: L)).freeze_sl (bytes := 40) mono_En hels1 rfl (by simp only [reachBytes, List.length_take]; omega)
        obtain ⟨g2, l2, r2, hw⟩ := hw.freeze_sl (bytes := 40) mono_En (hels2.mono mono_En l1) rfl (by simp only [reachBytes, List.length_drop]; omega)
        obtain ⟨g3, l3, r3, hw⟩ := hw.freeze_lit (R := rdNd) (sz := 3) (bytes := 56) mono_Nd (xs := [⟨true, x.entries.take k, []⟩, ⟨true, x.entries.drop k, []⟩]) ((Els.one (cs := [.bool true, .slice b1 (x.entries.take k).length d1, .slice none 0 0]) rfl ⟨_, _, _, rfl, rfl, (mono_sl mono_En l2 r1), rdSl_nil _⟩).append (Els.one (cs := [.bool true, .slice b2 (x.entries.drop k).length d2, .slice none 0 0]) rfl ⟨_, _, _, rfl, rfl, r2, rdSl_nil _⟩)) rfl (by simp [maxLen]) (by simp [reachBytes])
        exact ⟨g3, _, _, l1.trans (l2.trans l3), rfl, r3, hw⟩
    · try with_reducible exact tf_elim h1
      all_goals
        try replace h1 := of_decide_eq_false h1
        have hN : sizeN x = x.kids.length := if_neg (by simp [h1])
        refine g_drawR ord_f71_r5_C07b (by kernel_rfl) T.mixed hw (fun w hw => ?_)
        refine rs_a 0 rfl rfl rfl rfl (v_fieldAddr0 T.fld_117_0_0 rfl) ?_
        refine rs_a 1 rfl rfl rfl rfl (v_fieldAddr0 T.fld_84_2_2 rfl) ?_
        refine rs_a 3 rfl rfl rfl rfl (v_move rfl) ?_
        refine rs_a 6 rfl rfl rfl rfl (v_fieldAddr0 T.fld_117_0_0 rfl) ?_
        refine rs_a 7 rfl rfl rfl rfl (v_fieldAddr0 T.fld_84_2_2 rfl) ?_
        refine rs_a 9 rfl rfl rfl rfl (v_move rfl) ?_
        refine rs_v 2 rfl rfl rfl rfl (OpV.mono (v_load T.scal_82 rfl) (fun w hw => by exact sat_cell hw (by (repeat first | with_reducible exact xH | apply xT); first | done | fail) rfl)) (by exact hw) ?_
        refine rs_a 4 rfl rfl rfl rfl (v_sliceTo T.sl_82_104_5 rfl rfl (by omega) (by omega)) ?_
        refine rs_v 8 rfl rfl rfl rfl (OpV.mono (v_load T.scal_82 rfl) (fun w hw => by exact sat_cell hw (by (repeat first | with_reducible exact xH | apply xT); first | done | fail) rfl)) (by exact hw) ?_
        refine rs_a 10 rfl rfl rfl rfl (v_sliceFromA T.sl_82_104_5 rfl rfl (by omega) (by omega) (by omega)) ?_
        refine rs_k 5 rfl rfl (k_callf Try.func72 rfl rfl rfl rfl ?_)
        refine Calls.mono (cloneKds_calls (rdSl_take k qg (by omega)) (hw.xQ)) ?_
        rintro _ w ⟨v1, rfl, hw⟩
        obtain ⟨b1, d1, rfl, _, _, _⟩ := hw.own_shape
        refine ⟨_, rfl, ?_⟩
        refine ⟨fun _ => (by exact Sat.sub hw (by (repeat (first | with_reducible exact Sub.refl _ | exact Sub.nil _ | (apply Sub.cons; focus ((repeat (first | with_reducible exact Pick.here _ | apply Pick.there)); (first | done | fail))) | with_reducible apply Sub.drop)); first | done | fail)), ?_⟩
        refine rs_a 12 rfl rfl rfl rfl (v_fieldAddr0 T.fld_117_0_0 rfl) ?_
        refine rs_a 13 rfl rfl rfl rfl (v_fieldAddr0 T.fld_84_2_2 rfl) ?_
        refine rs_k 11 rfl rfl (k_callf Try.func72 rfl rfl rfl rfl ?_)
        refine Calls.mono (cloneKds_calls (rdSl_from k qg (by omega)) (hw.xQ)) ?_
        rintro _ w ⟨v2, rfl, hw⟩
        obtain ⟨b2, d2, rfl, _, _, _⟩ := hw.own_shape
        refine ⟨_, rfl, ?_⟩
        refine ⟨fun hn => absurd (by decide) hn, ?_⟩
        refine rs_k 14 rfl rfl (k_store hw T.scal_82 rfl rfl rfl (by (repeat first | with_reducible exact xH | apply xT); first | done | fail) rfl (by simp only [List.set, Int.reduceToNat, Nat.reduceMul, Nat.reduceAdd]; rfl) (fun w hw => ?_))
        refine ⟨fun hn => absurd (by decide) hn, ?_⟩
        refine rs_kv 15 rfl rfl rfl rfl (S' := fun _ => True) trivial (v_fieldAddr0 T.fld_117_0_0 rfl) ?_
        refine rs_kv 16 rfl rfl rfl rfl (S' := fun _ => True) trivial (v_fieldAddr0 T.fld_84_2_2 rfl) ?_
        refine rs_k 17 rfl rfl (k_store hw T.scal_82 rfl rfl rfl (by (repeat first | with_reducible exact xH | apply xT); first | done | fail) rfl (by simp only [List.set, Int.reduceToNat, Nat.reduceMul, Nat.reduceAdd]; rfl) (fun w hw => ?_))
        refine ⟨fun hn => absurd (by decide) hn, ?_⟩
        refine rs_done (g_le (xS rfl (xS rfl (xS rfl (xS rfl (xS rfl (xS rfl (xS rfl (xS rfl (xS rfl (xS rfl (xS rfl (xS rfl (xS rfl (xS rfl (xS rfl (xS rfl (Fr.le_refl _))))))))))))))))) ?_)
        refine g_seq ?_
        refine g_region ?_
        refine rl_v rfl rfl rfl (by exact sat_cells hw (by (repeat first | with_reducible exact xH | apply xT); first | done | fail) ⟨rfl, rfl, rfl, trivial⟩) (v_loadAgg (vs := [_, _, _]) T.agg_117_3 rfl rfl) ?_
        refine rl_v rfl rfl rfl (by exact sat_cells hw (by (repeat first | with_reducible exact xH | apply xT); first | done | fail) ⟨rfl, rfl, rfl, trivial⟩) (v_loadAgg (vs := [_, _, _]) T.agg_117_3 rfl rfl) ?_
        refine rl_k rfl (k_buildSlice (cells := [_, _, _, _, _, _]) hw T.sl_108_117_3 T.zero_117 rfl rfl rfl rfl rfl rfl (fun bk6_2 w hw => ?_))
        refine xV rfl rfl rfl (v_assign rfl) ?_
        refine rl_nil (g_le (xK (xS rfl (xS rfl (xS rfl (Fr.le_refl _))))) ?_)
        refine g_ret1 Try.func71 rfl rfl ?_
        rw [h1] at hw
        have hh : halvesN x = [⟨false, [], x.kids.take k⟩, ⟨false, [], x.kids.drop k⟩] := by unfold halvesN; rw [if_neg (by simp [h1]), ← hk]
        rw [hh]
        have hs1 := hs.1
        have hs2 := hs.2
        obtain ⟨g1, l1, r1, hw⟩ := (hw.xQ : Sat E w (RO g :: OwnSl 104 5 (.slice b1 (x.kids.take k).length d1) (x.kids.take k).length ((x.kids.take k).flatMap Kd.cells) :: OwnSl 104 5 (.slice b2 (x.kids.drop k).length d2) (x.kids.drop k).length ((x.kids.drop k).flatMap Kd.cells) :: pt bk6_2 (.cells [.bool false, .slice none 0 0, .slice b1 (x.kids.take k).length d1, .bool false, .slice none 0 0, .slice b2 (x.kids.drop k).length d2].toArray 117 (0, 0)) :: L)).freeze_sl (bytes := 48) mono_Kd (els_Kd (fun z hz => hfx.2.2.1 z (List.mem_of_mem_take hz))) rfl (by simp only [reachBytes, List.length_take]; omega)
        obtain ⟨g2, l2, r2, hw⟩ := hw.freeze_sl (bytes := 48) mono_Kd (els_Kd (fun z hz => hfx.2.2.1 z (List.mem_of_mem_drop hz))) rfl (by simp only [reachBytes, List.length_drop]; omega)
        obtain ⟨g3, l3, r3, hw⟩ := hw.freeze_lit (R := rdNd) (sz := 3) (bytes := 56) mono_Nd (xs := [⟨false, [], x.kids.take k⟩, ⟨false, [], x.kids.drop k⟩]) ((Els.one (cs := [.bool false, .slice none 0 0, .slice b1 (x.kids.take k).length d1]) rfl ⟨_, _, _, rfl, rfl, rdSl_nil _, (mono_sl mono_Kd l2 r1)⟩).append (Els.one (cs := [.bool false, .slice none 0 0, .slice b2 (x.kids.drop k).length d2]) rfl ⟨_, _, _, rfl, rfl, rdSl_nil _, r2⟩)) rfl (by simp [maxLen]) (by simp [reachBytes])
        exact ⟨g3, _, _, l1.trans (l2.trans l3), rfl, r3, hw⟩
  · skip
    refine (k_alloc hw T.zero_117 rfl rfl (fun bk2_11 w hw => ?_))
    refine ⟨fun _ => (by exact Sat.sub hw (by (repeat (first | with_reducible exact Sub.refl _ | exact Sub.nil _ | (apply Sub.cons; focus ((repeat (first | with_reducible exact Pick.here _ | apply Pick.there)); (first | done | fail))) | with_reducible apply Sub.drop)); first | done | fail)), ?_⟩
    refine rs_k 10 rfl rfl (k_alloc hw T.zero_117 rfl rfl (fun bk2_10 w hw => ?_))
    refine ⟨fun _ => (by exact Sat.sub hw (by (repeat (first | with_reducible exact Sub.refl _ | exact Sub.nil _ | (apply Sub.cons; focus ((repeat (first | with_reducible exact Pick.here _ | apply Pick.there)); (first | done | fail))) | with_reducible apply Sub.drop)); first | done | fail)), ?_⟩
    refine rs_k 12 rfl rfl (k_storeWhole hw T.agg_117_3 rfl rfl (by simp [Value.oneCell']) rfl (by (repeat first | with_reducible exact xH | apply xT); first | done | fail) rfl (fun w hw => ?_))
    refine ⟨fun _ => (by exact Sat.sub hw (by (repeat (first | with_reducible exact Sub.refl _ | exact Sub.nil _ | (apply Sub.cons; focus ((repeat (first | with_reducible exact Pick.here _ | apply Pick.there)); (first | done | fail))) | with_reducible apply Sub.drop)); first | done | fail)), ?_⟩
    refine rs_k 13 rfl rfl (k_storeWhole hw T.agg_117_3 rfl rfl (by simp [Value.oneCell']) rfl (by (repeat first | with_reducible exact xH | apply xT); first | done | fail) rfl (fun w hw => ?_))
    refine ⟨fun hn => absurd (by decide) hn, ?_⟩
    refine rs_done (g_le (xK (xK (xS rfl (xS rfl (xS rfl (xS rfl (xS rfl (xS rfl (xS rfl (xS rfl (xS rfl (xS rfl (Fr.le_refl _))))))))))))) ?_)
    refine g_seq (g_seq ?_)
    refine g_region ?_
    refine xV rfl rfl rfl (v_fieldAddr0 T.fld_117_0_0 rfl) ?_
    refine xV rfl rfl rfl (v_fieldAddr0 T.fld_84_0_0 rfl) ?_
    refine rl_v rfl rfl rfl (by exact sat_cell hw (by (repeat first | with_reducible exact xH | apply xT); first | done | fail) rfl) (v_load T.scal_4 rfl) ?_
    refine rl_nil (g_le (xK (xS rfl (xS rfl (Fr.le_refl _)))) ?_)
    refine g_cond rfl (fun h1 => ?_) (fun h1 => ?_)
    · try with_reducible exact ft_elim h1
      all_goals
        try replace h1 := of_decide_eq_true h1
        have hN : sizeN x = x.entries.length := if_pos h1
        refine g_drawR ord_f71_r4_C07b (by kernel_rfl) T.mixed hw (fun w hw => ?_)
        refine rs_a 0 rfl rfl rfl rfl (v_fieldAddr0 T.fld_117_0_0 rfl) ?_
        refine rs_a 1 rfl rfl rfl rfl (v_fieldAddr0 T.fld_84_1_1 rfl) ?_
        refine rs_a 3 rfl rfl rfl rfl (v_move rfl) ?_
        refine rs_a 6 rfl rfl rfl rfl (v_fieldAddr0 T.fld_117_0_0 rfl) ?_
        refine rs_a 7 rfl rfl rfl rfl (v_fieldAddr0 T.fld_84_1_1 rfl) ?_
        refine rs_a 9 rfl rfl rfl rfl (v_move rfl) ?_
        refine rs_v 2 rfl rfl rfl rfl (OpV.mono (v_load T.scal_33 rfl) (fun w hw => by exact sat_cell hw (by (repeat first | with_reducible exact xH | apply xT); first | done | fail) rfl)) (by exact hw) ?_
        refine rs_a 4 rfl rfl rfl rfl (v_sliceTo T.sl_33_40_2 rfl rfl (by omega) (by omega)) ?_
        refine rs_v 8 rfl rfl rfl rfl (OpV.mono (v_load T.scal_33 rfl) (fun w hw => by exact sat_cell hw (by (repeat first | with_reducible exact xH | apply xT); first | done | fail) rfl)) (by exact hw) ?_
        refine rs_a 10 rfl rfl rfl rfl (v_sliceFromA T.sl_33_40_2 rfl rfl (by omega) (by omega) (by omega)) ?_
        refine rs_k 5 rfl rfl (k_callf Try.func82 rfl rfl rfl rfl ?_)
        refine Calls.mono (cloneEn_calls (rdSl_take k qf (by omega)) (hw.xQ)) ?_
        rintro _ w ⟨v1, cs1, rfl, hels1, hw⟩
        obtain ⟨b1, d1, rfl, _, _, _⟩ := hw.own_shape
        refine ⟨_, rfl, ?_⟩
        refine ⟨fun _ => (by exact Sat.sub hw (by (repeat (first | with_reducible exact Sub.refl _ | exact Sub.nil _ | (apply Sub.cons; focus ((repeat (first | with_reducible exact Pick.here _ | apply Pick.there)); (first | done | fail))) | with_reducible apply Sub.drop)); first | done | fail)), ?_⟩
        refine rs_a 12 rfl rfl rfl rfl (v_fieldAddr0 T.fld_117_0_0 rfl) ?_
        refine rs_a 13 rfl rfl rfl rfl (v_fieldAddr0 T.fld_84_1_1 rfl) ?_
        refine rs_k 11 rfl rfl (k_callf Try.func82 rfl rfl rfl rfl ?_)
        refine Calls.mono (cloneEn_calls (rdSl_from k qf (by omega)) (hw.xQ)) ?_
        rintro _ w ⟨v2, cs2, rfl, hels2, hw⟩
        obtain ⟨b2, d2, rfl, _, _, _⟩ := hw.own_shape
        refine ⟨_, rfl, ?_⟩
        refine ⟨fun hn => absurd (by decide) hn, ?_⟩
        refine rs_k 14 rfl rfl (k_store hw T.scal_33 rfl rfl rfl (by (repeat first | with_reducible exact xH | apply xT); first | done | fail) rfl (by simp only [List.set, Int.reduceToNat, Nat.reduceMul, Nat.reduceAdd]; rfl) (fun w hw => ?_))
        refine ⟨fun hn => absurd (by decide) hn, ?_⟩
        refine rs_kv 15 rfl rfl rfl rfl (S' := fun _ => True) trivial (v_fieldAddr0 T.fld_117_0_0 rfl) ?_
        refine rs_kv 16 rfl rfl rfl rfl (S' := fun _ => True) trivial (v_fieldAddr0 T.fld_84_1_1 rfl) ?_
        refine rs_k 17 rfl rfl (k_store hw T.scal_33 rfl rfl rfl (by (repeat first | with_reducible exact xH | apply xT); first | done | fail) rfl (by simp only [List.set, Int.reduceToNat, Nat.reduceMul, Nat.reduceAdd]; rfl) (fun w hw => ?_))
        refine ⟨fun hn => absurd (by decide) hn, ?_⟩
        refine rs_done (g_le (xS rfl (xS rfl (xS rfl (xS rfl (xS rfl (xS rfl (xS rfl (xS rfl (xS rfl (xS rfl (xS rfl (xS rfl (xS rfl (xS rfl (xS rfl (xS rfl (Fr.le_refl _))))))))))))))))) ?_)
        refine g_seq ?_
        refine g_region ?_
        refine rl_v rfl rfl rfl (by exact sat_cells hw (by (repeat first | with_reducible exact xH | apply xT); first | done | fail) ⟨rfl, rfl, rfl, trivial⟩) (v_loadAgg (vs := [_, _, _]) T.agg_117_3 rfl rfl) ?_
        refine rl_v rfl rfl rfl (by exact sat_cells hw (by (repeat first | with_reducible exact xH | apply xT); first | done | fail) ⟨rfl, rfl, rfl, trivial⟩) (v_loadAgg (vs := [_, _, _]) T.agg_117_3 rfl rfl) ?_
        refine rl_k rfl (k_buildSlice (cells := [_, _, _, _, _, _]) hw T.sl_108_117_3 T.zero_117 rfl rfl rfl rfl rfl rfl (fun bk6_2 w hw => ?_))
        refine xV rfl rfl rfl (v_assign rfl) ?_
        refine rl_nil (g_le (xK (xS rfl (xS rfl (xS rfl (Fr.le_refl _))))) ?_)
        refine g_ret1 Try.func71 rfl rfl ?_
        rw [h1] at hw
        have hh : halvesN x = [⟨true, x.entries.take k, []⟩, ⟨true, x.entries.drop k, []⟩] := by unfold halvesN; rw [if_pos h1, ← hk]
        rw [hh]
        have hs1 := hs.1
        have hs2 := hs.2
        obtain ⟨g1, l1, r1, hw⟩ := (hw.xQ : Sat E w (RO g :: OwnSl 40 2 (.slice b1 (x.entries.take k).length d1) (x.entries.take k).length cs1 :: OwnSl 40 2 (.slice b2 (x.entries.drop k).length d2) (x.entries.drop k).length cs2 :: pt bk6_2 (.cells [.bool true, .slice b1 (x.entries.take k).length d1, .slice none 0 0, .bool true, .slice b2 (x.entries.drop k).length d2, .slice none 0 0].toArray 117 (0, 0)) :: L)).freeze_sl (bytes := 40) mono_En hels1 rfl (by simp only [reachBytes, List.length_take]; omega)
        obtain ⟨g2, l2, r2, hw⟩ := hw.freeze_sl (bytes := 40) mono_En (hels2.mono mono_En l1) rfl (by simp only [reachBytes, List.length_drop]; omega)
        obtain ⟨g3, l3, r3, hw⟩ := hw.freeze_lit (R := rdNd) (sz := 3) (bytes := 56) mono_Nd (xs := [⟨true, x.entries.take k, []⟩, ⟨true, x.entries.drop k, []⟩]) ((Els.one (cs := [.bool true, .slice b1 (x.entries.take k).length d1, .slice none 0 0]) rfl ⟨_, _, _, rfl, rfl, (mono_sl mono_En l2 r1), rdSl_nil _⟩).append (Els.one (cs := [.bool true, .slice b2 (x.entries.drop k).length d2, .slice none 0 0]) rfl ⟨_, _, _, rfl, rfl, r2, rdSl_nil _⟩)) rfl (by simp [maxLen]) (by simp [reachBytes])
        exact ⟨g3, _, _, l1.trans (l2.trans l3), rfl, r3, hw⟩
    · try with_reducible exact tf_elim h1
      all_goals
        try replace h1 := of_decide_eq_false h1
        have hN : sizeN x = x.kids.length := if_neg (by simp [h1])
        refine g_drawR ord_f71_r5_C07b (by kernel_rfl) T.mixed hw (fun w hw => ?_)
        refine rs_a 0 rfl rfl rfl rfl (v_fieldAddr0 T.fld_117_0_0 rfl) ?_
        refine rs_a 1 rfl rfl rfl rfl (v_fieldAddr0 T.fld_84_2_2 rfl) ?_
        refine rs_a 3 rfl rfl rfl rfl (v_move rfl) ?_
        refine rs_a 6 rfl rfl rfl rfl (v_fieldAddr0 T.fld_117_0_0 rfl) ?_
        refine rs_a 7 rfl rfl rfl rfl (v_fieldAddr0 T.fld_84_2_2 rfl) ?_
        refine rs_a 9 rfl rfl rfl rfl (v_move rfl) ?_
        refine rs_v 2 rfl rfl rfl rfl (OpV.mono (v_load T.scal_82 rfl) (fun w hw => by exact sat_cell hw (by (repeat first | with_reducible exact xH | apply xT); first | done | fail) rfl)) (by exact hw) ?_
        refine rs_a 4 rfl rfl rfl rfl (v_sliceTo T.sl_82_104_5 rfl rfl (by omega) (by omega)) ?_
        refine rs_v 8 rfl rfl rfl rfl (OpV.mono (v_load T.scal_82 rfl) (fun w hw => by exact sat_cell hw (by (repeat first | with_reducible exact xH | apply xT); first | done | fail) rfl)) (by exact hw) ?_
        refine rs_a 10 rfl rfl rfl rfl (v_sliceFromA T.sl_82_104_5 rfl rfl (by omega) (by omega) (by omega)) ?_
        refine rs_k 5 rfl rfl (k_callf Try.func72 rfl rfl rfl rfl ?_)
        refine Calls.mono (cloneKds_calls (rdSl_take k qg (by omega)) (hw.xQ)) ?_
        rintro _ w ⟨v1, rfl, hw⟩
        obtain ⟨b1, d1, rfl, _, _, _⟩ := hw.own_shape
        refine ⟨_, rfl, ?_⟩
        refine ⟨fun _ => (by exact Sat.sub hw (by (repeat (first | with_reducible exact Sub.refl _ | exact Sub.nil _ | (apply Sub.cons; focus ((repeat (first | with_reducible exact Pick.here _ | apply Pick.there)); (first | done | fail))) | with_reducible apply Sub.drop)); first | done | fail)), ?_⟩
        refine rs_a 12 rfl rfl rfl rfl (v_fieldAddr0 T.fld_117_0_0 rfl) ?_
        refine rs_a 13 rfl rfl rfl rfl (v_fieldAddr0 T.fld_84_2_2 rfl) ?_
        refine rs_k 11 rfl rfl (k_callf Try.func72 rfl rfl rfl rfl ?_)
        refine Calls.mono (cloneKds_calls (rdSl_from k qg (by omega)) (hw.xQ)) ?_
        rintro _ w ⟨v2, rfl, hw⟩
        obtain ⟨b2, d2, rfl, _, _, _⟩ := hw.own_shape
        refine ⟨_, rfl, ?_⟩
        refine ⟨fun hn => absurd (by decide) hn, ?_⟩
        refine rs_k 14 rfl rfl (k_store hw T.scal_82 rfl rfl rfl (by (repeat first | with_reducible exact xH | apply xT); first | done | fail) rfl (by simp only [List.set, Int.reduceToNat, Nat.reduceMul, Nat.reduceAdd]; rfl) (fun w hw => ?_))
        refine ⟨fun hn => absurd (by decide) hn, ?_⟩
        refine rs_kv 15 rfl rfl rfl rfl (S' := fun _ => True) trivial (v_fieldAddr0 T.fld_117_0_0 rfl) ?_
        refine rs_kv 16 rfl rfl rfl rfl (S' := fun _ => True) trivial (v_fieldAddr0 T.fld_84_2_2 rfl) ?_
        refine rs_k 17 rfl rfl (k_store hw T.scal_82 rfl rfl rfl (by (repeat first | with_reducible exact xH | apply xT); first | done | fail) rfl (by simp only [List.set, Int.reduceToNat, Nat.reduceMul, Nat.reduceAdd]; rfl) (fun w hw => ?_))
        refine ⟨fun hn => absurd (by decide) hn, ?_⟩
        refine rs_done (g_le (xS rfl (xS rfl (xS rfl (xS rfl (xS rfl (xS rfl (xS rfl (xS rfl (xS rfl (xS rfl (xS rfl (xS rfl (xS rfl (xS rfl (xS rfl (xS rfl (Fr.le_refl _))))))))))))))))) ?_)
        refine g_seq ?_
        refine g_region ?_
        refine rl_v rfl rfl rfl (by exact sat_cells hw (by (repeat first | with_reducible exact xH | apply xT); first | done | fail) ⟨rfl, rfl, rfl, trivial⟩) (v_loadAgg (vs := [_, _, _]) T.agg_117_3 rfl rfl) ?_
        refine rl_v rfl rfl rfl (by exact sat_cells hw (by (repeat first | with_reducible exact xH | apply xT); first | done | fail) ⟨rfl, rfl, rfl, trivial⟩) (v_loadAgg (vs := [_, _, _]) T.agg_117_3 rfl rfl) ?_
        refine rl_k rfl (k_buildSlice (cells := [_, _, _, _, _, _]) hw T.sl_108_117_3 T.zero_117 rfl rfl rfl rfl rfl rfl (fun bk6_2 w hw => ?_))
        refine xV rfl rfl rfl (v_assign rfl) ?_
        refine rl_nil (g_le (xK (xS rfl (xS rfl (xS rfl (Fr.le_refl _))))) ?_)
        refine g_ret1 Try.func71 rfl rfl ?_
        rw [h1] at hw
        have hh : halvesN x = [⟨false, [], x.kids.take k⟩, ⟨false, [], x.kids.drop k⟩] := by unfold halvesN; rw [if_neg (by simp [h1]), ← hk]
        rw [hh]
        have hs1 := hs.1
        have hs2 := hs.2
        obtain ⟨g1, l1, r1, hw⟩ := (hw.xQ : Sat E w (RO g :: OwnSl 104 5 (.slice b1 (x.kids.take k).length d1) (x.kids.take k).length ((x.kids.take k).flatMap Kd.cells) :: OwnSl 104 5 (.slice b2 (x.kids.drop k).length d2) (x.kids.drop k).length ((x.kids.drop k).flatMap Kd.cells) :: pt bk6_2 (.cells [.bool false, .slice none 0 0, .slice b1 (x.kids.take k).length d1, .bool false, .slice none 0 0, .slice b2 (x.kids.drop k).length d2].toArray 117 (0, 0)) :: L)).freeze_sl (bytes := 48) mono_Kd (els_Kd (fun z hz => hfx.2.2.1 z (List.mem_of_mem_take hz))) rfl (by simp only [reachBytes, List.length_take]; omega)
        obtain ⟨g2, l2, r2, hw⟩ := hw.freeze_sl (bytes := 48) mono_Kd (els_Kd (fun z hz => hfx.2.2.1 z (List.mem_of_mem_drop hz))) rfl (by simp only [reachBytes, List.length_drop]; omega)
        obtain ⟨g3, l3, r3, hw⟩ := hw.freeze_lit (R := rdNd) (sz := 3) (bytes := 56) mono_Nd (xs := [⟨false, [], x.kids.take k⟩, ⟨false, [], x.kids.drop k⟩]) ((Els.one (cs := [.bool false, .slice none 0 0, .slice b1 (x.kids.take k).length d1]) rfl ⟨_, _, _, rfl, rfl, rdSl_nil _, (mono_sl mono_Kd l2 r1)⟩).append (Els.one (cs := [.bool false, .slice none 0 0, .slice b2 (x.kids.drop k).length d2]) rfl ⟨_, _, _, rfl, rfl, rdSl_nil _, r2⟩)) rfl (by simp [maxLen]) (by simp [reachBytes])
        exact ⟨g3, _, _, l1.trans (l2.trans l3), rfl, r3, hw⟩
end Go.Proofs.Ytdiocmjhencbpaa
