/-
  The search tree over any pages: Put, Get.
-/
import Derived.Test.YtdiocmjhencbpaaC07e
namespace Go.Proofs.Ytdiocmjhencbpaa
set_option maxRecDepth 8000
set_option linter.unusedSimpArgs false
set_option linter.unusedVariables false
open Go Xe
theorem rf0_ok : rf0.ok := ⟨by decide, by decide, by decide, by decide⟩
theorem growO_succ {τ : Type} (P : PgOps τ) (k : Nat) (s : τ) (l : List Nd) : growO P (k + 1) s l = if (layO P s l []).2.1 ≠ 0 then (rf0, (layO P s l []).2.1, (layO P s l []).2.2) else if (layO P s l []).1.length = 1 then (((layO P s l []).1.getD 0 kd0).ref, 0, (layO P s l []).2.2) else growO P k (layO P s l []).2.2 [⟨false, [], (layO P s l []).1⟩] := rfl
theorem ord_f43_r2_C07f : orderOfB Try.f43 2 [8] (.a 2 (.a 4 (.v 0 (.v 1 (.v 3 (.k 5 (.k 6 (.k 7 (.k 8 (.k 9 (.a 10 (.a 11 (.k 12 (.k 13 .done)))))))))))))) = true := by kernel_rfl
set_option maxHeartbeats 2000000 in
theorem Put_calls {τ : Type} (D : Pg τ) {E : Env} {w : World} {L : List As} {g : Hp} {s : τ} {A : As} (r : Rf) (hr : r.ok) {e : En} {ecs : List Value} (hecs : rdEn g ecs e) (hI : D.I g s A) (hw : Sat E w (A :: RO g :: L)) :
    Calls Try.prog 43 #[.iface D.t D.u, .agg r.cells.toArray, .agg ecs.toArray] w fun v w' =>
    ∃ g' A', g.le g' ∧ D.I g' (putT D.ops s r e).2.2 A' ∧ v = .returned (.tuple #[.agg (putT D.ops s r e).1.cells.toArray, .int .i64 (putT D.ops s r e).2.1]) ∧ (putT D.ops s r e).1.ok ∧ Sat E w' (A' :: RO g' :: L) := by
  have hfe := En.fine_of hecs
  obtain ⟨va, vn, vc, rfl, hre⟩ := en_told hecs
  obtain ⟨q0, q1, hq, ⟨p0, hns⟩, p1⟩ := id hre
  simp only [List.cons.injEq, and_true] at hq
  obtain ⟨rfl, rfl⟩ := hq
  refine calls_of_g (n := 51) Try.func43 rfl rfl rfl ?_
  change G _ _ _ _ _ [(0, _), (1, _), (2, _)] _
  refine g_seq ?_
  refine g_region ?_
  refine rl_k rfl (k_box hw rfl rfl rfl (fun bk0_0 w hw => ?_))
  refine rl_k rfl (k_box hw rfl rfl rfl (fun bk0_1 w hw => ?_))
  refine rl_k rfl (k_alloc hw T.zero_26 rfl rfl (fun bk0_2 w hw => ?_))
  refine xV rfl rfl rfl (v_assign rfl) ?_
  refine rl_nil (g_le (xK (xK (xK (xK (Fr.le_refl _))))) ?_)
  refine g_seq ?_
  refine g_region ?_
  refine xV rfl rfl rfl (v_move rfl) ?_
  refine xV rfl rfl rfl (v_build rfl (T.build_101_0 ..)) ?_
  refine rl_k rfl (k_alloc hw T.zero_101 rfl rfl (fun bk1_2 w hw => ?_))
  refine rl_k rfl (k_storeWhole hw T.agg_101_1 rfl rfl (by simp [Value.oneCell']) rfl (by (repeat first | with_reducible exact xH | apply xT); first | done | fail) rfl (fun w hw => ?_))
  refine rl_nil (g_le (xK (xS rfl (xS rfl (Fr.le_refl _)))) ?_)
  refine g_seq ?_
  have hw := hw.xP (A := A)
  refine g_drawB ord_f43_r2_C07f (by kernel_rfl) T.mixed (fun w hw => (hw.pick .at0).drop) hw (fun w hw => ?_)
  refine rs_a 2 rfl rfl rfl rfl (v_fieldAddr0 T.fld_40_0_0 rfl) ?_
  refine rs_a 4 rfl rfl rfl rfl (v_fieldAddr0 T.fld_40_1_1 rfl) ?_
  refine rs_v 0 rfl rfl rfl rfl (OpV.mono (v_loadAgg (vs := [_]) T.agg_101_1 rfl rfl) (fun w hw => by exact sat_cells hw (by (repeat first | with_reducible exact xH | apply xT); first | done | fail) ⟨rfl, trivial⟩)) (by exact Sat.sub hw (by (repeat (first | with_reducible exact Sub.refl _ | exact Sub.nil _ | (apply Sub.cons; focus ((repeat (first | with_reducible exact Pick.here _ | apply Pick.there)); (first | done | fail))) | with_reducible apply Sub.drop)); first | done | fail)) ?_
  refine rs_v 1 rfl rfl rfl rfl (OpV.mono (v_loadAgg (vs := [_, _, _, _]) T.agg_26_4 rfl rfl) (fun w hw => by exact sat_cells hw (by (repeat first | with_reducible exact xH | apply xT); first | done | fail) ⟨rfl, rfl, rfl, rfl, trivial⟩)) (by exact Sat.sub hw (by (repeat (first | with_reducible exact Sub.refl _ | exact Sub.nil _ | (apply Sub.cons; focus ((repeat (first | with_reducible exact Pick.here _ | apply Pick.there)); (first | done | fail))) | with_reducible apply Sub.drop)); first | done | fail)) ?_
  refine rs_v 3 rfl rfl rfl rfl (OpV.mono (v_load T.scal_9 rfl) (fun w hw => by exact sat_cell hw (by (repeat first | with_reducible exact xH | apply xT); first | done | fail) rfl)) (by exact Sat.sub hw (by (repeat (first | with_reducible exact Sub.refl _ | exact Sub.nil _ | (apply Sub.cons; focus ((repeat (first | with_reducible exact Pick.here _ | apply Pick.there)); (first | done | fail))) | with_reducible apply Sub.drop)); first | done | fail)) ?_
  refine rs_kv 5 rfl rfl rfl rfl (by exact sat_cell hw (by (repeat first | with_reducible exact xH | apply xT); first | done | fail) rfl) (v_load T.scal_38 rfl) ?_
  refine rs_k 6 rfl rfl (k_callf Try.func59 rfl rfl rfl rfl ?_)
  refine Calls.mono (cloneVns_calls p1 (hw.xQ)) ?_
  rintro _ w ⟨v1, rfl, hw⟩
  obtain ⟨b1, d1, rfl, _, _, _⟩ := hw.own_shape
  refine ⟨_, rfl, ?_⟩
  refine ⟨fun _ => (by exact Sat.sub hw (by (repeat (first | with_reducible exact Sub.refl _ | exact Sub.nil _ | (apply Sub.cons; focus ((repeat (first | with_reducible exact Pick.here _ | apply Pick.there)); (first | done | fail))) | with_reducible apply Sub.drop)); first | done | fail)), ?_⟩
  refine rs_kv 7 rfl rfl rfl rfl (S' := fun _ => True) trivial (v_build rfl (T.build_40_0_1 ..)) ?_
  refine rs_k 8 rfl rfl (k_callf Try.func58 rfl rfl rfl rfl ?_)
  obtain ⟨g1, hg1, hrv, hw⟩ := (hw.pick (A := RO g) .at1).freeze_sl (bytes := 40) mono_Vn (els_of (f := Vn.cells) (R := rdVn) (fun x => rfl) (fun x hx => ⟨rfl, hfe.2.1 x hx⟩)) rfl hfe.2.2
  have hre1 : rdEn g1 [.string e.name, .slice b1 e.versions.length d1] e := ⟨_, _, rfl, ⟨rfl, hns⟩, hrv⟩
  refine Calls.mono (put_calls D 8 r hr hre1 1 (by omega) (by omega) (D.mono hg1 hI) (hw.xQ)) ?_
  generalize hp : putO D.ops 8 s r e = pq
  obtain ⟨l, b2, s2⟩ := pq
  dsimp only
  rintro _ w ⟨g2, A2, pa, pc, hg2, hI2, rfl, hrd, hss, hw⟩
  refine ⟨_, rfl, ?_⟩
  refine ⟨fun hn => absurd (by decide) hn, ?_⟩
  refine rs_kv 9 rfl rfl rfl rfl (S' := fun _ => True) trivial (v_move rfl) ?_
  refine rs_a 10 rfl rfl rfl rfl (v_extract rfl rfl) ?_
  refine rs_a 11 rfl rfl rfl rfl (v_extract rfl rfl) ?_
  refine rs_kv 12 rfl rfl rfl rfl (S' := fun _ => True) trivial (v_assign rfl) ?_
  refine rs_kv 13 rfl rfl rfl rfl (S' := fun _ => True) trivial (v_assign rfl) ?_
  refine rs_done (g_le (xK (xK (xS rfl (xS rfl (xS rfl (xS rfl (xS rfl (xS rfl (xS rfl (xS rfl (xS rfl (xS rfl (xS rfl (xS rfl (Fr.le_refl _))))))))))))))) ?_)
  refine g_seq (g_block ?_)
  refine g_loopC (σ := Nat × List Nd × Int × Hp × τ × As × Option Addr × Nat) (fun C x => (9, .slice x.2.2.2.2.2.2.1 x.2.1.length x.2.2.2.2.2.2.2) :: (10, .int .i64 x.2.2.1) :: C) [(6, _), (7, _), (8, _)] (by repeat (first | exact Fr.le_nil _ | refine Fr.le_cons rfl ?_)) (fun z w => g.le z.2.2.2.1 ∧ D.I z.2.2.2.1 z.2.2.2.2.1 z.2.2.2.2.2.1 ∧ (z.2.2.1 ≠ 0 → putT D.ops s r e = (rf0, z.2.2.1, z.2.2.2.2.1)) ∧ (z.2.2.1 = 0 → putT D.ops s r e = growO D.ops z.1 z.2.2.2.2.1 z.2.1 ∧ (z.1 = 2 ∧ 1 ≤ z.2.1.length ∧ z.2.1.length ≤ 2 ∨ z.1 = 1 ∧ z.2.1.length = 1) ∧ (rdSl 56 3 rdNd) z.2.2.2.1 [.slice z.2.2.2.2.2.2.1 z.2.1.length z.2.2.2.2.2.2.2] z.2.1 ∧ ∀ x ∈ z.2.1, x.small) ∧ Sat E w (z.2.2.2.2.2.1 :: pt bk1_2 (.cells [Value.iface D.t D.u].toArray 101 (0, 0)) :: pt bk0_2 (.cells [.int .u64 0, .int .i64 0, .int .i64 0, .int .i64 0].toArray 26 (0, 0)) :: RO z.2.2.2.1 :: L)) (fun z => if z.2.2.1 = 0 then z.1 + 1 else 0) ?_ (2, l, b2, g2, s2, A2, pa, pc) (by repeat (first | exact Fr.le_nil _ | refine Fr.le_cons rfl ?_)) ⟨hg1.trans hg2, hI2, fun hb => by simp only [putT, hp]; exact if_pos hb, fun hb => ⟨by simp only at hb; subst hb; simp only [putT, hp]; exact if_neg (by simp), .inl ⟨rfl, by simp only at hb; subst hb; have := putO_len D.ops 8 (s := s) (r := r) (e := e) (by rw [hp]); rwa [hp] at this⟩, hrd, hss⟩, hw.xQ⟩
  rintro ⟨j, l, bad, g3, s3, A3, pa, pc⟩ w ⟨hg3, hI3, hbad, hgood, hw⟩ ih
  dsimp only at hg3 hI3 hbad hgood hw ih ⊢
  refine g_seq (g_seq ?_)
  refine g_region ?_
  refine xV rfl rfl rfl (v_move rfl) ?_
  refine xV rfl rfl rfl (v_eql rfl rfl) ?_
  refine rl_nil (g_le (xK (xK (Fr.le_refl _))) ?_)
  refine g_cond rfl (fun h1 => ?_) (fun h1 => ?_)
  · try with_reducible exact ft_elim h1
    all_goals
      try replace h1 := of_decide_eq_true h1
      obtain rfl : bad = 0 := by omega
      obtain ⟨hgr, hj, hrd, hss⟩ := hgood rfl
      obtain ⟨q, rfl⟩ : ∃ q, j = q + 1 := ⟨j - 1, by omega⟩
      rw [growO_succ] at hgr
      refine g_skip (g_block (g_seq ?_))
      refine g_region ?_
      refine xV rfl rfl rfl (v_assign rfl) ?_
      refine rl_nil (g_le (xK (Fr.le_refl _)) ?_)
      refine g_seq ?_
      refine g_region ?_
      refine rl_v rfl rfl rfl (by exact sat_cells hw (by (repeat first | with_reducible exact xH | apply xT); first | done | fail) ⟨rfl, trivial⟩) (v_loadAgg (vs := [_]) T.agg_101_1 rfl rfl) ?_
      refine xV rfl rfl rfl (v_move rfl) ?_
      refine rl_k rfl (k_callf Try.func60 rfl rfl rfl rfl ?_)
      refine Calls.mono (lay_calls D hrd hss (by omega) hI3 (hw.xQ)) ?_
      generalize hly : layO D.ops s3 l [] = lq at hgr ⊢
      obtain ⟨ks, b3, s4⟩ := lq
      dsimp only at hgr ⊢
      rintro _ w ⟨g4, A4, qa, qc, hg4, hI4, rfl, hkok, hkl, hw⟩
      refine ⟨_, rfl, ?_⟩
      refine xV rfl rfl rfl (v_move rfl) ?_
      refine xV rfl rfl rfl (v_extract rfl rfl) ?_
      refine xV rfl rfl rfl (v_extract rfl rfl) ?_
      refine xV rfl rfl rfl (v_assign rfl) ?_
      refine xV rfl rfl rfl (v_assign rfl) ?_
      refine rl_nil (g_le (xK (xK (xK (xK (xK (xK (xK (xK (Fr.le_refl _))))))))) ?_)
      refine g_seq (g_seq ?_)
      refine g_region ?_
      refine xV rfl rfl rfl (v_move rfl) ?_
      refine xV rfl rfl rfl (v_eql rfl rfl) ?_
      refine xV rfl rfl rfl (v_move rfl) ?_
      refine rl_split (s := 36) rfl (fun g6_2 => ?_) (fun g6_2 => ?_)
      · try with_reducible exact ft_elim g6_2
        all_goals
          try replace g6_2 := of_decide_eq_true g6_2
          refine rl_vg (met_on rfl rfl rfl rfl) rfl rfl (S := fun _ => True) trivial (v_move rfl) ?_
          refine rl_vg (met_on rfl rfl rfl rfl) rfl rfl (S := fun _ => True) trivial (v_lenSlice T.sl_82_104_5 rfl) ?_
          refine rl_vg (met_on rfl rfl rfl rfl) rfl rfl (S := fun _ => True) trivial (v_eql rfl rfl) ?_
          refine xV rfl rfl rfl (v_pick_true rfl rfl) ?_
          refine rl_nil (g_le (xK (xK (xK (xK (xK (xK (xK (xK (Fr.le_refl _))))))))) ?_)
          refine g_cond rfl (fun h2 => ?_) (fun h2 => ?_)
          · try with_reducible exact ft_elim h2
            all_goals
              try replace h2 := of_decide_eq_true h2
              obtain rfl : b3 = 0 := by omega
              refine g_seq ?_
              have hz := hw
              clear hw
              obtain ⟨a8, c8, hv8, _, _, ha8⟩ := (hz.xP (A := OwnSl 104 5 (.slice qa ks.length qc) ks.length (ks.flatMap Kd.cells))).own_shape
              simp only [Value.slice.injEq] at hv8
              obtain ⟨rfl, _, rfl⟩ := hv8
              obtain ⟨vb, rfl⟩ := ha8 (by omega)
              have hw := hz
              obtain ⟨y, hy⟩ : ∃ y, ks[0]? = some y := ⟨_, List.getElem?_eq_getElem (by omega)⟩
              have hsub := subAt_flat (f := Kd.cells) (sz := 5) (fun _ => rfl) hy
              have hsubr : SubAt (ks.flatMap Kd.cells) (0 + (0 : Int).toNat * 5 + 1) y.ref.cells := hsub.2
              refine g_region ?_
              refine xV rfl rfl rfl (v_move rfl) ?_
              refine xV rfl rfl rfl (v_indexAddr T.sl_82_104_5 rfl rfl (by omega) (by omega)) ?_
              refine xV rfl rfl rfl (v_fieldAddr0 T.fld_104_1_1 rfl) ?_
              refine rl_v rfl rfl rfl (by exact own_cells hw (by (repeat first | with_reducible exact xH | apply xT); first | done | fail) (by assumption)) (v_loadAgg (vs := [_, _, _, _]) T.agg_26_4 rfl rfl) ?_
              refine rl_k rfl (k_storeWhole hw T.agg_26_4 rfl rfl (by simp [Value.oneCell']) rfl (by (repeat first | with_reducible exact xH | apply xT); first | done | fail) rfl (fun w hw => ?_))
              refine xV rfl rfl rfl (v_assign rfl) ?_
              refine rl_nil (g_le (xK (xK (xK (xK (xK (Fr.le_refl _)))))) ?_)
              refine g_res2 Try.func43 rfl ⟨_, rfl, holds_agg (vs := [_, _, _, _]) T.agg_26_4 rfl (by exact sat_cells hw (by (repeat first | with_reducible exact xH | apply xT); first | done | fail) ⟨rfl, rfl, rfl, rfl, trivial⟩)⟩ rfl ?_
              rw [if_neg (by simp), if_pos (by omega), List.getD_eq_getElem?_getD, hy, Option.getD_some] at hgr
              rw [hgr]
              exact ⟨g4, A4, hg3.trans hg4, hI4, rfl, (hkok y (List.mem_of_getElem? hy)).2, hw.xQ⟩
          · try with_reducible exact tf_elim h2
            all_goals
              try replace h2 := of_decide_eq_false h2
              refine g_skip ?_
              refine g_region ?_
              refine xV rfl rfl rfl (v_move rfl) ?_
              refine xV rfl rfl rfl (v_build rfl (T.build_84_2 ..)) ?_
              refine xV rfl rfl rfl (v_build rfl (T.build_117_0 ..)) ?_
              refine rl_k rfl (k_buildSlice (cells := [_, _, _]) hw T.sl_108_117_3 T.zero_117 rfl rfl rfl rfl rfl rfl (fun bk8_3 w hw => ?_))
              refine xV rfl rfl rfl (v_assign rfl) ?_
              refine rl_nil (g_le (xK (xK (xK (xK (xK (Fr.le_refl _)))))) ?_)
              obtain ⟨g5, hg5, hrk, hw⟩ := (hw.xQ : Sat E w (RO g4 :: OwnSl 104 5 (.slice qa ks.length qc) ks.length (ks.flatMap Kd.cells) :: pt bk8_3 (.cells [.bool false, .slice none 0 0, .slice qa ks.length qc].toArray 117 (0, 0)) :: A4 :: pt bk1_2 (.cells [Value.iface D.t D.u].toArray 101 (0, 0)) :: pt bk0_2 (.cells [.int .u64 0, .int .i64 0, .int .i64 0, .int .i64 0].toArray 26 (0, 0)) :: L)).freeze_sl (bytes := 48) mono_Kd (els_Kd hkok) rfl (by simp only [reachBytes]; omega)
              obtain ⟨g6, hg6, hrd6, hw⟩ := hw.freeze_lit (R := rdNd) (sz := 3) (bytes := 56) mono_Nd (xs := [⟨false, [], ks⟩]) (Els.one rfl ⟨_, _, _, rfl, rfl, rdSl_nil _, hrk⟩) rfl (by simp [maxLen]) (by simp [reachBytes])
              refine g_inBlock ?_
              obtain rfl : b3 = 0 := by omega
              have hle9 := layO_len D.ops l s3 [] (by rw [hly])
              rw [hly] at hle9
              simp only [List.length_nil, Nat.zero_add] at hle9
              rw [if_neg (by simp), if_neg (by omega)] at hgr
              exact g_le (by repeat (first | exact Fr.le_nil _ | refine Fr.le_cons rfl ?_)) (ih (q, [⟨false, [], ks⟩], 0, g6, s4, A4, some ⟨bk8_3, 0, none⟩, 1) w ⟨((hg3.trans hg4).trans hg5).trans hg6, D.mono (hg5.trans hg6) hI4, fun hb => absurd rfl hb, fun _ => ⟨hgr, .inr ⟨by simp only; omega, rfl⟩, hrd6, fun x hx => by rw [List.mem_singleton.1 hx]; exact ⟨by simp, by simp only; omega, by simp, by simp⟩⟩, hw.xQ⟩ (by simp))
      · try with_reducible exact tf_elim g6_2
        all_goals
          try replace g6_2 := of_decide_eq_false g6_2
          refine rl_off (met_off rfl rfl rfl rfl rfl) rfl rfl ?_
          refine rl_off (met_off rfl rfl rfl rfl rfl) rfl rfl ?_
          refine rl_off (met_off rfl rfl rfl rfl rfl) rfl rfl ?_
          refine xV rfl rfl rfl (v_pick_false rfl rfl) ?_
          refine rl_nil (g_le (xK (xK (xK (xK (xK (xK (xK (xK (Fr.le_refl _))))))))) ?_)
          refine g_cond_false rfl ?_
          refine g_skip ?_
          refine g_region ?_
          refine xV rfl rfl rfl (v_move rfl) ?_
          refine xV rfl rfl rfl (v_build rfl (T.build_84_2 ..)) ?_
          refine xV rfl rfl rfl (v_build rfl (T.build_117_0 ..)) ?_
          refine rl_k rfl (k_buildSlice (cells := [_, _, _]) hw T.sl_108_117_3 T.zero_117 rfl rfl rfl rfl rfl rfl (fun bk8_3 w hw => ?_))
          refine xV rfl rfl rfl (v_assign rfl) ?_
          refine rl_nil (g_le (xK (xK (xK (xK (xK (Fr.le_refl _)))))) ?_)
          obtain ⟨g5, hg5, hrk, hw⟩ := (hw.xQ : Sat E w (RO g4 :: OwnSl 104 5 (.slice qa ks.length qc) ks.length (ks.flatMap Kd.cells) :: pt bk8_3 (.cells [.bool false, .slice none 0 0, .slice qa ks.length qc].toArray 117 (0, 0)) :: A4 :: pt bk1_2 (.cells [Value.iface D.t D.u].toArray 101 (0, 0)) :: pt bk0_2 (.cells [.int .u64 0, .int .i64 0, .int .i64 0, .int .i64 0].toArray 26 (0, 0)) :: L)).freeze_sl (bytes := 48) mono_Kd (els_Kd hkok) rfl (by simp only [reachBytes]; omega)
          obtain ⟨g6, hg6, hrd6, hw⟩ := hw.freeze_lit (R := rdNd) (sz := 3) (bytes := 56) mono_Nd (xs := [⟨false, [], ks⟩]) (Els.one rfl ⟨_, _, _, rfl, rfl, rdSl_nil _, hrk⟩) rfl (by simp [maxLen]) (by simp [reachBytes])
          refine g_inBlock ?_
          have hb3 : b3 ≠ 0 := by omega
          rw [if_pos hb3] at hgr
          exact g_le (by repeat (first | exact Fr.le_nil _ | refine Fr.le_cons rfl ?_)) (ih (q, [⟨false, [], ks⟩], b3, g6, s4, A4, some ⟨bk8_3, 0, none⟩, 1) w ⟨((hg3.trans hg4).trans hg5).trans hg6, D.mono (hg5.trans hg6) hI4, fun _ => hgr, fun hb => absurd hb hb3, hw.xQ⟩ (by simp [hb3]))
  · try with_reducible exact tf_elim h1
    all_goals
      try replace h1 := of_decide_eq_false h1
      refine g_exit rfl (g_seq ?_)
      refine g_region ?_
      refine xV rfl rfl rfl (v_build rfl (T.build_26 ..)) ?_
      refine xV rfl rfl rfl (v_move rfl) ?_
      refine rl_k rfl (k_storeWhole hw T.agg_26_4 rfl rfl (by simp [Value.oneCell']) rfl (by (repeat first | with_reducible exact xH | apply xT); first | done | fail) rfl (fun w hw => ?_))
      refine xV rfl rfl rfl (v_assign rfl) ?_
      refine rl_nil (g_le (xK (xS rfl (xS rfl (Fr.le_refl _)))) ?_)
      refine g_res2 Try.func43 rfl ⟨_, rfl, holds_agg (vs := [_, _, _, _]) T.agg_26_4 rfl (by exact sat_cells hw (by (repeat first | with_reducible exact xH | apply xT); first | done | fail) ⟨rfl, rfl, rfl, rfl, trivial⟩)⟩ rfl ?_
      rw [hbad (by omega)]
      exact ⟨g3, A3, hg3, hI3, rfl, rf0_ok, hw.xQ⟩
end Go.Proofs.Ytdiocmjhencbpaa
