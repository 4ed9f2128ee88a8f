/-
  Pages in memory: what was handed in is not theirs; spoil.
-/
import Derived.Test.YtmbngahboaljpaaH12
namespace Go.Proofs.Ytmbngahboaljpaa
set_option maxRecDepth 8000
set_option linter.unusedSimpArgs false
set_option linter.unusedVariables false
open Go Xe
/-- A part that is only read for a while. -/
theorem _root_.Go.Proofs.Ytmbngahboaljpaa.Xe.Sat.lend {E : Env} {w : World} {L : List As} {A : As} (h : Sat E w (A :: L)) : ∃ h', A h' ∧ Sat E w (RO h' :: L) := by
  obtain ⟨e, k, ⟨h1, h2, d, rfl, hA, hL⟩, hs⟩ := h
  exact ⟨h1, hA, e, _, ⟨h1, h2, d, rfl, rfl, hL⟩, hs⟩
theorem _root_.Go.Proofs.Ytmbngahboaljpaa.Xe.Sat.back {E : Env} {w : World} {L : List As} {A : As} {h' : Hp} (hA : A h') (h : Sat E w (RO h' :: L)) : Sat E w (A :: L) := by
  obtain ⟨e, k, ⟨h1, h2, d, rfl, hR, hL⟩, hs⟩ := h
  have hR : h1 = h' := hR
  subst hR
  exact ⟨e, _, ⟨h1, h2, d, rfl, hA, hL⟩, hs⟩
theorem ver_lit {vb : Nat} {x : Vn} {h' : Hp} (hA : pt vb (.cells x.cells.toArray 53 (0, 0)) h') (hx : x.ok) : (rdSl 40 3 rdVn) h' [.slice (some ⟨vb, 0, none⟩) 1 1] [x] := by
  have h1 : ∀ j v, x.cells[j]? = some v → h'.cell vb (0 + j) = some v := fun j v hj => by
    have h2 : h' vb = some (.cells x.cells.toArray 53 (0, 0)) := by rw [hA vb, if_pos rfl]
    simp only [Hp.cell, h2, Nat.zero_add]
    simpa using hj
  refine .inr ⟨vb, 0, 1, rfl, by simp, by simp [reachBytes], by simp [maxLen], fun i y hy => ?_⟩
  match i, hy with
  | 0, hy =>
    obtain rfl : x = y := by simpa using hy
    exact ⟨x.cells, HAt.mk fun j v hj => by simpa using h1 j v hj, rfl, rfl, hx⟩
  | i + 1, hy => simp at hy
theorem ord_f20_r2_H14 : orderOfB Try.f20 2 [8] (.a 2 (.a 4 (.v 0 (.v 1 (.v 3 (.k 5 (.k 6 (.k 7 (.k 8 (.k 9 (.a 10 (.a 11 (.k 12 (.k 13 .done)))))))))))))) = true := by kernel_rfl
set_option maxHeartbeats 2000000 in
theorem Put2_calls {τ : Type} (D : Pg τ) {E : Env} {w : World} {L : List As} {g ge : Hp} {s : τ} {A : As} (r : Rf) (hr : r.ok) {e : En} {ecs : List Value} (hecs : rdEn ge ecs e) (hI : D.I g s A) (hw : Sat E w (A :: RO g :: RO ge :: L)) :
    Calls Try.prog 20 #[.iface D.t D.u, .agg r.cells.toArray, .agg ecs.toArray] w fun v w' =>
    ∃ g' A', g.le g' ∧ D.I g' (putT D.ops s r e).2.2 A' ∧ v = .returned (.tuple #[.agg (putT D.ops s r e).1.cells.toArray, .int .i64 (putT D.ops s r e).2.1]) ∧ (putT D.ops s r e).1.ok ∧ Sat E w' (A' :: RO g' :: RO ge :: L) := by
  have hfe := En.fine_of hecs
  obtain ⟨va, vn, vc, rfl, hre⟩ := en_told hecs
  obtain ⟨q0, q1, hq, ⟨p0, hns⟩, p1⟩ := id hre
  simp only [List.cons.injEq, and_true] at hq
  obtain ⟨rfl, rfl⟩ := hq
  refine calls_of_g (n := 51) Try.func20 rfl rfl rfl ?_
  change G _ _ _ _ _ [(0, _), (1, _), (2, _)] _
  refine g_seq ?_
  refine g_region ?_
  refine rl_k rfl (k_box hw rfl rfl rfl (fun bk0_0 w hw => ?_))
  refine rl_k rfl (k_box hw rfl rfl rfl (fun bk0_1 w hw => ?_))
  refine rl_k rfl (k_alloc hw T.zero_25 rfl rfl (fun bk0_2 w hw => ?_))
  refine xV rfl rfl rfl (v_assign rfl) ?_
  refine rl_nil (g_le (xK (xK (xK (xK (Fr.le_refl _))))) ?_)
  refine g_seq ?_
  refine g_region ?_
  refine xV rfl rfl rfl (v_move rfl) ?_
  refine xV rfl rfl rfl (v_build rfl (T.build_102_0 ..)) ?_
  refine rl_k rfl (k_alloc hw T.zero_102 rfl rfl (fun bk1_2 w hw => ?_))
  refine rl_k rfl (k_storeWhole hw T.agg_102_1 rfl rfl (by simp [Value.oneCell']) rfl (by (repeat first | with_reducible exact xH | apply xT); first | done | fail) rfl (fun w hw => ?_))
  refine rl_nil (g_le (xK (xS rfl (xS rfl (Fr.le_refl _)))) ?_)
  refine g_seq ?_
  have hw := hw.xP (A := A)
  refine g_drawB ord_f20_r2_H14 (by kernel_rfl) T.mixed (fun w hw => (hw.pick .at0).drop) hw (fun w hw => ?_)
  refine rs_a 2 rfl rfl rfl rfl (v_fieldAddr0 T.fld_49_0_0 rfl) ?_
  refine rs_a 4 rfl rfl rfl rfl (v_fieldAddr0 T.fld_49_1_1 rfl) ?_
  refine rs_v 0 rfl rfl rfl rfl (OpV.mono (v_loadAgg (vs := [_]) T.agg_102_1 rfl rfl) (fun w hw => by exact sat_cells hw (by (repeat first | with_reducible exact xH | apply xT); first | done | fail) ⟨rfl, trivial⟩)) (by exact Sat.sub hw (by (repeat (first | with_reducible exact Sub.refl _ | exact Sub.nil _ | (apply Sub.cons; focus ((repeat (first | with_reducible exact Pick.here _ | apply Pick.there)); (first | done | fail))) | with_reducible apply Sub.drop)); first | done | fail)) ?_
  refine rs_v 1 rfl rfl rfl rfl (OpV.mono (v_loadAgg (vs := [_, _, _, _]) T.agg_25_4 rfl rfl) (fun w hw => by exact sat_cells hw (by (repeat first | with_reducible exact xH | apply xT); first | done | fail) ⟨rfl, rfl, rfl, rfl, trivial⟩)) (by exact Sat.sub hw (by (repeat (first | with_reducible exact Sub.refl _ | exact Sub.nil _ | (apply Sub.cons; focus ((repeat (first | with_reducible exact Pick.here _ | apply Pick.there)); (first | done | fail))) | with_reducible apply Sub.drop)); first | done | fail)) ?_
  refine rs_v 3 rfl rfl rfl rfl (OpV.mono (v_load T.scal_9 rfl) (fun w hw => by exact sat_cell hw (by (repeat first | with_reducible exact xH | apply xT); first | done | fail) rfl)) (by exact Sat.sub hw (by (repeat (first | with_reducible exact Sub.refl _ | exact Sub.nil _ | (apply Sub.cons; focus ((repeat (first | with_reducible exact Pick.here _ | apply Pick.there)); (first | done | fail))) | with_reducible apply Sub.drop)); first | done | fail)) ?_
  refine rs_kv 5 rfl rfl rfl rfl (by exact sat_cell hw (by (repeat first | with_reducible exact xH | apply xT); first | done | fail) rfl) (v_load T.scal_47 rfl) ?_
  refine rs_k 6 rfl rfl (k_callf Try.func44 rfl rfl rfl rfl ?_)
  refine Calls.mono (cloneVns_calls p1 (hw.xQ)) ?_
  rintro _ w ⟨v1, rfl, hw⟩
  obtain ⟨b1, d1, rfl, _, _, _⟩ := hw.own_shape
  refine ⟨_, rfl, ?_⟩
  refine ⟨fun _ => (by exact Sat.sub hw (by (repeat (first | with_reducible exact Sub.refl _ | exact Sub.nil _ | (apply Sub.cons; focus ((repeat (first | with_reducible exact Pick.here _ | apply Pick.there)); (first | done | fail))) | with_reducible apply Sub.drop)); first | done | fail)), ?_⟩
  refine rs_kv 7 rfl rfl rfl rfl (S' := fun _ => True) trivial (v_build rfl (T.build_49_0_1 ..)) ?_
  refine rs_k 8 rfl rfl (k_callf Try.func43 rfl rfl rfl rfl ?_)
  obtain ⟨g1, hg1, hrv, hw⟩ := ((hw.xP (A := VnsAt _ e.versions)).xP (A := RO g)).freeze_sl (bytes := 40) mono_Vn (els_of (f := Vn.cells) (R := rdVn) (fun x => rfl) (fun x hx => ⟨rfl, hfe.2.1 x hx⟩)) rfl hfe.2.2
  have hre1 : rdEn g1 [.string e.name, .slice b1 e.versions.length d1] e := ⟨_, _, rfl, ⟨rfl, hns⟩, hrv⟩
  refine Calls.mono (put_calls D 8 r hr hre1 1 (by omega) (by omega) (D.mono hg1 hI) (hw.xQ)) ?_
  generalize hp : putO D.ops 8 s r e = pq
  obtain ⟨l, b2, s2⟩ := pq
  dsimp only
  rintro _ w ⟨g2, A2, pa, pc, hg2, hI2, rfl, hrd, hss, hw⟩
  refine ⟨_, rfl, ?_⟩
  refine ⟨fun hn => absurd (by decide) hn, ?_⟩
  refine rs_kv 9 rfl rfl rfl rfl (S' := fun _ => True) trivial (v_move rfl) ?_
  refine rs_a 10 rfl rfl rfl rfl (v_extract rfl rfl) ?_
  refine rs_a 11 rfl rfl rfl rfl (v_extract rfl rfl) ?_
  refine rs_kv 12 rfl rfl rfl rfl (S' := fun _ => True) trivial (v_assign rfl) ?_
  refine rs_kv 13 rfl rfl rfl rfl (S' := fun _ => True) trivial (v_assign rfl) ?_
  refine rs_done (g_le (xK (xK (xS rfl (xS rfl (xS rfl (xS rfl (xS rfl (xS rfl (xS rfl (xS rfl (xS rfl (xS rfl (xS rfl (xS rfl (Fr.le_refl _))))))))))))))) ?_)
  refine g_seq (g_block ?_)
  refine g_loopC (σ := Nat × List Nd × Int × Hp × τ × As × Option Addr × Nat) (fun C x => (9, .slice x.2.2.2.2.2.2.1 x.2.1.length x.2.2.2.2.2.2.2) :: (10, .int .i64 x.2.2.1) :: C) [(6, _), (7, _), (8, _)] (by repeat (first | exact Fr.le_nil _ | refine Fr.le_cons rfl ?_)) (fun z w => g.le z.2.2.2.1 ∧ D.I z.2.2.2.1 z.2.2.2.2.1 z.2.2.2.2.2.1 ∧ (z.2.2.1 ≠ 0 → putT D.ops s r e = (rf0, z.2.2.1, z.2.2.2.2.1)) ∧ (z.2.2.1 = 0 → putT D.ops s r e = growO D.ops z.1 z.2.2.2.2.1 z.2.1 ∧ (z.1 = 2 ∧ 1 ≤ z.2.1.length ∧ z.2.1.length ≤ 2 ∨ z.1 = 1 ∧ z.2.1.length = 1) ∧ (rdSl 56 3 rdNd) z.2.2.2.1 [.slice z.2.2.2.2.2.2.1 z.2.1.length z.2.2.2.2.2.2.2] z.2.1 ∧ ∀ x ∈ z.2.1, x.small) ∧ Sat E w (z.2.2.2.2.2.1 :: pt bk1_2 (.cells [Value.iface D.t D.u].toArray 102 (0, 0)) :: pt bk0_2 (.cells [.int .u64 0, .int .i64 0, .int .i64 0, .int .i64 0].toArray 25 (0, 0)) :: RO z.2.2.2.1 :: RO ge :: L)) (fun z => if z.2.2.1 = 0 then z.1 + 1 else 0) ?_ (2, l, b2, g2, s2, A2, pa, pc) (by repeat (first | exact Fr.le_nil _ | refine Fr.le_cons rfl ?_)) ⟨hg1.trans hg2, hI2, fun hb => by simp only [putT, hp]; exact if_pos hb, fun hb => ⟨by simp only at hb; subst hb; simp only [putT, hp]; exact if_neg (by simp), .inl ⟨rfl, by simp only at hb; subst hb; have := putO_len D.ops 8 (s := s) (r := r) (e := e) (by rw [hp]); rwa [hp] at this⟩, hrd, hss⟩, hw.xQ⟩
  rintro ⟨j, l, bad, g3, s3, A3, pa, pc⟩ w ⟨hg3, hI3, hbad, hgood, hw⟩ ih
  dsimp only at hg3 hI3 hbad hgood hw ih ⊢
  refine g_seq (g_seq ?_)
  refine g_region ?_
  refine xV rfl rfl rfl (v_move rfl) ?_
  refine xV rfl rfl rfl (v_eql rfl rfl) ?_
  refine rl_nil (g_le (xK (xK (Fr.le_refl _))) ?_)
  refine g_cond rfl (fun h1 => ?_) (fun h1 => ?_)
  · try with_reducible exact ft_elim h1
    all_goals
      try replace h1 := of_decide_eq_true h1
      obtain rfl : bad = 0 := by omega
      obtain ⟨hgr, hj, hrd, hss⟩ := hgood rfl
      obtain ⟨q, rfl⟩ : ∃ q, j = q + 1 := ⟨j - 1, by omega⟩
      rw [growO_succ] at hgr
      refine g_skip (g_block (g_seq ?_))
      refine g_region ?_
      refine xV rfl rfl rfl (v_assign rfl) ?_
      refine rl_nil (g_le (xK (Fr.le_refl _)) ?_)
      refine g_seq ?_
      refine g_region ?_
      refine rl_v rfl rfl rfl (by exact sat_cells hw (by (repeat first | with_reducible exact xH | apply xT); first | done | fail) ⟨rfl, trivial⟩) (v_loadAgg (vs := [_]) T.agg_102_1 rfl rfl) ?_
      refine xV rfl rfl rfl (v_move rfl) ?_
      refine rl_k rfl (k_callf Try.func45 rfl rfl rfl rfl ?_)
      refine Calls.mono (lay_calls D hrd hss (by omega) hI3 (hw.xQ)) ?_
      generalize hly : layO D.ops s3 l [] = lq at hgr ⊢
      obtain ⟨ks, b3, s4⟩ := lq
      dsimp only at hgr ⊢
      rintro _ w ⟨g4, A4, qa, qc, hg4, hI4, rfl, hkok, hkl, hw⟩
      refine ⟨_, rfl, ?_⟩
      refine xV rfl rfl rfl (v_move rfl) ?_
      refine xV rfl rfl rfl (v_extract rfl rfl) ?_
      refine xV rfl rfl rfl (v_extract rfl rfl) ?_
      refine xV rfl rfl rfl (v_assign rfl) ?_
      refine xV rfl rfl rfl (v_assign rfl) ?_
      refine rl_nil (g_le (xK (xK (xK (xK (xK (xK (xK (xK (Fr.le_refl _))))))))) ?_)
      refine g_seq (g_seq ?_)
      refine g_region ?_
      refine xV rfl rfl rfl (v_move rfl) ?_
      refine xV rfl rfl rfl (v_eql rfl rfl) ?_
      refine xV rfl rfl rfl (v_move rfl) ?_
      refine rl_split (s := 36) rfl (fun g6_2 => ?_) (fun g6_2 => ?_)
      · try with_reducible exact ft_elim g6_2
        all_goals
          try replace g6_2 := of_decide_eq_true g6_2
          refine rl_vg (met_on rfl rfl rfl rfl) rfl rfl (S := fun _ => True) trivial (v_move rfl) ?_
          refine rl_vg (met_on rfl rfl rfl rfl) rfl rfl (S := fun _ => True) trivial (v_lenSlice T.sl_30_70_5 rfl) ?_
          refine rl_vg (met_on rfl rfl rfl rfl) rfl rfl (S := fun _ => True) trivial (v_eql rfl rfl) ?_
          refine xV rfl rfl rfl (v_pick_true rfl rfl) ?_
          refine rl_nil (g_le (xK (xK (xK (xK (xK (xK (xK (xK (Fr.le_refl _))))))))) ?_)
          refine g_cond rfl (fun h2 => ?_) (fun h2 => ?_)
          · try with_reducible exact ft_elim h2
            all_goals
              try replace h2 := of_decide_eq_true h2
              obtain rfl : b3 = 0 := by omega
              refine g_seq ?_
              have hz := hw
              clear hw
              obtain ⟨a8, c8, hv8, _, _, ha8⟩ := (hz.xP (A := OwnSl 70 5 (.slice qa ks.length qc) ks.length (ks.flatMap Kd.cells))).own_shape
              simp only [Value.slice.injEq] at hv8
              obtain ⟨rfl, _, rfl⟩ := hv8
              obtain ⟨vb, rfl⟩ := ha8 (by omega)
              have hw := hz
              obtain ⟨y, hy⟩ : ∃ y, ks[0]? = some y := ⟨_, List.getElem?_eq_getElem (by omega)⟩
              have hsub := subAt_flat (f := Kd.cells) (sz := 5) (fun _ => rfl) hy
              have hsubr : SubAt (ks.flatMap Kd.cells) (0 + (0 : Int).toNat * 5 + 1) y.ref.cells := hsub.2
              refine g_region ?_
              refine xV rfl rfl rfl (v_move rfl) ?_
              refine xV rfl rfl rfl (v_indexAddr T.sl_30_70_5 rfl rfl (by omega) (by omega)) ?_
              refine xV rfl rfl rfl (v_fieldAddr0 T.fld_70_1_1 rfl) ?_
              refine rl_v rfl rfl rfl (by exact own_cells hw (by (repeat first | with_reducible exact xH | apply xT); first | done | fail) (by assumption)) (v_loadAgg (vs := [_, _, _, _]) T.agg_25_4 rfl rfl) ?_
              refine rl_k rfl (k_storeWhole hw T.agg_25_4 rfl rfl (by simp [Value.oneCell']) rfl (by (repeat first | with_reducible exact xH | apply xT); first | done | fail) rfl (fun w hw => ?_))
              refine xV rfl rfl rfl (v_assign rfl) ?_
              refine rl_nil (g_le (xK (xK (xK (xK (xK (Fr.le_refl _)))))) ?_)
              refine g_res2 Try.func20 rfl ⟨_, rfl, holds_agg (vs := [_, _, _, _]) T.agg_25_4 rfl (by exact sat_cells hw (by (repeat first | with_reducible exact xH | apply xT); first | done | fail) ⟨rfl, rfl, rfl, rfl, trivial⟩)⟩ rfl ?_
              rw [if_neg (by simp), if_pos (by omega), List.getD_eq_getElem?_getD, hy, Option.getD_some] at hgr
              rw [hgr]
              exact ⟨g4, A4, hg3.trans hg4, hI4, rfl, (hkok y (List.mem_of_getElem? hy)).2, hw.xQ⟩
          · try with_reducible exact tf_elim h2
            all_goals
              try replace h2 := of_decide_eq_false h2
              refine g_skip ?_
              refine g_region ?_
              refine xV rfl rfl rfl (v_move rfl) ?_
              refine xV rfl rfl rfl (v_build rfl (T.build_32_2 ..)) ?_
              refine xV rfl rfl rfl (v_build rfl (T.build_110_0 ..)) ?_
              refine rl_k rfl (k_buildSlice (cells := [_, _, _]) hw T.sl_103_110_3 T.zero_110 rfl rfl rfl rfl rfl rfl (fun bk8_3 w hw => ?_))
              refine xV rfl rfl rfl (v_assign rfl) ?_
              refine rl_nil (g_le (xK (xK (xK (xK (xK (Fr.le_refl _)))))) ?_)
              obtain ⟨g5, hg5, hrk, hw⟩ := (hw.xQ : Sat E w (RO g4 :: OwnSl 70 5 (.slice qa ks.length qc) ks.length (ks.flatMap Kd.cells) :: pt bk8_3 (.cells [.bool false, .slice none 0 0, .slice qa ks.length qc].toArray 110 (0, 0)) :: A4 :: pt bk1_2 (.cells [Value.iface D.t D.u].toArray 102 (0, 0)) :: pt bk0_2 (.cells [.int .u64 0, .int .i64 0, .int .i64 0, .int .i64 0].toArray 25 (0, 0)) :: RO ge :: L)).freeze_sl (bytes := 48) mono_Kd (els_Kd hkok) rfl (by simp only [reachBytes]; omega)
              obtain ⟨g6, hg6, hrd6, hw⟩ := hw.freeze_lit (R := rdNd) (sz := 3) (bytes := 56) mono_Nd (xs := [⟨false, [], ks⟩]) (Els.one rfl ⟨_, _, _, rfl, rfl, rdSl_nil _, hrk⟩) rfl (by simp [maxLen]) (by simp [reachBytes])
              refine g_inBlock ?_
              obtain rfl : b3 = 0 := by omega
              have hle9 := layO_len D.ops l s3 [] (by rw [hly])
              rw [hly] at hle9
              simp only [List.length_nil, Nat.zero_add] at hle9
              rw [if_neg (by simp), if_neg (by omega)] at hgr
              exact g_le (by repeat (first | exact Fr.le_nil _ | refine Fr.le_cons rfl ?_)) (ih (q, [⟨false, [], ks⟩], 0, g6, s4, A4, some ⟨bk8_3, 0, none⟩, 1) w ⟨((hg3.trans hg4).trans hg5).trans hg6, D.mono (hg5.trans hg6) hI4, fun hb => absurd rfl hb, fun _ => ⟨hgr, .inr ⟨by simp only; omega, rfl⟩, hrd6, fun x hx => by rw [List.mem_singleton.1 hx]; exact ⟨by simp, by simp only; omega, by simp, by simp⟩⟩, hw.xQ⟩ (by simp))
      · try with_reducible exact tf_elim g6_2
        all_goals
          try replace g6_2 := of_decide_eq_false g6_2
          refine rl_off (met_off rfl rfl rfl rfl rfl) rfl rfl ?_
          refine rl_off (met_off rfl rfl rfl rfl rfl) rfl rfl ?_
          refine rl_off (met_off rfl rfl rfl rfl rfl) rfl rfl ?_
          refine xV rfl rfl rfl (v_pick_false rfl rfl) ?_
          refine rl_nil (g_le (xK (xK (xK (xK (xK (xK (xK (xK (Fr.le_refl _))))))))) ?_)
          refine g_cond_false rfl ?_
          refine g_skip ?_
          refine g_region ?_
          refine xV rfl rfl rfl (v_move rfl) ?_
          refine xV rfl rfl rfl (v_build rfl (T.build_32_2 ..)) ?_
          refine xV rfl rfl rfl (v_build rfl (T.build_110_0 ..)) ?_
          refine rl_k rfl (k_buildSlice (cells := [_, _, _]) hw T.sl_103_110_3 T.zero_110 rfl rfl rfl rfl rfl rfl (fun bk8_3 w hw => ?_))
          refine xV rfl rfl rfl (v_assign rfl) ?_
          refine rl_nil (g_le (xK (xK (xK (xK (xK (Fr.le_refl _)))))) ?_)
          obtain ⟨g5, hg5, hrk, hw⟩ := (hw.xQ : Sat E w (RO g4 :: OwnSl 70 5 (.slice qa ks.length qc) ks.length (ks.flatMap Kd.cells) :: pt bk8_3 (.cells [.bool false, .slice none 0 0, .slice qa ks.length qc].toArray 110 (0, 0)) :: A4 :: pt bk1_2 (.cells [Value.iface D.t D.u].toArray 102 (0, 0)) :: pt bk0_2 (.cells [.int .u64 0, .int .i64 0, .int .i64 0, .int .i64 0].toArray 25 (0, 0)) :: RO ge :: L)).freeze_sl (bytes := 48) mono_Kd (els_Kd hkok) rfl (by simp only [reachBytes]; omega)
          obtain ⟨g6, hg6, hrd6, hw⟩ := hw.freeze_lit (R := rdNd) (sz := 3) (bytes := 56) mono_Nd (xs := [⟨false, [], ks⟩]) (Els.one rfl ⟨_, _, _, rfl, rfl, rdSl_nil _, hrk⟩) rfl (by simp [maxLen]) (by simp [reachBytes])
          refine g_inBlock ?_
          have hb3 : b3 ≠ 0 := by omega
          rw [if_pos hb3] at hgr
          exact g_le (by repeat (first | exact Fr.le_nil _ | refine Fr.le_cons rfl ?_)) (ih (q, [⟨false, [], ks⟩], b3, g6, s4, A4, some ⟨bk8_3, 0, none⟩, 1) w ⟨((hg3.trans hg4).trans hg5).trans hg6, D.mono (hg5.trans hg6) hI4, fun _ => hgr, fun hb => absurd hb hb3, hw.xQ⟩ (by simp [hb3]))
  · try with_reducible exact tf_elim h1
    all_goals
      try replace h1 := of_decide_eq_false h1
      refine g_exit rfl (g_seq ?_)
      refine g_region ?_
      refine xV rfl rfl rfl (v_build rfl (T.build_25 ..)) ?_
      refine xV rfl rfl rfl (v_move rfl) ?_
      refine rl_k rfl (k_storeWhole hw T.agg_25_4 rfl rfl (by simp [Value.oneCell']) rfl (by (repeat first | with_reducible exact xH | apply xT); first | done | fail) rfl (fun w hw => ?_))
      refine xV rfl rfl rfl (v_assign rfl) ?_
      refine rl_nil (g_le (xK (xS rfl (xS rfl (Fr.le_refl _)))) ?_)
      refine g_res2 Try.func20 rfl ⟨_, rfl, holds_agg (vs := [_, _, _, _]) T.agg_25_4 rfl (by exact sat_cells hw (by (repeat first | with_reducible exact xH | apply xT); first | done | fail) ⟨rfl, rfl, rfl, rfl, trivial⟩)⟩ rfl ?_
      rw [hbad (by omega)]
      exact ⟨g3, A3, hg3, hI3, rfl, rf0_ok, hw.xQ⟩
theorem tput2_calls {E : Env} {w : World} {L : List As} {g ge : Hp} {h : Nat} {s : List Nd} {A : As} {root : Rf} {hh : Nat} {u : Un hh} {e : En} {ecs : List Value} (hecs : rdEn ge ecs e) (t : TreeAt s root hh u) (hn : (entsU hh u).length < 255) (hb : s.length + 17 ≤ 20000) (hr : root.ok) (hI : HeapI h g s A) (hw : Sat E w (A :: RO g :: RO ge :: L)) :
    Calls Try.prog 20 #[.iface 26 (.pointer (some ⟨h, 0, none⟩)), .agg root.cells.toArray, .agg ecs.toArray] w fun v w' => ∃ g' A' s' root' h' u', g.le g' ∧ HeapI h g' s' A' ∧ v = .returned (.tuple #[.agg root'.cells.toArray, .int .i64 0]) ∧ root'.ok ∧ StepR s root hh u (insE (entsU hh u) e) (2 * hh + 3) s' root' h' u' ∧ (h' = hh ∨ h' = hh + 1) ∧ hh < 7 ∧ Sat E w' (A' :: RO g' :: RO ge :: L) := by
  obtain ⟨s', root', h', u', h1, h2, h3, h4⟩ := step_put e t hn hb
  refine Calls.mono (Put2_calls (heapPg h) (s := s) root hr hecs hI hw) ?_
  rw [show (heapPg h).ops = heapO from rfl, h1]
  dsimp only
  rintro _ w ⟨g1, A1, hg1, hI1, rfl, hok, hw⟩
  exact ⟨g1, A1, s', root', h', u', hg1, hI1, rfl, hok, h2, h3, h4, hw⟩
theorem tallO_calls {E : Env} {w : World} {L : List As} {g : Hp} {h : Nat} {s : List Nd} {A : As} {root : Rf} {hh : Nat} {u : Un hh} (t : TreeAt s root hh u) (h8 : hh < 8) (hr : root.ok) (hI : HeapI h g s A) (hw : Sat E w (A :: RO g :: L)) :
    Calls Try.prog 23 #[.iface 26 (.pointer (some ⟨h, 0, none⟩)), .agg root.cells.toArray] w fun v w' => ∃ g' A' lv ts, g.le g' ∧ HeapI h g' s A' ∧ v = .returned (.tuple #[lv, .int .i64 0]) ∧ (seenU hh 1 root u).length ≤ 100000 ∧ Sat E w' (OwnSl 61 8 lv (seenU hh 1 root u).length (snCells (seenU hh 1 root u) ts) :: eachOf NdOf ts (seenU hh 1 root u) :: A' :: RO g' :: L) := by
  refine Calls.mono (All_calls (heapPg h) (s := s) root hr hI hw) ?_
  rw [show (heapPg h).ops = heapO from rfl, all_tree t h8]
  dsimp only
  rintro _ w ⟨g1, A1, lv, hg1, hI1, rfl, _, _, hgd⟩
  obtain ⟨ts, hln, hgood, hw⟩ := hgd rfl
  exact ⟨g1, A1, lv, ts, hg1, hI1, rfl, hln, hw⟩
theorem tread_calls {E : Env} {w : World} {L : List As} {g : Hp} {h : Nat} {s : List Nd} {A : As} (r : Rf) (hr : r.ok) (hI : HeapI h g s A) (hw : Sat E w (A :: RO g :: L)) :
    Calls Try.prog 15 #[.pointer (some ⟨h, 0, none⟩), .agg r.cells.toArray] w fun e w' => ∃ ev kv vs, e = .returned (.tuple #[.agg #[.bool (rdH s r).1.leaf, ev, kv], .int .i64 (rdH s r).2.1]) ∧ Sat E w' (OwnSl 49 2 ev ((rdH s r).1).entries.length (enCells ((rdH s r).1).entries vs) :: eachOf VnsOf vs ((rdH s r).1).entries :: KdsAt kv ((rdH s r).1).kids :: A :: RO g :: L) := by
  obtain ⟨lv, cells, rfl, hE, hb, hs⟩ := hI
  refine Calls.mono (hread_calls r hr hE hb (Sat.flat (X := [_, _]) hw)) ?_
  rintro _ w ⟨ev, kv, vs, rfl, hw⟩
  have h9 := Sat.unflat (X := [_, _]) (((hw.pick .at3).pick .at4).sub (.cons .at1 (.cons .at0 (.refl _))))
  exact ⟨ev, kv, vs, rfl, h9.xQ⟩
theorem snCells_drop : ∀ (xs : List Sn) (ts : List (Value × Value × List Value)) (i : Nat), (snCells xs ts).drop (i * 8) = snCells (xs.drop i) (ts.drop i)
  | _, _, 0 => by simp
  | x :: xs, t :: ts, i + 1 => by
    rw [show (i + 1) * 8 = 8 + i * 8 by omega, ← List.drop_drop, List.drop_succ_cons, List.drop_succ_cons, ← snCells_drop xs ts i]
    rfl
  | [], _, i + 1 => by simp [snCells]
  | _ :: _, [], i + 1 => by simp [snCells]
theorem snCells_at {xs : List Sn} {ts : List (Value × Value × List Value)} {i : Nat} {x : Sn} {t : Value × Value × List Value} (h1 : xs[i]? = some x) (h2 : ts[i]? = some t) : SubAt (snCells xs ts) (0 + i * 8) (.int .i64 x.deep :: (x.ref.cells ++ [.bool x.node.leaf, t.1, t.2.1])) := by
  obtain ⟨h3, rfl⟩ := List.getElem?_eq_some_iff.1 h1
  obtain ⟨h4, rfl⟩ := List.getElem?_eq_some_iff.1 h2
  refine subAt_of (n := 8) ?_
  rw [snCells_drop, List.drop_eq_getElem_cons h3, List.drop_eq_getElem_cons h4]
  rfl
theorem enCells_at : ∀ {es : List En} {vs : List Value} {j : Nat}, vs.length = es.length → j < es.length → (enCells es vs)[0 + j * 2 + 1]? = vs[j]?
  | e :: es, v :: vs, 0, _, _ => rfl
  | e :: es, v :: vs, j + 1, h, hj => by
    rw [show 0 + (j + 1) * 2 + 1 = (0 + j * 2 + 1) + 1 + 1 by omega]
    simp only [enCells, List.getElem?_cons_succ]
    exact enCells_at (by simpa using h) (by simpa using hj)
  | [], _, _, _, h => by simp at h
  | _ :: _, [], _, h, _ => by simp at h
theorem spoil7_calls {E : Env} {w : World} {L : List As} {ev kv : Value} {vs : List Value} {x : Nd} (hw : Sat E w (OwnSl 49 2 ev (x).entries.length (enCells (x).entries vs) :: eachOf VnsOf vs (x).entries :: KdsAt kv (x).kids :: L)) :
    Calls Try.prog 24 #[.agg #[.bool x.leaf, ev, kv]] w fun e w' => e = .returned (.tuple #[]) ∧ Sat E w' L := by
  obtain ⟨a, cc, rfl, hc1, hc2, ha⟩ := hw.own_shape
  obtain ⟨ka, kc, rfl, hk1, hk2, hka⟩ := (hw.pick .at2).own_shape
  have hvl : vs.length = x.entries.length := Sat.each_len (hw.pick .at1)
  simp only [maxLen] at hc2 hk2
  refine calls_of_g (n := 49) Try.func24 rfl rfl rfl ?_
  change G _ _ _ _ _ [(0, _)] _
  refine g_seq ?_
  refine g_region ?_
  refine rl_k rfl (k_box hw rfl rfl rfl (fun bk0_0 w hw => ?_))
  refine rl_nil (g_le (xK (Fr.le_refl _)) ?_)
  refine g_seq (g_seq ?_)
  refine g_region ?_
  refine xV rfl rfl rfl (v_fieldAddr0 T.fld_32_1_1 rfl) ?_
  refine rl_v rfl rfl rfl (by exact sat_cell hw (by (repeat first | with_reducible exact xH | apply xT); first | done | fail) rfl) (v_load T.scal_29 rfl) ?_
  refine xV rfl rfl rfl (v_lenSlice T.sl_29_49_2 rfl) ?_
  refine xV rfl rfl rfl (v_move rfl) ?_
  refine rl_nil (g_le (xK (xK (xS rfl (xS rfl (Fr.le_refl _))))) ?_)
  refine g_block ?_
  refine g_loopC (σ := Int × List Value) (fun C x => (8, .int .i64 x.1) :: C) [(1, _), (7, _)] (by repeat (first | exact Fr.le_nil _ | refine Fr.le_cons rfl ?_)) (fun z w => 0 ≤ z.1 ∧ z.1 ≤ x.entries.length ∧ z.2.length = x.entries.length * 2 ∧ (∀ j : Nat, j < x.entries.length → z.2[0 + j * 2 + 1]? = vs[j]?) ∧ Sat E w (pt bk0_0 (.cells [.bool x.leaf, .slice a x.entries.length cc, .slice ka x.kids.length kc].toArray 32 (0, 0)) :: OwnSl 49 2 (.slice a x.entries.length cc) x.entries.length z.2 :: eachOf VnsOf (vs.drop z.1.toNat) (x.entries.drop z.1.toNat) :: KdsAt (.slice ka x.kids.length kc) x.kids :: L)) (fun z => (x.entries.length - z.1).toNat) ?_ (0, enCells x.entries vs) (by repeat (first | exact Fr.le_nil _ | refine Fr.le_cons rfl ?_)) ⟨by simp, by simp, enCells_len hvl.symm, fun j hj => enCells_at hvl hj, by simp only [Int.toNat_zero, List.drop_zero]; exact hw.xQ⟩
  rintro ⟨i, cells⟩ w ⟨hi0, hi1, hcl, hcv, hw⟩ ih
  dsimp only at hi0 hi1 hcl hcv hw ⊢
  refine g_seq ?_
  refine g_region ?_
  refine xV rfl rfl rfl (v_lss rfl rfl) ?_
  refine rl_nil (g_le (xK (Fr.le_refl _)) ?_)
  refine g_seq ?_
  refine g_cond rfl (fun h1 => ?_) (fun h1 => ?_)
  · try with_reducible exact ft_elim h1
    all_goals
      try replace h1 := of_decide_eq_true h1
      refine g_skip (g_seq (g_block (g_seq ?_)))
      refine g_region ?_
      refine xV rfl rfl rfl (v_move rfl) ?_
      refine xV rfl rfl rfl (v_assign rfl) ?_
      refine rl_nil (g_le (xK (xK (Fr.le_refl _))) ?_)
      refine g_seq (g_seq ?_)
      have hz := hw
      clear hw
      obtain ⟨gb, rfl⟩ := ha (by omega)
      have hlt : i.toNat < x.entries.length := by omega
      have hcv1 : cells[0 + i.toNat * 2 + 1]? = some vs[i.toNat] := by rw [hcv _ hlt]; exact List.getElem?_eq_getElem (by omega)
      rw [List.drop_eq_getElem_cons hlt, List.drop_eq_getElem_cons (show i.toNat < vs.length by omega)] at hz
      obtain ⟨va, vc, hv, hv1, hv2, hva⟩ := (Sat.each_cons.1 (hz.pick .at2)).own_shape
      have hw := Sat.each_cons.1 (hz.pick .at2)
      rw [hv] at hw hcv1
      simp only [VnsOf, VnsAt] at hw
      simp only [maxLen] at hv2
      have hvn : (x.entries[i.toNat].versions.flatMap Vn.cells).length = x.entries[i.toNat].versions.length * 3 := hw.own_len
      generalize x.entries[i.toNat].versions.length = k at hw hcv1 hv hv1 hv2 hva hvn
      generalize x.entries[i.toNat].versions.flatMap Vn.cells = vcs at hw hvn
      refine g_region ?_
      refine xV rfl rfl rfl (v_fieldAddr0 T.fld_32_1_1 rfl) ?_
      refine rl_v rfl rfl rfl (by exact sat_cell hw (by (repeat first | with_reducible exact xH | apply xT); first | done | fail) rfl) (v_load T.scal_29 rfl) ?_
      refine xV rfl rfl rfl (v_move rfl) ?_
      refine xV rfl rfl rfl (v_indexAddr T.sl_29_49_2 rfl rfl (by omega) (by omega)) ?_
      refine xV rfl rfl rfl (v_fieldAddr T.fld_49_1_1 rfl) ?_
      refine rl_v rfl rfl rfl (by exact own_cell hw (by (repeat first | with_reducible exact xH | apply xT); first | done | fail) (by first | rfl | assumption)) (v_load T.scal_47 rfl) ?_
      refine xV rfl rfl rfl (v_lenSlice T.sl_47_53_3 rfl) ?_
      refine xV rfl rfl rfl (v_move rfl) ?_
      refine rl_nil (g_le (xK (xK (xK (xK (xK (xK (xK (xK (Fr.le_refl _))))))))) ?_)
      refine g_block ?_
      refine g_loopC (σ := Int × List Value) (fun C x => (18, .int .i64 x.1) :: C) [(1, _), (2, _), (7, _), (8, _), (9, _), (10, _), (11, _), (12, _), (13, _), (14, _), (15, _), (16, _), (17, _)] (by repeat (first | exact Fr.le_nil _ | refine Fr.le_cons rfl ?_)) (fun z w => 0 ≤ z.1 ∧ z.1 ≤ k ∧ z.2.length = k * 3 ∧ Sat E w (OwnSl 53 3 (.slice va k vc) k z.2 :: eachOf VnsOf (vs.drop (i.toNat + 1)) (x.entries.drop (i.toNat + 1)) :: pt bk0_0 (.cells [.bool x.leaf, .slice (some ⟨gb, 0, none⟩) x.entries.length cc, .slice ka x.kids.length kc].toArray 32 (0, 0)) :: OwnSl 49 2 (.slice (some ⟨gb, 0, none⟩) x.entries.length cc) x.entries.length cells :: KdsAt (.slice ka x.kids.length kc) x.kids :: L)) (fun z => (k - z.1).toNat) ?_ (0, vcs) (by repeat (first | exact Fr.le_nil _ | refine Fr.le_cons rfl ?_)) ⟨by simp, by simp, hvn, hw.xQ⟩
      rintro ⟨j, vcs'⟩ w ⟨hj0, hj1, hvn', hw⟩ ih2
      dsimp only at hj0 hj1 hvn' hw ⊢
      refine g_seq ?_
      refine g_region ?_
      refine xV rfl rfl rfl (v_lss rfl rfl) ?_
      refine rl_nil (g_le (xK (Fr.le_refl _)) ?_)
      refine g_seq ?_
      refine g_cond rfl (fun h2 => ?_) (fun h2 => ?_)
      · try with_reducible exact ft_elim h2
        all_goals
          try replace h2 := of_decide_eq_true h2
          refine g_skip (g_seq (g_block (g_seq ?_)))
          refine g_region ?_
          refine xV rfl rfl rfl (v_move rfl) ?_
          refine xV rfl rfl rfl (v_assign rfl) ?_
          refine rl_nil (g_le (xK (xK (Fr.le_refl _))) ?_)
          have hz := hw
          clear hw
          obtain ⟨vb, rfl⟩ := hva (by omega)
          have hj : 0 + j.toNat * 3 + 0 < vcs'.length := by omega
          have hj' : 0 + j.toNat * 3 < vcs'.length := by omega
          have hw := hz
          refine g_region ?_
          refine xV rfl rfl rfl (v_fieldAddr0 T.fld_32_1_1 rfl) ?_
          refine rl_v rfl rfl rfl (by exact sat_cell hw (by (repeat first | with_reducible exact xH | apply xT); first | done | fail) rfl) (v_load T.scal_29 rfl) ?_
          refine xV rfl rfl rfl (v_move rfl) ?_
          refine xV rfl rfl rfl (v_indexAddr T.sl_29_49_2 rfl rfl (by omega) (by omega)) ?_
          refine xV rfl rfl rfl (v_fieldAddr T.fld_49_1_1 rfl) ?_
          refine rl_v rfl rfl rfl (by exact own_cell hw (by (repeat first | with_reducible exact xH | apply xT); first | done | fail) (by first | rfl | assumption)) (v_load T.scal_47 rfl) ?_
          refine xV rfl rfl rfl (v_move rfl) ?_
          refine xV rfl rfl rfl (v_indexAddr T.sl_47_53_3 rfl rfl (by omega) (by omega)) ?_
          refine xV rfl rfl rfl (v_fieldAddr T.fld_53_0_0 rfl) ?_
          refine rl_k rfl (k_storeOwn hw T.scal_3 rfl rfl rfl (by (repeat first | with_reducible exact xH | apply xT); first | done | fail) (by assumption) (fun w hw => ?_))
          refine rl_nil (g_le (xK (xK (xK (xK (xK (xK (xK (xK (xK (Fr.le_refl _)))))))))) ?_)
          refine g_inBlock ?_
          refine g_region ?_
          refine xV rfl rfl rfl (v_add rfl rfl (by omega)) ?_
          refine xV rfl rfl rfl (v_move rfl) ?_
          refine rl_nil (g_le (xK (xK (Fr.le_refl _))) ?_)
          exact g_le (by repeat (first | exact Fr.le_nil _ | refine Fr.le_cons rfl ?_)) (ih2 (j + 1, vcs'.set (0 + j.toNat * 3 + 0) (.int .i64 (-1))) w ⟨by simp only; omega, by simp only; omega, by simp only [List.length_set]; exact hvn', hw.xQ⟩ (by simp only; omega))
      · try with_reducible exact tf_elim h2
        all_goals
          try replace h2 := of_decide_eq_false h2
          refine g_exit rfl ?_
          have hj : 0 + i.toNat * 2 + 0 < cells.length := by omega
          have hj' : 0 + i.toNat * 2 < cells.length := by omega
          refine g_region ?_
          refine xV rfl rfl rfl (v_fieldAddr0 T.fld_32_1_1 rfl) ?_
          refine rl_v rfl rfl rfl (by exact sat_cell hw (by (repeat first | with_reducible exact xH | apply xT); first | done | fail) rfl) (v_load T.scal_29 rfl) ?_
          refine xV rfl rfl rfl (v_move rfl) ?_
          refine xV rfl rfl rfl (v_indexAddr T.sl_29_49_2 rfl rfl (by omega) (by omega)) ?_
          refine xV rfl rfl rfl (v_fieldAddr T.fld_49_0_0 rfl) ?_
          refine rl_k rfl (k_storeOwn hw T.scal_9 rfl rfl rfl (by (repeat first | with_reducible exact xH | apply xT); first | done | fail) (by assumption) (fun w hw => ?_))
          refine rl_nil (g_le (xK (xK (xK (xK (xK (Fr.le_refl _)))))) ?_)
          refine g_inBlock ?_
          refine g_region ?_
          refine xV rfl rfl rfl (v_add rfl rfl (by omega)) ?_
          refine xV rfl rfl rfl (v_move rfl) ?_
          refine rl_nil (g_le (xK (xK (Fr.le_refl _))) ?_)
          exact g_le (by repeat (first | exact Fr.le_nil _ | refine Fr.le_cons rfl ?_)) (ih (i + 1, cells.set (0 + i.toNat * 2 + 0) (.string ⟨#[63]⟩)) w ⟨by simp only; omega, by simp only; omega, by simp only [List.length_set]; exact hcl, fun q hq => by simp only; rw [List.getElem?_set_ne (by omega)]; exact hcv q hq, by simp only; rw [show (i + 1).toNat = i.toNat + 1 by omega]; exact hw.xQ⟩ (by simp only; omega))
  · try with_reducible exact tf_elim h1
    all_goals
      try replace h1 := of_decide_eq_false h1
      refine g_exit rfl (g_seq ?_)
      refine g_region ?_
      refine xV rfl rfl rfl (v_fieldAddr0 T.fld_32_2_2 rfl) ?_
      refine rl_v rfl rfl rfl (by exact sat_cell hw (by (repeat first | with_reducible exact xH | apply xT); first | done | fail) rfl) (v_load T.scal_30 rfl) ?_
      refine xV rfl rfl rfl (v_lenSlice T.sl_30_70_5 rfl) ?_
      refine xV rfl rfl rfl (v_move rfl) ?_
      refine rl_nil (g_le (xK (xK (xS rfl (xS rfl (Fr.le_refl _))))) ?_)
      refine g_block ?_
      refine g_loopC (σ := Int × List Value) (fun C x => (40, .int .i64 x.1) :: C) [(1, _), (39, _)] (by repeat (first | exact Fr.le_nil _ | refine Fr.le_cons rfl ?_)) (fun z w => 0 ≤ z.1 ∧ z.1 ≤ x.kids.length ∧ z.2.length = x.kids.length * 5 ∧ Sat E w (pt bk0_0 (.cells [.bool x.leaf, .slice a x.entries.length cc, .slice ka x.kids.length kc].toArray 32 (0, 0)) :: OwnSl 70 5 (.slice ka x.kids.length kc) x.kids.length z.2 :: L)) (fun z => (x.kids.length - z.1).toNat) ?_ (0, x.kids.flatMap Kd.cells) (by repeat (first | exact Fr.le_nil _ | refine Fr.le_cons rfl ?_)) ⟨by simp, by simp, (hw.pick .at3).own_len, hw.xQ⟩
      rintro ⟨j, kcs⟩ w ⟨hj0, hj1, hkn, hw⟩ ih
      dsimp only at hj0 hj1 hkn hw ⊢
      refine g_seq ?_
      refine g_region ?_
      refine xV rfl rfl rfl (v_lss rfl rfl) ?_
      refine rl_nil (g_le (xK (Fr.le_refl _)) ?_)
      refine g_seq ?_
      refine g_cond rfl (fun h3 => ?_) (fun h3 => ?_)
      · try with_reducible exact ft_elim h3
        all_goals
          try replace h3 := of_decide_eq_true h3
          refine g_skip (g_seq (g_block (g_seq ?_)))
          refine g_region ?_
          refine xV rfl rfl rfl (v_move rfl) ?_
          refine xV rfl rfl rfl (v_assign rfl) ?_
          refine rl_nil (g_le (xK (xK (Fr.le_refl _))) ?_)
          have hz := hw
          clear hw
          obtain ⟨kb, rfl⟩ := hka (by omega)
          have hj : 0 + j.toNat * 5 + 0 < kcs.length := by omega
          have hj' : 0 + j.toNat * 5 < kcs.length := by omega
          have hw := hz
          refine g_region ?_
          refine xV rfl rfl rfl (v_fieldAddr0 T.fld_32_2_2 rfl) ?_
          refine rl_v rfl rfl rfl (by exact sat_cell hw (by (repeat first | with_reducible exact xH | apply xT); first | done | fail) rfl) (v_load T.scal_30 rfl) ?_
          refine xV rfl rfl rfl (v_move rfl) ?_
          refine xV rfl rfl rfl (v_indexAddr T.sl_30_70_5 rfl rfl (by omega) (by omega)) ?_
          refine xV rfl rfl rfl (v_fieldAddr T.fld_70_0_0 rfl) ?_
          refine rl_k rfl (k_storeOwn hw T.scal_9 rfl rfl rfl (by (repeat first | with_reducible exact xH | apply xT); first | done | fail) (by assumption) (fun w hw => ?_))
          refine rl_nil (g_le (xK (xK (xK (xK (xK (Fr.le_refl _)))))) ?_)
          refine g_inBlock ?_
          refine g_region ?_
          refine xV rfl rfl rfl (v_add rfl rfl (by omega)) ?_
          refine xV rfl rfl rfl (v_move rfl) ?_
          refine rl_nil (g_le (xK (xK (Fr.le_refl _))) ?_)
          exact g_le (by repeat (first | exact Fr.le_nil _ | refine Fr.le_cons rfl ?_)) (ih (j + 1, kcs.set (0 + j.toNat * 5 + 0) (.string ⟨#[33]⟩)) w ⟨by simp only; omega, by simp only; omega, by simp only [List.length_set]; exact hkn, hw.xQ⟩ (by simp only; omega))
      · try with_reducible exact tf_elim h3
        all_goals
          try replace h3 := of_decide_eq_false h3
          refine g_exit rfl ?_
          refine g_end0 Try.func24 rfl ?_
          exact ⟨rfl, hw.xQ⟩
end Go.Proofs.Ytmbngahboaljpaa
