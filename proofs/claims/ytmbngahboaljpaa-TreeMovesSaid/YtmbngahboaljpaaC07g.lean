/-
  The search tree over any pages: Get.
-/
import Derived.Test.YtmbngahboaljpaaC07f
namespace Go.Proofs.Ytmbngahboaljpaa
set_option maxRecDepth 8000
set_option linter.unusedSimpArgs false
set_option linter.unusedVariables false
open Go Xe
section
variable {τ : Type} (P : PgOps τ)
theorem getO_bad {k : Nat} {s s1 : τ} {r : Rf} {name : ByteArray} {x : Nd} {bad : Int} (h : atO P k s r = (x, bad, s1)) (hb : bad ≠ 0) : getO P k s r name = (en0, false, bad, s1) := by
  cases k with
  | zero => simp only [atO, Prod.mk.injEq] at h; obtain ⟨_, rfl, rfl⟩ := h; rfl
  | succ k => simp only [atO] at h; simp only [getO, h]; exact if_pos hb
theorem getO_leaf {k : Nat} {s s1 : τ} {r : Rf} {name : ByteArray} {x : Nd} (h : at1 P s r = (x, 0, s1)) (hl : x.leaf = true) : getO P (k + 1) s r name = if searchB x.entries name = true then (x.entries.getD (searchI x.entries name) en0, true, 0, s1) else (en0, false, 0, s1) := by
  simp only [getO, h]; rw [if_neg (by simp), if_pos hl]
theorem getO_inner {k : Nat} {s s1 : τ} {r : Rf} {name : ByteArray} {x : Nd} (h : at1 P s r = (x, 0, s1)) (hl : x.leaf = false) : getO P (k + 1) s r name = getO P k s1 (x.kids.getD (belowN x.kids name) kd0).ref name := by
  simp only [getO, h]; rw [if_neg (by simp), if_neg (by simp [hl])]
end
theorem own_vn0 {E : Env} {w : World} {L : List As} (h : Sat E w L) : Sat E w (VnsAt (.slice none 0 0) en0.versions :: L) := h.own_nil 53 3
theorem ord_f22_r8_C07g : orderOfB Try.f22 8 [9] (.a 0 (.a 1 (.a 4 (.v 2 (.k 3 (.k 5 (.k 6 (.k 7 (.k 8 (.k 9 .done)))))))))) = true := by kernel_rfl
theorem ord_f22_r13_C07g : orderOfB Try.f22 13 [6] (.a 0 (.a 2 (.v 1 (.k 3 (.k 4 (.k 5 (.k 6 (.k 7 (.k 8 .done))))))))) = true := by kernel_rfl
set_option maxHeartbeats 2000000 in
theorem Get_calls {τ : Type} (D : Pg τ) {E : Env} {w : World} {L : List As} {g : Hp} {s : τ} {A : As} (r : Rf) (hr : r.ok) (name : ByteArray) (hI : D.I g s A) (hw : Sat E w (A :: RO g :: L)) :
    Calls Try.prog 22 #[.iface D.t D.u, .agg r.cells.toArray, .string name] w fun v w' =>
    ∃ g' A' vv, g.le g' ∧ D.I g' (getO D.ops 8 s r name).2.2.2 A' ∧ v = .returned (.tuple #[.agg #[.string (getO D.ops 8 s r name).1.name, vv], .bool (getO D.ops 8 s r name).2.1, .int .i64 (getO D.ops 8 s r name).2.2.1]) ∧ (getO D.ops 8 s r name).1.fine ∧ Sat E w' (VnsAt vv (getO D.ops 8 s r name).1.versions :: A' :: RO g' :: L) := by
  refine calls_of_g (n := 65) Try.func22 rfl rfl rfl ?_
  change G _ _ _ _ _ [(0, _), (1, _), (2, _)] _
  refine g_seq ?_
  refine g_region ?_
  refine rl_k rfl (k_box hw rfl rfl rfl (fun bk0_0 w hw => ?_))
  refine rl_k rfl (k_alloc hw T.zero_49 rfl rfl (fun bk0_1 w hw => ?_))
  refine xV rfl rfl rfl (v_assign rfl) ?_
  refine xV rfl rfl rfl (v_assign rfl) ?_
  refine rl_nil (g_le (xK (xK (xK (xK (Fr.le_refl _))))) ?_)
  refine g_seq ?_
  refine g_region ?_
  refine xV rfl rfl rfl (v_move rfl) ?_
  refine xV rfl rfl rfl (v_build rfl (T.build_102_0 ..)) ?_
  refine rl_k rfl (k_alloc hw T.zero_102 rfl rfl (fun bk1_2 w hw => ?_))
  refine rl_k rfl (k_storeWhole hw T.agg_102_1 rfl rfl (by simp [Value.oneCell']) rfl (by (repeat first | with_reducible exact xH | apply xT); first | done | fail) rfl (fun w hw => ?_))
  refine rl_nil (g_le (xK (xS rfl (xS rfl (Fr.le_refl _)))) ?_)
  refine g_seq ?_
  refine g_region ?_
  refine xV rfl rfl rfl (v_assign rfl) ?_
  refine rl_nil (g_le (xK (Fr.le_refl _)) ?_)
  refine g_block ?_
  refine g_loopC (σ := Nat × Int × Hp × τ × As × Rf) (fun C x => (10, .int .i64 x.2.1) :: C) [(2, _), (4, _), (6, _), (7, _), (8, _), (9, _)] (by repeat (first | exact Fr.le_nil _ | refine Fr.le_cons rfl ?_)) (fun z w => z.2.1 + z.1 = 9 ∧ 0 ≤ z.2.1 ∧ g.le z.2.2.1 ∧ D.I z.2.2.1 z.2.2.2.1 z.2.2.2.2.1 ∧ getO D.ops 8 s r name = getO D.ops z.1 z.2.2.2.1 z.2.2.2.2.2 name ∧ z.2.2.2.2.2.ok ∧ Sat E w (z.2.2.2.2.1 :: pt bk1_2 (.cells [Value.iface D.t D.u].toArray 102 (0, 0)) :: pt bk0_1 (.cells [.string ByteArray.empty, .slice none 0 0].toArray 49 (0, 0)) :: pt bk0_0 (.cells z.2.2.2.2.2.cells.toArray 25 (0, 0)) :: RO z.2.2.1 :: L)) (fun z => z.1) ?_ (8, 1, g, s, A, r) (by repeat (first | exact Fr.le_nil _ | refine Fr.le_cons rfl ?_)) ⟨by simp, by simp, Hp.le_refl _, hI, rfl, hr, hw.xQ⟩
  rintro ⟨k, deep, g1, s1, A1, r1⟩ w ⟨hdk, hd0, hg1, hI1, hge, hr1, hw⟩ ih
  dsimp only at hdk hd0 hg1 hI1 hge hr1 hw ih ⊢
  refine g_seq (g_block (g_seq ?_))
  refine g_region ?_
  refine rl_v rfl rfl rfl (by exact sat_cells hw (by (repeat first | with_reducible exact xH | apply xT); first | done | fail) ⟨rfl, trivial⟩) (v_loadAgg (vs := [_]) T.agg_102_1 rfl rfl) ?_
  refine rl_v rfl rfl rfl (by exact sat_cells hw (by (repeat first | with_reducible exact xH | apply xT); first | done | fail) ⟨rfl, rfl, rfl, rfl, trivial⟩) (v_loadAgg (vs := [_, _, _, _]) T.agg_25_4 rfl rfl) ?_
  refine xV rfl rfl rfl (v_move rfl) ?_
  refine rl_k rfl (k_callf Try.func46 rfl rfl rfl rfl ?_)
  refine Calls.mono (at_calls D r1 hr1 k deep hdk hI1 (hw.xQ)) ?_
  generalize hq : atO D.ops k s1 r1 = q
  obtain ⟨x, bad, s2⟩ := q
  dsimp only
  rintro _ w ⟨g2, A2, ea, ec, ka, kc, cells, hg2, hI2, rfl, hels, hfine, hsm, hw⟩
  refine ⟨_, rfl, ?_⟩
  refine xV rfl rfl rfl (v_move rfl) ?_
  refine xV rfl rfl rfl (v_extract rfl rfl) ?_
  refine xV rfl rfl rfl (v_extract rfl rfl) ?_
  refine rl_k rfl (k_alloc hw T.zero_110 rfl rfl (fun bk4_7 w hw => ?_))
  refine rl_k rfl (k_storeWhole hw T.agg_110_3 rfl rfl (by simp [Value.oneCell']) rfl (by (repeat first | with_reducible exact xH | apply xT); first | done | fail) rfl (fun w hw => ?_))
  refine xV rfl rfl rfl (v_assign rfl) ?_
  refine rl_nil (g_le (xK (xK (xK (xK (xK (xK (xK (xK (xK (Fr.le_refl _)))))))))) ?_)
  refine g_seq (g_seq ?_)
  refine g_region ?_
  refine xV rfl rfl rfl (v_move rfl) ?_
  refine xV rfl rfl rfl (v_neq rfl rfl) ?_
  refine rl_nil (g_le (xK (xK (Fr.le_refl _))) ?_)
  refine g_cond rfl (fun h1 => ?_) (fun h1 => ?_)
  · try with_reducible exact ft_elim h1
    all_goals
      try replace h1 := of_decide_eq_true h1
      refine g_seq ?_
      refine g_region ?_
      refine xV rfl rfl rfl (v_build rfl (T.build_49 ..)) ?_
      refine xV rfl rfl rfl (v_move rfl) ?_
      refine rl_k rfl (k_storeWhole hw T.agg_49_2 rfl rfl (by simp [Value.oneCell']) rfl (by (repeat first | with_reducible exact xH | apply xT); first | done | fail) rfl (fun w hw => ?_))
      refine xV rfl rfl rfl (v_assign rfl) ?_
      refine xV rfl rfl rfl (v_assign rfl) ?_
      refine rl_nil (g_le (xK (xK (xK (xK (Fr.le_refl _))))) ?_)
      refine g_res3 Try.func22 rfl ⟨_, rfl, holds_agg (vs := [_, _]) T.agg_49_2 rfl (by exact sat_cells hw (by (repeat first | with_reducible exact xH | apply xT); first | done | fail) ⟨rfl, rfl, trivial⟩)⟩ rfl rfl ?_
      rw [hge, getO_bad D.ops hq h1]
      exact ⟨g2, A2, .slice none 0 0, hg1.trans hg2, hI2, rfl, by simp [En.fine, en0], own_vn0 (hw.xQ)⟩
  · try with_reducible exact tf_elim h1
    all_goals
      try replace h1 := of_decide_eq_false h1
      obtain rfl : bad = 0 := by omega
      obtain ⟨q, rfl, hat⟩ := atO_zero D.ops hq
      have hsm1 := hsm.1
      have hsm2 := hsm.2.1
      refine g_skip (g_seq (g_seq ?_))
      refine g_region ?_
      refine xV rfl rfl rfl (v_fieldAddr0 T.fld_110_0_0 rfl) ?_
      refine xV rfl rfl rfl (v_fieldAddr0 T.fld_32_0_0 rfl) ?_
      refine rl_v rfl rfl rfl (by exact sat_cell hw (by (repeat first | with_reducible exact xH | apply xT); first | done | fail) rfl) (v_load T.scal_4 rfl) ?_
      refine xV rfl rfl rfl (v_not rfl) ?_
      refine rl_nil (g_le (xK (xK (xK (xK (Fr.le_refl _))))) ?_)
      refine g_cond rfl (fun h2 => ?_) (fun h2 => ?_)
      · try with_reducible exact ft_elim h2
        all_goals
          try replace h2 := of_decide_eq_true h2
          have h2 : x.leaf = false := by simpa using h2
          have hk0 := at1_kids D.ops hat h2
          have hbl := belowN_lt hk0 name
          rw [getO_inner D.ops hat h2] at hge
          obtain ⟨i, hi⟩ : ∃ i, i = belowN x.kids name := ⟨_, rfl⟩
          rw [← hi] at hbl hge
          obtain ⟨y, hy⟩ : ∃ y, x.kids[i]? = some y := ⟨_, List.getElem?_eq_getElem hbl⟩
          rw [List.getD_eq_getElem?_getD, hy, Option.getD_some] at hge
          have hyok := hfine.2.2.1 y (List.mem_of_getElem? hy)
          have hsub := subAt_flat (f := Kd.cells) (sz := 5) (fun _ => rfl) hy
          have hsubr : SubAt (x.kids.flatMap Kd.cells) (0 + (i : Int).toNat * 5 + 1) y.ref.cells := hsub.2
          obtain ⟨a9, c9, hv9, _, _, ha9⟩ := (hw.xP (A := OwnSl 70 5 (.slice ka x.kids.length kc) x.kids.length (x.kids.flatMap Kd.cells))).own_shape
          simp only [Value.slice.injEq] at hv9
          obtain ⟨rfl, _, rfl⟩ := hv9
          have hz := hw
          clear hw
          obtain ⟨gb, rfl⟩ := ha9 (by omega)
          have hw := hz
          refine g_seq ?_
          refine g_drawR ord_f22_r8_C07g (by kernel_rfl) T.mixed hw (fun w hw => ?_)
          refine rs_a 0 rfl rfl rfl rfl (v_fieldAddr0 T.fld_110_0_0 rfl) ?_
          refine rs_a 1 rfl rfl rfl rfl (v_fieldAddr0 T.fld_32_2_2 rfl) ?_
          refine rs_a 4 rfl rfl rfl rfl (v_move rfl) ?_
          refine rs_v 2 rfl rfl rfl rfl (OpV.mono (v_load T.scal_30 rfl) (fun w hw => by exact sat_cell hw (by (repeat first | with_reducible exact xH | apply xT); first | done | fail) rfl)) (by exact hw) ?_
          refine rs_kv 3 rfl rfl rfl rfl (by exact sat_cells hw (by (repeat first | with_reducible exact xH | apply xT); first | done | fail) ⟨rfl, rfl, rfl, trivial⟩) (v_loadAgg (vs := [_, _, _]) T.agg_110_3 rfl rfl) ?_
          refine rs_k 5 rfl rfl (k_callf Try.func47 rfl rfl rfl rfl ?_)
          refine Calls.mono (below_calls name x.leaf ea (some ⟨gb, 0, none⟩) x.entries.length ec kc hk0 (by omega) (hw.xQ)) ?_
          rw [← hi]
          rintro _ w ⟨rfl, hw⟩
          refine ⟨_, rfl, ?_⟩
          refine ⟨fun _ => (by exact Sat.sub hw (by (repeat (first | with_reducible exact Sub.refl _ | exact Sub.nil _ | (apply Sub.cons; focus ((repeat (first | with_reducible exact Pick.here _ | apply Pick.there)); (first | done | fail))) | with_reducible apply Sub.drop)); first | done | fail)), ?_⟩
          refine rs_kv 6 rfl rfl rfl rfl (S' := fun _ => True) trivial (v_indexAddr T.sl_30_70_5 rfl rfl (by omega) (by omega)) ?_
          refine rs_kv 7 rfl rfl rfl rfl (S' := fun _ => True) trivial (v_fieldAddr T.fld_70_1_1 rfl) ?_
          refine rs_kv 8 rfl rfl rfl rfl (by exact own_cells hw (by (repeat first | with_reducible exact xH | apply xT); first | done | fail) (by assumption)) (v_loadAgg (vs := [_, _, _, _]) T.agg_25_4 rfl rfl) ?_
          refine rs_k 9 rfl rfl (k_storeWhole hw T.agg_25_4 rfl rfl (by simp [Value.oneCell']) rfl (by (repeat first | with_reducible exact xH | apply xT); first | done | fail) rfl (fun w hw => ?_))
          refine ⟨fun hn => absurd (by decide) hn, ?_⟩
          refine rs_done (g_le (xK (xK (xK (xK (xK (xK (xK (xK (xK (Fr.le_refl _)))))))))) ?_)
          refine g_exit rfl ?_
          refine g_region ?_
          refine xV rfl rfl rfl (v_move rfl) ?_
          refine xV rfl rfl rfl (v_add rfl rfl (by omega)) ?_
          refine xV rfl rfl rfl (v_assign rfl) ?_
          refine rl_nil (g_le (xK (xK (xK (Fr.le_refl _)))) ?_)
          exact g_le (by repeat (first | exact Fr.le_nil _ | refine Fr.le_cons rfl ?_)) (ih (q, deep + 1, g2, s2, A2, y.ref) w ⟨by simp only; omega, by simp only; omega, hg1.trans hg2, hI2, hge, hyok.2, hw.xQ⟩ (by simp))
      · try with_reducible exact tf_elim h2
        all_goals
          try replace h2 := of_decide_eq_false h2
          have h2 : x.leaf = true := by simpa using h2
          rw [getO_leaf D.ops hat h2] at hge
          refine g_skip (g_seq ?_)
          refine g_region ?_
          refine rl_v rfl rfl rfl (by exact sat_cells hw (by (repeat first | with_reducible exact xH | apply xT); first | done | fail) ⟨rfl, rfl, rfl, trivial⟩) (v_loadAgg (vs := [_, _, _]) T.agg_110_3 rfl rfl) ?_
          refine xV rfl rfl rfl (v_move rfl) ?_
          refine rl_k rfl (k_callf Try.func48 rfl rfl rfl rfl ?_)
          refine Calls.mono (search_calls x.leaf name hels rfl (by omega) (hw.xQ)) ?_
          rintro _ w ⟨rfl, hw⟩
          refine ⟨_, rfl, ?_⟩
          refine xV rfl rfl rfl (v_move rfl) ?_
          refine xV rfl rfl rfl (v_extract rfl rfl) ?_
          refine xV rfl rfl rfl (v_extract rfl rfl) ?_
          refine xV rfl rfl rfl (v_assign rfl) ?_
          refine xV rfl rfl rfl (v_assign rfl) ?_
          refine rl_nil (g_le (xK (xK (xK (xK (xK (xK (xK (xK (Fr.le_refl _))))))))) ?_)
          refine g_seq (g_seq ?_)
          refine g_region ?_
          refine xV rfl rfl rfl (v_move rfl) ?_
          refine xV rfl rfl rfl (v_not rfl) ?_
          refine rl_nil (g_le (xK (xK (Fr.le_refl _))) ?_)
          refine g_cond rfl (fun h3 => ?_) (fun h3 => ?_)
          · try with_reducible exact ft_elim h3
            all_goals
              try replace h3 := of_decide_eq_true h3
              have h3 : searchB x.entries name = false := by simpa using h3
              rw [if_neg (by simp [h3])] at hge
              refine g_seq ?_
              refine g_region ?_
              refine xV rfl rfl rfl (v_build rfl (T.build_49 ..)) ?_
              refine rl_k rfl (k_storeWhole hw T.agg_49_2 rfl rfl (by simp [Value.oneCell']) rfl (by (repeat first | with_reducible exact xH | apply xT); first | done | fail) rfl (fun w hw => ?_))
              refine xV rfl rfl rfl (v_assign rfl) ?_
              refine xV rfl rfl rfl (v_assign rfl) ?_
              refine rl_nil (g_le (xK (xK (xK (Fr.le_refl _)))) ?_)
              refine g_res3 Try.func22 rfl ⟨_, rfl, holds_agg (vs := [_, _]) T.agg_49_2 rfl (by exact sat_cells hw (by (repeat first | with_reducible exact xH | apply xT); first | done | fail) ⟨rfl, rfl, trivial⟩)⟩ rfl rfl ?_
              rw [hge]
              exact ⟨g2, A2, .slice none 0 0, hg1.trans hg2, hI2, rfl, by simp [En.fine, en0], own_vn0 (hw.xQ)⟩
          · try with_reducible exact tf_elim h3
            all_goals
              try replace h3 := of_decide_eq_false h3
              have h3 : searchB x.entries name = true := by simpa using h3
              rw [if_pos h3] at hge
              have hfi : searchI x.entries name < x.entries.length := by unfold searchB at h3; simp only [Bool.and_eq_true, decide_eq_true_eq] at h3; exact h3.1
              obtain ⟨a9, c9, hv9, _, _, ha9⟩ := (hw.xP (A := OwnSl 49 2 (.slice ea x.entries.length ec) x.entries.length cells)).own_shape
              simp only [Value.slice.injEq] at hv9
              obtain ⟨rfl, _, rfl⟩ := hv9
              have hz := hw
              clear hw
              obtain ⟨gb, rfl⟩ := ha9 (by omega)
              obtain ⟨y, hy⟩ : ∃ y, x.entries[searchI x.entries name]? = some y := ⟨_, List.getElem?_eq_getElem hfi⟩
              rw [List.getD_eq_getElem?_getD, hy, Option.getD_some] at hge
              obtain ⟨ya, yn, yc, hsub, hrd, hle⟩ := en_cells hels hy
              have hyf := En.fine_of hrd
              obtain ⟨q0, q1, hq9, ⟨p0, hns⟩, p1⟩ := id hrd
              simp only [List.cons.injEq, and_true] at hq9
              obtain ⟨rfl, rfl⟩ := hq9
              have hw := hz
              refine g_skip (g_seq ?_)
              refine g_region ?_
              refine xV rfl rfl rfl (v_fieldAddr0 T.fld_110_0_0 rfl) ?_
              refine xV rfl rfl rfl (v_fieldAddr0 T.fld_32_1_1 rfl) ?_
              refine rl_v rfl rfl rfl (by exact sat_cell hw (by (repeat first | with_reducible exact xH | apply xT); first | done | fail) rfl) (v_load T.scal_29 rfl) ?_
              refine xV rfl rfl rfl (v_move rfl) ?_
              refine xV rfl rfl rfl (v_indexAddr T.sl_29_49_2 rfl rfl (by omega) (by omega)) ?_
              refine rl_v rfl rfl rfl (by exact own_cells hw (by (repeat first | with_reducible exact xH | apply xT); first | done | fail) (by assumption)) (v_loadAgg (vs := [_, _]) T.agg_49_2 rfl rfl) ?_
              refine rl_k rfl (k_alloc hw T.zero_49 rfl rfl (fun bk12_6 w hw => ?_))
              refine rl_k rfl (k_storeWhole hw T.agg_49_2 rfl rfl (by simp [Value.oneCell']) rfl (by (repeat first | with_reducible exact xH | apply xT); first | done | fail) rfl (fun w hw => ?_))
              refine rl_nil (g_le (xK (xK (xK (xK (xK (xK (xK (Fr.le_refl _)))))))) ?_)
              refine g_seq ?_
              refine g_drawR ord_f22_r13_C07g (by kernel_rfl) T.mixed hw (fun w hw => ?_)
              refine rs_a 0 rfl rfl rfl rfl (v_fieldAddr0 T.fld_49_0_0 rfl) ?_
              refine rs_a 2 rfl rfl rfl rfl (v_fieldAddr0 T.fld_49_1_1 rfl) ?_
              refine rs_v 1 rfl rfl rfl rfl (OpV.mono (v_load T.scal_9 rfl) (fun w hw => by exact sat_cell hw (by (repeat first | with_reducible exact xH | apply xT); first | done | fail) rfl)) (by exact hw) ?_
              refine rs_kv 3 rfl rfl rfl rfl (by exact sat_cell hw (by (repeat first | with_reducible exact xH | apply xT); first | done | fail) rfl) (v_load T.scal_47 rfl) ?_
              refine rs_k 4 rfl rfl (k_callf Try.func44 rfl rfl rfl rfl ?_)
              refine Calls.mono (cloneVns_calls p1 (hw.xQ)) ?_
              rintro _ w ⟨v1, rfl, hw⟩
              obtain ⟨b1, d1, rfl, _, _, _⟩ := hw.own_shape
              refine ⟨_, rfl, ?_⟩
              refine ⟨fun _ => (by exact Sat.sub hw (by (repeat (first | with_reducible exact Sub.refl _ | exact Sub.nil _ | (apply Sub.cons; focus ((repeat (first | with_reducible exact Pick.here _ | apply Pick.there)); (first | done | fail))) | with_reducible apply Sub.drop)); first | done | fail)), ?_⟩
              refine rs_kv 5 rfl rfl rfl rfl (S' := fun _ => True) trivial (v_build rfl (T.build_49_0_1 ..)) ?_
              refine rs_k 6 rfl rfl (k_storeWhole hw T.agg_49_2 rfl rfl (by simp [Value.oneCell']) rfl (by (repeat first | with_reducible exact xH | apply xT); first | done | fail) rfl (fun w hw => ?_))
              refine ⟨fun hn => absurd (by decide) hn, ?_⟩
              refine rs_kv 7 rfl rfl rfl rfl (S' := fun _ => True) trivial (v_assign rfl) ?_
              refine rs_kv 8 rfl rfl rfl rfl (S' := fun _ => True) trivial (v_assign rfl) ?_
              refine rs_done (g_le (xK (xK (xK (xK (xK (xK (xK (xK (Fr.le_refl _))))))))) ?_)
              refine g_res3 Try.func22 rfl ⟨_, rfl, holds_agg (vs := [_, _]) T.agg_49_2 rfl (by exact sat_cells hw (by (repeat first | with_reducible exact xH | apply xT); first | done | fail) ⟨rfl, rfl, trivial⟩)⟩ rfl rfl ?_
              rw [hge]
              exact ⟨g2, A2, _, hg1.trans hg2, hI2, rfl, hyf, hw.xQ⟩
end Go.Proofs.Ytmbngahboaljpaa
