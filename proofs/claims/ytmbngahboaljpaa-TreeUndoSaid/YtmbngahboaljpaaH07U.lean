/-
  TreeUndo: a secret that is put in and taken out again leaves the same secrets; one that is put twice is there once.
-/
import Derived.Test.YtmbngahboaljpaaH12
import Derived.Test.YtmbngahboaljpaaRows
namespace Go.Proofs.Ytmbngahboaljpaa
set_option maxRecDepth 8000
set_option linter.unusedSimpArgs false
set_option linter.unusedVariables false
open Go Xe Go.Lib Go.RowKit Go.ChangeShapes Go.WideShapes Go.ChangeAt
theorem without_all {l : List Op7} {name : ByteArray} (h : ∀ x ∈ l, x.name ≠ name) : withoutO l name = l := List.filter_eq_self.2 fun x hx => decide_eq_true (h x hx)
theorem without_snoc_same {l : List Op7} {o : Op7} (h : ∀ x ∈ l, x.name ≠ o.name) : withoutO (l ++ [o]) o.name = l := by
  rw [withoutO_snoc, if_pos rfl, List.append_nil, without_all h]
theorem ents_le {l : List Op7} {es : List En} (m : MapOf l es) {n : Nat} (h : l.length ≤ n) : es.length ≤ n := by rw [m.len]; exact h
theorem rdOp7_lit {g : Hp} {o : Op7} {sa : Option Addr} {sn sc : Nat} (h1 : o.name.size ≤ reachBytes) (h2 : o.value.size ≤ reachBytes) (h3 : (rdSl 8 1 (rdInt .i64)) g [.slice sa sn sc] o.segs) (h4 : (Lit.int .i64 o.do_).wf = true) (h5 : (Lit.int .i64 o.back).wf = true) :
    rdOp7 g [.int .i64 o.do_, .string o.name, .string o.value, .slice sa sn sc, .int .i64 o.back] o := ⟨_, _, _, _, _, rfl, ⟨rfl, h4⟩, ⟨rfl, h1⟩, ⟨rfl, h2⟩, h3, ⟨rfl, h5⟩⟩
theorem ord_f8_r12_H07U : orderOfB Try.f8 12 [5, 9] (.a 0 (.a 1 (.v 2 (.k 3 (.k 4 (.k 5 (.k 6 (.a 7 (.a 8 (.k 9 (.k 10 .done))))))))))) = true := by kernel_rfl
theorem ord_f8_r13_H07U : orderOfB Try.f8 13 [6] (.a 0 (.a 1 (.v 2 (.v 4 (.b2 3 5 (.k 5 (.k 6 (.k 7 .done))) (.k 3 (.k 6 (.k 7 .done)))))))) = true := by kernel_rfl
theorem ord_f8_r20_H07U : orderOfB Try.f8 20 [4, 5] (.a 1 (.v 3 (.b2 0 4 (.b2 2 4 (.k 4 (.k 5 (.k 6 .done))) (.k 2 (.k 5 (.k 6 .done)))) (.k 0 (.k 2 (.k 5 (.k 6 .done))))))) = true := by kernel_rfl
theorem ord_f8_r16_H07U : orderOfB Try.f8 16 [5, 10] (.a 0 (.a 1 (.v 2 (.v 3 (.b2 4 9 (.b2 5 9 (.a 6 (.a 7 (.a 8 (.k 9 (.k 10 (.k 11 .done)))))) (.k 5 (.k 6 (.a 7 (.a 8 (.k 10 (.k 11 .done))))))) (.k 4 (.k 5 (.k 6 (.a 7 (.a 8 (.k 10 (.k 11 .done)))))))))))) = true := by kernel_rfl
theorem ord_f8_r15_H07U : orderOfB Try.f8 15 [5, 10] (.a 0 (.a 1 (.v 2 (.v 3 (.b2 4 9 (.b2 5 9 (.a 6 (.a 7 (.a 8 (.k 9 (.k 10 (.k 11 .done)))))) (.k 5 (.k 6 (.a 7 (.a 8 (.k 10 (.k 11 .done))))))) (.k 4 (.k 5 (.k 6 (.a 7 (.a 8 (.k 10 (.k 11 .done)))))))))))) = true := by kernel_rfl
set_option maxHeartbeats 8000000 in
theorem TreeUndo_law {w : World} {a : Option Addr} {len cap : Nat} {xs : List Op7} {ocs : Array Value} {o : Op7} (hr : rdArg (rdSl 72 5 rdOp7) w (.slice a len cap) xs) (hro : rdArg rdOp7 w (.agg ocs) o) :
    Law Try.prog 8 [.slice a len cap, .agg ocs] w := by
  unfold Law
  have hw := Sat.old w
  generalize w = W at hr hro hw ⊢
  have hr : (rdSl 72 5 rdOp7) (hpOf W) [.slice a len cap] xs := hr
  have hro : rdOp7 (hpOf W) ocs.toList o := hro
  obtain ⟨oa, on, oc, hoc, ons, ovs, osegs, odw, obw⟩ := op7_told hro
  obtain rfl : ocs = #[.int .i64 o.do_, .string o.name, .string o.value, .slice oa on oc, .int .i64 o.back] := by apply Array.ext'; exact hoc
  obtain ⟨rfl, hlb, hlc, hlm, _⟩ := rdSl_get hr
  simp only [reachBytes] at hlb
  refine calls_of_g (n := 133) Try.func8 rfl rfl rfl ?_
  change G _ _ _ _ _ [(0, _), (1, _)] _
  refine g_seq ?_
  refine g_region ?_
  refine rl_k rfl (k_box hw rfl rfl rfl (fun bk0_0 w hw => ?_))
  refine xV rfl rfl rfl (v_assign rfl) ?_
  refine rl_nil (g_le (xK (xK (Fr.le_refl _))) ?_)
  refine g_seq ?_
  refine g_region ?_
  refine rl_k rfl (k_callf Try.func12 rfl rfl rfl rfl ?_)
  refine Calls.mono (tnew_calls (g := hpOf W) (hw.xQ)) ?_
  rintro _ w ⟨h, A, rfl, hI, hw⟩
  refine ⟨_, rfl, ?_⟩
  refine xV rfl rfl rfl (v_assign rfl) ?_
  refine rl_nil (g_le (xK (xS rfl (Fr.le_refl _))) ?_)
  refine g_seq (g_seq ?_)
  refine g_region ?_
  refine xV rfl rfl rfl (v_move rfl) ?_
  refine xV rfl rfl rfl (v_eqlNil T.ptr_26 rfl rfl) ?_
  refine rl_nil (g_le (xK (xS rfl (Fr.le_refl _))) ?_)
  refine g_cond_false rfl ?_
  refine g_skip (g_seq ?_)
  refine g_region ?_
  refine xV rfl rfl rfl (v_move rfl) ?_
  refine xV rfl rfl rfl (v_mkIface T.ptr_26 rfl) ?_
  refine rl_k rfl (k_callf Try.func17 rfl rfl rfl rfl ?_)
  refine Calls.mono (tempty_calls hI (hw.xQ)) ?_
  rintro _ w ⟨g1, A1, hg1, hI1, rfl, ht1, hok1, hw⟩
  refine ⟨_, rfl, ?_⟩
  refine xV rfl rfl rfl (v_move rfl) ?_
  refine xV rfl rfl rfl (v_extract rfl rfl) ?_
  refine xV rfl rfl rfl (v_extract rfl rfl) ?_
  refine rl_k rfl (k_alloc hw T.zero_25 rfl rfl (fun bk4_6 w hw => ?_))
  refine rl_k rfl (k_storeWhole hw T.agg_25_4 rfl rfl (by simp [Value.oneCell']) rfl (by (repeat first | with_reducible exact xH | apply xT); first | done | fail) rfl (fun w hw => ?_))
  refine xV rfl rfl rfl (v_assign rfl) ?_
  refine rl_nil (g_le (xK (xK (xS rfl (xS rfl (xS rfl (xS rfl (xS rfl (xS rfl (Fr.le_refl _))))))))) ?_)
  refine g_seq ?_
  refine g_region ?_
  refine xV rfl rfl rfl (v_assign rfl) ?_
  refine rl_nil (g_le (xK (Fr.le_refl _)) ?_)
  refine g_seq (g_seq ?_)
  refine g_region ?_
  refine xV rfl rfl rfl (v_move rfl) ?_
  refine rl_k rfl (k_callf Try.func18 rfl rfl rfl rfl ?_)
  refine Calls.mono (short7_calls a xs.length cap 40 (by omega) (by omega) hw) ?_
  rintro _ w ⟨rfl, hw⟩
  refine ⟨_, rfl, ?_⟩
  refine xV rfl rfl rfl (v_lenSlice T.sl_41_46_5 rfl) ?_
  refine xV rfl rfl rfl (v_move rfl) ?_
  refine rl_nil (g_le (xK (xK (xK (xS rfl (Fr.le_refl _))))) ?_)
  refine g_block ?_
  refine g_loopC (σ := Int × Hp × List Nd × As × Rf × Value × List Op7) (fun C x => (31, .int .i64 x.1) :: (8, x.2.2.2.2.2.1) :: C) [(3, _), (4, _), (5, _), (6, _), (7, _), (29, _), (30, _)] (by repeat (first | exact Fr.le_nil _ | refine Fr.le_cons rfl ?_)) (fun z w => 0 ≤ z.1 ∧ z.1 ≤ min xs.length 40 ∧ (hpOf W).le z.2.1 ∧ HeapI h z.2.1 z.2.2.1 z.2.2.2.1 ∧ z.2.2.2.2.1.ok ∧ (∃ hh u, TreeAt z.2.2.1 z.2.2.2.2.1 hh u ∧ MapOf z.2.2.2.2.2.2 (entsU hh u)) ∧ (z.2.2.2.2.2.2.length : Int) ≤ z.1 ∧ (z.2.2.1.length : Int) ≤ 1 + 17 * z.1 ∧ (rdSl 72 5 rdOp7) z.2.1 [z.2.2.2.2.2.1] z.2.2.2.2.2.2 ∧ (∀ x ∈ z.2.2.2.2.2.2, x.name ≠ o.name) ∧ Sat (envOf W) w (z.2.2.2.1 :: pt bk4_6 (.cells z.2.2.2.2.1.cells.toArray 25 (0, 0)) :: pt bk0_0 (.cells [.int .i64 (o).do_, .string (o).name, .string (o).value, .slice oa on oc, .int .i64 (o).back].toArray 46 (0, 0)) :: RO z.2.1 :: [])) (fun z => (xs.length - z.1).toNat) ?_ (0, g1, [nodeU 0 ([] : List En)], A1, refO 0, .slice none 0 0, []) (by repeat (first | exact Fr.le_nil _ | refine Fr.le_cons rfl ?_)) ⟨by simp, by simp only; omega, hg1, hI1, hok1, ⟨0, _, ht1, MapOf.nil⟩, by simp, by simp, rdSl_nil _, by simp, hw.xQ⟩
  rintro ⟨i, g, s, A, root, lv, l⟩ w ⟨hi0, hi1, hg, hI, hrk, ⟨hh, u, ht, hmp⟩, hll, hsl, hl, hno, hw⟩ ih
  dsimp only at hi0 hi1 hg hI hrk ht hmp hll hsl hl hno hw ih ⊢
  obtain ⟨la, ln, lc, rfl⟩ := rdSl_shape hl
  obtain ⟨rfl, hle9, hm9, hb9, lcells, hlels, hsrc⟩ := rdSl_cells hl
  simp only [reachBytes] at hb9
  simp only [maxLen] at hm9
  have hel := ents_le hmp (n := 40) (by omega)
  refine g_seq ?_
  refine g_region ?_
  refine xV rfl rfl rfl (v_lss rfl rfl) ?_
  refine rl_nil (g_le (xK (Fr.le_refl _)) ?_)
  refine g_seq ?_
  refine g_cond rfl (fun h2 => ?_) (fun h2 => ?_)
  · try with_reducible exact ft_elim h2
    all_goals
      try replace h2 := of_decide_eq_true h2
      refine g_skip (g_seq (g_block (g_seq ?_)))
      have hz := hw
      clear hw
      obtain ⟨_, _, _, _, gl⟩ := rdSl_get (mono_sl mono_Op7 hg hr)
      obtain ⟨b4, o1, x, ecs, rfl, hx, hat1, hl1, hrd⟩ := gl i hi0 (by omega)
      obtain ⟨sa, sn, sc, rfl, hns, hvs, hsegs, hdw, hbw⟩ := op7_told hrd
      have hw := hz
      refine g_region ?_
      refine xV rfl rfl rfl (v_indexAddr T.sl_41_46_5 rfl rfl (by omega) (by omega)) ?_
      refine rl_v rfl rfl rfl (by exact ro_ats hw (by (repeat first | with_reducible exact xH | apply xT); first | done | fail) (by assumption)) (v_loadAgg (vs := [_, _, _, _, _]) T.agg_46_5 rfl rfl) ?_
      refine rl_k rfl (k_alloc hw T.zero_46 rfl rfl (fun bk8_2 w hw => ?_))
      refine rl_k rfl (k_storeWhole hw T.agg_46_5 rfl rfl (by simp [Value.oneCell']) rfl (by (repeat first | with_reducible exact xH | apply xT); first | done | fail) rfl (fun w hw => ?_))
      refine rl_nil (g_le (xK (xK (xK (Fr.le_refl _)))) ?_)
      refine g_seq (g_seq ?_)
      refine g_region ?_
      refine xV rfl rfl rfl (v_move rfl) ?_
      refine xV rfl rfl rfl (v_neqF rfl rfl (by omega)) ?_
      refine rl_nil (g_le (xK (xK (Fr.le_refl _))) ?_)
      refine g_cond_false rfl ?_
      refine g_skip (g_seq ?_)
      refine g_region ?_
      refine xV rfl rfl rfl (v_fieldAddr0 T.fld_46_1_1 rfl) ?_
      refine rl_v rfl rfl rfl (by exact sat_cell hw (by (repeat first | with_reducible exact xH | apply xT); first | done | fail) rfl) (v_load T.scal_9 rfl) ?_
      refine xV rfl rfl rfl (v_fieldAddr0 T.fld_46_1_1 rfl) ?_
      refine rl_v rfl rfl rfl (by exact sat_cell hw (by (repeat first | with_reducible exact xH | apply xT); first | done | fail) rfl) (v_load T.scal_9 rfl) ?_
      refine xV rfl rfl rfl (v_neqStr rfl rfl) ?_
      refine rl_nil (g_le (xK (xK (xK (xK (xK (Fr.le_refl _)))))) ?_)
      refine g_cond rfl (fun h4 => ?_) (fun h4 => ?_)
      · try with_reducible exact ft_elim h4
        all_goals
          try replace h4 := of_decide_eq_true h4
          refine g_seq ?_
          have hw := hw.xP (A := A)
          refine g_drawB ord_f8_r12_H07U (by kernel_rfl) T.mixed (fun w hw => (hw.pick .at0).drop) hw (fun w hw => ?_)
          refine rs_a 0 rfl rfl rfl rfl (v_move rfl) ?_
          refine rs_a 1 rfl rfl rfl rfl (v_mkIface T.ptr_26 rfl) ?_
          refine rs_v 2 rfl rfl rfl rfl (OpV.mono (v_loadAgg (vs := [_, _, _, _]) T.agg_25_4 rfl rfl) (fun w hw => by exact sat_cells hw (by (repeat first | with_reducible exact xH | apply xT); first | done | fail) ⟨rfl, rfl, rfl, rfl, trivial⟩)) (by exact Sat.sub hw (by (repeat (first | with_reducible exact Sub.refl _ | exact Sub.nil _ | (apply Sub.cons; focus ((repeat (first | with_reducible exact Pick.here _ | apply Pick.there)); (first | done | fail))) | with_reducible apply Sub.drop)); first | done | fail)) ?_
          refine rs_kv 3 rfl rfl rfl rfl (by exact sat_cells hw (by (repeat first | with_reducible exact xH | apply xT); first | done | fail) ⟨rfl, rfl, rfl, rfl, rfl, trivial⟩) (v_loadAgg (vs := [_, _, _, _, _]) T.agg_46_5 rfl rfl) ?_
          refine rs_k 4 rfl rfl (k_callf Try.func19 rfl rfl rfl rfl ?_)
          refine Calls.mono (secret_calls (hw.xQ) rfl) ?_
          rintro _ w ⟨vb, rfl, hw⟩
          refine ⟨_, rfl, ?_⟩
          refine ⟨fun _ => (by exact Sat.sub hw (by (repeat (first | with_reducible exact Sub.refl _ | exact Sub.nil _ | (apply Sub.cons; focus ((repeat (first | with_reducible exact Pick.here _ | apply Pick.there)); (first | done | fail))) | with_reducible apply Sub.drop)); first | done | fail)), ?_⟩
          refine rs_k 5 rfl rfl (k_callf Try.func20 rfl rfl rfl rfl ?_)
          obtain ⟨g3, hg3, hvn, hw⟩ := ((hw.xP (A := pt vb (.cells (⟨1, x.value, ByteArray.empty⟩ : Vn).cells.toArray 53 (0, 0)))).xP (A := RO g)).freeze_lit (R := rdVn) (sz := 3) (bytes := 40) mono_Vn (xs := [⟨1, x.value, ByteArray.empty⟩]) (Els.one rfl ⟨rfl, sec_ok hvs⟩) rfl (by simp [maxLen]) (by simp [reachBytes])
          have hen : rdEn g3 [.string x.name, .slice (some ⟨vb, 0, none⟩) 1 1] (secO x) := ⟨_, _, rfl, ⟨rfl, hns⟩, hvn⟩
          refine Calls.mono (tput_calls hen ht (by omega) (by omega) hrk (HeapI.mono hg3 hI) (hw.xQ)) ?_
          rintro _ w ⟨g4, A4, s4, root4, q4, u4, hg4, hI4, rfl, hok4, hst, _, h74, hw⟩
          refine ⟨_, rfl, ?_⟩
          refine ⟨fun hn => absurd (by decide) hn, ?_⟩
          refine rs_kv 6 rfl rfl rfl rfl (S' := fun _ => True) trivial (v_move rfl) ?_
          refine rs_a 7 rfl rfl rfl rfl (v_extract rfl rfl) ?_
          refine rs_a 8 rfl rfl rfl rfl (v_extract rfl rfl) ?_
          refine rs_k 9 rfl rfl (k_storeWhole hw T.agg_25_4 rfl rfl (by simp [Value.oneCell']) rfl (by (repeat first | with_reducible exact xH | apply xT); first | done | fail) rfl (fun w hw => ?_))
          refine ⟨fun hn => absurd (by decide) hn, ?_⟩
          refine rs_kv 10 rfl rfl rfl rfl (S' := fun _ => True) trivial (v_assign rfl) ?_
          refine rs_done (g_le (xK (xK (xK (xK (xK (xK (xK (xK (xK (xK (Fr.le_refl _))))))))))) ?_)
          refine g_drawR ord_f8_r13_H07U (by kernel_rfl) T.mixed hw (fun w hw => ?_)
          refine rs_a 0 rfl rfl rfl rfl (v_move rfl) ?_
          refine rs_a 1 rfl rfl rfl rfl (v_fieldAddr0 T.fld_46_1_1 rfl) ?_
          refine rs_v 2 rfl rfl rfl rfl (OpV.mono (v_load T.scal_9 rfl) (fun w hw => by exact sat_cell hw (by (repeat first | with_reducible exact xH | apply xT); first | done | fail) rfl)) (by exact hw) ?_
          refine rs_v 4 rfl rfl rfl rfl (OpV.mono (v_loadAgg (vs := [_, _, _, _, _]) T.agg_46_5 rfl rfl) (fun w hw => by exact sat_cells hw (by (repeat first | with_reducible exact xH | apply xT); first | done | fail) ⟨rfl, rfl, rfl, rfl, rfl, trivial⟩)) (by exact hw) ?_
          refine rs_b2 3 5 rfl rfl rfl rfl ?_ ?_ 
          · skip
            refine (k_callf Try.func21 rfl rfl rfl rfl ?_)
            refine Calls.mono (without_calls x.name (mono_sl mono_Op7 (hg3.trans hg4) hl) (hw.xP (A := RO g4))) ?_
            rintro _ w ⟨wv, wcells, rfl, hwels, hw⟩
            obtain ⟨wa, wc, rfl, _, _, _⟩ := hw.own_shape
            have hlen : wcells.length = (withoutO l x.name).length * 5 := hwels.len
            have hone := hwels.ones one_Op7
            have hwl := without_len l x.name
            refine ⟨_, rfl, ?_⟩
            refine ⟨fun _ => (by exact Sat.sub hw (by (repeat (first | with_reducible exact Sub.refl _ | exact Sub.nil _ | (apply Sub.cons; focus ((repeat (first | with_reducible exact Pick.here _ | apply Pick.there)); (first | done | fail))) | with_reducible apply Sub.drop)); first | done | fail)), ?_⟩
            refine rs_k 5 rfl rfl (k_buildSlice (cells := [_, _, _, _, _]) hw T.sl_41_46_5 T.zero_46 rfl rfl rfl rfl rfl rfl (fun bk13_5 w hw => ?_))
            refine ⟨fun _ => (by exact Sat.sub hw (by (repeat (first | with_reducible exact Sub.refl _ | exact Sub.nil _ | (apply Sub.cons; focus ((repeat (first | with_reducible exact Pick.here _ | apply Pick.there)); (first | done | fail))) | with_reducible apply Sub.drop)); first | done | fail)), ?_⟩
            refine rs_k 6 rfl rfl (k_append (news := [_, _, _, _, _]) hw T.sl_41_46_5 T.zero_46 T.bytes_46_72 rfl (by decide) rfl rfl (by (repeat first | with_reducible exact xH | apply xT); first | done | fail) rfl (by exact sat_cells hw (by (repeat first | with_reducible exact xH | apply xT); first | done | fail) ⟨rfl, rfl, rfl, rfl, rfl, trivial⟩) (by simp [Value.oneCell']) (by omega) (by simp only [maxLen]; omega) rfl (fun vv13_6 w hw hnil => ?_))
            refine ⟨fun hn => absurd (by decide) hn, ?_⟩
            refine rs_kv 7 rfl rfl rfl rfl (S' := fun _ => True) trivial (v_assign rfl) ?_
            refine rs_done (g_le (xK (xK (xK (xK (xK (xK (xK (xK (Fr.le_refl _))))))))) ?_)
            refine g_inBlock ?_
            refine g_region ?_
            refine xV rfl rfl rfl (v_add rfl rfl (by omega)) ?_
            refine xV rfl rfl rfl (v_move rfl) ?_
            refine rl_nil (g_le (xK (xK (Fr.le_refl _))) ?_)
            obtain ⟨g6, hg6, hl6, hw⟩ := (hw.xQ : Sat (envOf W) w (RO g4 :: OwnSl 46 5 vv13_6 ((withoutO l x.name).length + 1) (wcells ++ [.int .i64 x.do_, .string x.name, .string x.value, .slice sa sn sc, .int .i64 x.back]) :: A4 :: pt bk4_6 (.cells root4.cells.toArray 25 (0, 0)) :: pt bk0_0 (.cells [.int .i64 (o).do_, .string (o).name, .string (o).value, .slice oa on oc, .int .i64 (o).back].toArray 46 (0, 0)) :: [])).freeze_sl (bytes := 72) mono_Op7 (hwels.append (Els.one rfl (mono_Op7 (hg3.trans hg4) hrd))) (by simp) (by simp only [List.length_append, List.length_singleton, reachBytes]; omega)
            have hst1 := hst.len
            have hst2 := hst.ents
            exact g_le (by repeat (first | exact Fr.le_nil _ | refine Fr.le_cons rfl ?_)) (ih (i + 1, g6, s4, A4, root4, vv13_6, withoutO l x.name ++ [x]) w ⟨by simp only; omega, by simp only; omega, hg.trans (hg3.trans (hg4.trans hg6)), HeapI.mono hg6 hI4, hok4, ⟨q4, u4, hst.tree, by rw [hst2]; exact hmp.ins x⟩, by simp only [List.length_append, List.length_singleton]; omega, by simp only; omega, hl6, fun y hy => (List.mem_append.1 hy).elim (fun hy => hno y (List.mem_filter.1 hy).1) (fun hy => by rw [List.mem_singleton.1 hy]; simpa using h4), hw.xQ⟩ (by simp only; omega))
          · skip
            refine (k_buildSlice (cells := [_, _, _, _, _]) hw T.sl_41_46_5 T.zero_46 rfl rfl rfl rfl rfl rfl (fun bk13_5 w hw => ?_))
            refine ⟨fun _ => (by exact Sat.sub hw (by (repeat (first | with_reducible exact Sub.refl _ | exact Sub.nil _ | (apply Sub.cons; focus ((repeat (first | with_reducible exact Pick.here _ | apply Pick.there)); (first | done | fail))) | with_reducible apply Sub.drop)); first | done | fail)), ?_⟩
            refine rs_k 3 rfl rfl (k_callf Try.func21 rfl rfl rfl rfl ?_)
            refine Calls.mono (without_calls x.name (mono_sl mono_Op7 (hg3.trans hg4) hl) (hw.xP (A := RO g4))) ?_
            rintro _ w ⟨wv, wcells, rfl, hwels, hw⟩
            obtain ⟨wa, wc, rfl, _, _, _⟩ := hw.own_shape
            have hlen : wcells.length = (withoutO l x.name).length * 5 := hwels.len
            have hone := hwels.ones one_Op7
            have hwl := without_len l x.name
            refine ⟨_, rfl, ?_⟩
            refine ⟨fun _ => (by exact Sat.sub hw (by (repeat (first | with_reducible exact Sub.refl _ | exact Sub.nil _ | (apply Sub.cons; focus ((repeat (first | with_reducible exact Pick.here _ | apply Pick.there)); (first | done | fail))) | with_reducible apply Sub.drop)); first | done | fail)), ?_⟩
            refine rs_k 6 rfl rfl (k_append (news := [_, _, _, _, _]) hw T.sl_41_46_5 T.zero_46 T.bytes_46_72 rfl (by decide) rfl rfl (by (repeat first | with_reducible exact xH | apply xT); first | done | fail) rfl (by exact sat_cells hw (by (repeat first | with_reducible exact xH | apply xT); first | done | fail) ⟨rfl, rfl, rfl, rfl, rfl, trivial⟩) (by simp [Value.oneCell']) (by omega) (by simp only [maxLen]; omega) rfl (fun vv13_6 w hw hnil => ?_))
            refine ⟨fun hn => absurd (by decide) hn, ?_⟩
            refine rs_kv 7 rfl rfl rfl rfl (S' := fun _ => True) trivial (v_assign rfl) ?_
            refine rs_done (g_le (xK (xK (xK (xK (xK (xK (xK (xK (Fr.le_refl _))))))))) ?_)
            refine g_inBlock ?_
            refine g_region ?_
            refine xV rfl rfl rfl (v_add rfl rfl (by omega)) ?_
            refine xV rfl rfl rfl (v_move rfl) ?_
            refine rl_nil (g_le (xK (xK (Fr.le_refl _))) ?_)
            obtain ⟨g6, hg6, hl6, hw⟩ := (hw.xQ : Sat (envOf W) w (RO g4 :: OwnSl 46 5 vv13_6 ((withoutO l x.name).length + 1) (wcells ++ [.int .i64 x.do_, .string x.name, .string x.value, .slice sa sn sc, .int .i64 x.back]) :: A4 :: pt bk4_6 (.cells root4.cells.toArray 25 (0, 0)) :: pt bk0_0 (.cells [.int .i64 (o).do_, .string (o).name, .string (o).value, .slice oa on oc, .int .i64 (o).back].toArray 46 (0, 0)) :: [])).freeze_sl (bytes := 72) mono_Op7 (hwels.append (Els.one rfl (mono_Op7 (hg3.trans hg4) hrd))) (by simp) (by simp only [List.length_append, List.length_singleton, reachBytes]; omega)
            have hst1 := hst.len
            have hst2 := hst.ents
            exact g_le (by repeat (first | exact Fr.le_nil _ | refine Fr.le_cons rfl ?_)) (ih (i + 1, g6, s4, A4, root4, vv13_6, withoutO l x.name ++ [x]) w ⟨by simp only; omega, by simp only; omega, hg.trans (hg3.trans (hg4.trans hg6)), HeapI.mono hg6 hI4, hok4, ⟨q4, u4, hst.tree, by rw [hst2]; exact hmp.ins x⟩, by simp only [List.length_append, List.length_singleton]; omega, by simp only; omega, hl6, fun y hy => (List.mem_append.1 hy).elim (fun hy => hno y (List.mem_filter.1 hy).1) (fun hy => by rw [List.mem_singleton.1 hy]; simpa using h4), hw.xQ⟩ (by simp only; omega))
      · try with_reducible exact tf_elim h4
        all_goals
          try replace h4 := of_decide_eq_false h4
          refine g_skip (g_inBlock ?_)
          refine g_region ?_
          refine xV rfl rfl rfl (v_add rfl rfl (by omega)) ?_
          refine xV rfl rfl rfl (v_move rfl) ?_
          refine rl_nil (g_le (xK (xK (Fr.le_refl _))) ?_)
          exact g_le (by repeat (first | exact Fr.le_nil _ | refine Fr.le_cons rfl ?_)) (ih (i + 1, g, s, A, root, .slice la l.length lc, l) w ⟨by simp only; omega, by simp only; omega, hg, hI, hrk, ⟨hh, u, ht, hmp⟩, by simp only; omega, by simp only; omega, hl, hno, hw.xQ⟩ (by simp only; omega))
  · try with_reducible exact tf_elim h2
    all_goals
      try replace h2 := of_decide_eq_false h2
      refine g_exit rfl (g_seq ?_)
      refine g_cutc (σ := Hp × List Nd × As × Rf × Nat) (fun C x => (11, .pointer (some ⟨x.2.2.2.2, 0, none⟩)) :: (12, .int .i64 0) :: C) [(3, _), (4, _), (5, _), (6, _), (7, _), (8, _)] (by repeat (first | exact Fr.le_nil _ | refine Fr.le_cons rfl ?_)) (fun z w => g.le z.1 ∧ HeapI h z.1 z.2.1 z.2.2.1 ∧ z.2.2.2.1.ok ∧ s <+: z.2.1 ∧ z.2.1.length ≤ s.length + 17 ∧ (∃ q4 u4, TreeAt z.2.1 z.2.2.2.1 q4 u4 ∧ MapOf (l ++ [o]) (entsU q4 u4)) ∧ Sat (envOf W) w (z.2.2.1 :: pt z.2.2.2.2 (.cells z.2.2.2.1.cells.toArray 25 (0, 0)) :: pt bk4_6 (.cells root.cells.toArray 25 (0, 0)) :: pt bk0_0 (.cells [.int .i64 (o).do_, .string (o).name, .string (o).value, .slice oa on oc, .int .i64 (o).back].toArray 46 (0, 0)) :: RO z.1 :: [])) ?_ ?_
      · skip
        rintro ⟨g4, s4, A4, root4, b11⟩ w ⟨hg4, hI4, hok4, hp4, hs4, ⟨q4, u4, ht4, hm4⟩, hw⟩
        dsimp only at hg4 hI4 hok4 hp4 hs4 ht4 hm4 hw ⊢
        have hel4 := ents_le hm4 (n := 41) (by simp only [List.length_append, List.length_singleton]; omega)
        all_goals
          refine g_seq ?_
          refine g_cutc (σ := Hp × List Nd × As × Rf × Nat) (fun C x => (13, .pointer (some ⟨x.2.2.2.2, 0, none⟩)) :: (14, .int .i64 0) :: C) [(3, _), (4, _), (5, _), (6, _), (7, _), (8, _), (11, _), (12, _)] (by repeat (first | exact Fr.le_nil _ | refine Fr.le_cons rfl ?_)) (fun z w => g4.le z.1 ∧ HeapI h z.1 z.2.1 z.2.2.1 ∧ z.2.2.2.1.ok ∧ s4 <+: z.2.1 ∧ z.2.1.length ≤ s4.length + 17 ∧ (∃ q6 u6, TreeAt z.2.1 z.2.2.2.1 q6 u6 ∧ MapOf (l ++ [o]) (entsU q6 u6)) ∧ Sat (envOf W) w (z.2.2.1 :: pt z.2.2.2.2 (.cells z.2.2.2.1.cells.toArray 25 (0, 0)) :: pt b11 (.cells root4.cells.toArray 25 (0, 0)) :: pt bk4_6 (.cells root.cells.toArray 25 (0, 0)) :: pt bk0_0 (.cells [.int .i64 (o).do_, .string (o).name, .string (o).value, .slice oa on oc, .int .i64 (o).back].toArray 46 (0, 0)) :: RO z.1 :: [])) ?_ ?_
          · skip
            rintro ⟨g6, s6, A6, root6, b13⟩ w ⟨hg6, hI6, hok6, hp6, hs6, ⟨q6, u6, ht6, hm6⟩, hw⟩
            dsimp only at hg6 hI6 hok6 hp6 hs6 ht6 hm6 hw ⊢
            have hel6 := ents_le hm6 (n := 41) (by simp only [List.length_append, List.length_singleton]; omega)
            all_goals
              refine g_seq ?_
              refine g_region ?_
              refine xV rfl rfl rfl (v_move rfl) ?_
              refine xV rfl rfl rfl (v_mkIface T.ptr_26 rfl) ?_
              refine rl_v rfl rfl rfl (by exact sat_cells hw (by (repeat first | with_reducible exact xH | apply xT); first | done | fail) ⟨rfl, rfl, rfl, rfl, trivial⟩) (v_loadAgg (vs := [_, _, _, _]) T.agg_25_4 rfl rfl) ?_
              refine xV rfl rfl rfl (v_fieldAddr0 T.fld_46_1_1 rfl) ?_
              refine rl_v rfl rfl rfl (by exact sat_cell hw (by (repeat first | with_reducible exact xH | apply xT); first | done | fail) rfl) (v_load T.scal_9 rfl) ?_
              refine rl_k rfl (k_callf Try.func30 rfl rfl rfl rfl ?_)
              refine Calls.mono (tdel_calls o.name ht6 (by omega) (by omega) hok6 hI6 (hw.xQ)) ?_
              rintro _ w ⟨g7, A7, b, s7, root7, q7, u7, hg7, hI7, rfl, hok7, hst7, _, h77, hb7, _, hw⟩
              refine ⟨_, rfl, ?_⟩
              refine xV rfl rfl rfl (v_move rfl) ?_
              refine xV rfl rfl rfl (v_extract rfl rfl) ?_
              refine xV rfl rfl rfl (v_extract rfl rfl) ?_
              refine xV rfl rfl rfl (v_extract rfl rfl) ?_
              refine rl_k rfl (k_alloc hw T.zero_25 rfl rfl (fun bk17_10 w hw => ?_))
              refine rl_k rfl (k_storeWhole hw T.agg_25_4 rfl rfl (by simp [Value.oneCell']) rfl (by (repeat first | with_reducible exact xH | apply xT); first | done | fail) rfl (fun w hw => ?_))
              refine xV rfl rfl rfl (v_assign rfl) ?_
              refine xV rfl rfl rfl (v_assign rfl) ?_
              refine rl_nil (g_le (xK (xK (xK (xS rfl (xS rfl (xS rfl (xS rfl (xS rfl (xS rfl (xS rfl (xS rfl (xS rfl (xS rfl (Fr.le_refl _)))))))))))))) ?_)
              obtain rfl : b = true := hb7.2 ⟨secO o, hm6.2.mem_iff.2 (List.mem_map.2 ⟨o, by simp, rfl⟩), rfl⟩
              have hm7 : MapOf l (entsU q7 u7) := by rw [hst7.ents]; have := hm6.del o.name; rwa [without_snoc_same hno] at this
              have hgg7 := hg4.trans (hg6.trans hg7)
              have t0 := ht.mono (hp4.trans (hp6.trans hst7.ext))
              have t4 := ht4.mono (hp6.trans hst7.ext)
              have t6 := ht6.mono hst7.ext
              have h70 := ht.low (by omega)
              have h74 := ht4.low (by omega)
              have h76 := ht6.low (by omega)
              have hl7 := mono_sl mono_Op7 hgg7 hl
              obtain ⟨_, _, _, _, lcells7, hlels7, hsrc7⟩ := rdSl_cells hl7
              have hlen : lcells7.length = l.length * 5 := hlels7.len
              have hone := hlels7.ones one_Op7
              refine g_seq (g_seq ?_)
              refine g_region ?_
              refine xV rfl rfl rfl (v_move rfl) ?_
              refine xV rfl rfl rfl (v_neqF rfl rfl (by omega)) ?_
              refine xV rfl rfl rfl (v_move rfl) ?_
              refine rl_split (s := 89) rfl (fun g18_2 => ?_) (fun g18_2 => ?_)
              · try with_reducible exact ft_elim g18_2
                all_goals
                  try replace g18_2 := of_decide_eq_true g18_2
                  refine rl_off (met_off rfl rfl rfl rfl rfl) rfl rfl ?_
                  refine rl_off (met_off rfl rfl rfl rfl rfl) rfl rfl ?_
                  first | (refine xV rfl rfl rfl (v_pick_true rfl rfl) ?_) | (refine xV rfl rfl rfl (v_pick_false rfl rfl) ?_) | (refine xV rfl rfl rfl (v_pick rfl rfl rfl) ?_)
                  refine xV rfl rfl rfl (v_move rfl) ?_
                  refine rl_off (met_off rfl rfl rfl rfl rfl) rfl rfl ?_
                  refine rl_off (met_off rfl rfl rfl rfl rfl) rfl rfl ?_
                  first | (refine xV rfl rfl rfl (v_pick_true rfl rfl) ?_) | (refine xV rfl rfl rfl (v_pick_false rfl rfl) ?_) | (refine xV rfl rfl rfl (v_pick rfl rfl rfl) ?_)
                  refine xV rfl rfl rfl (v_move rfl) ?_
                  refine rl_off (met_off rfl rfl rfl rfl rfl) rfl rfl ?_
                  refine rl_off (met_off rfl rfl rfl rfl rfl) rfl rfl ?_
                  first | (refine xV rfl rfl rfl (v_pick_true rfl rfl) ?_) | (refine xV rfl rfl rfl (v_pick_false rfl rfl) ?_) | (refine xV rfl rfl rfl (v_pick rfl rfl rfl) ?_)
                  refine xV rfl rfl rfl (v_move rfl) ?_
                  refine rl_off (met_off rfl rfl rfl rfl rfl) rfl rfl ?_
                  refine rl_off (met_off rfl rfl rfl rfl rfl) rfl rfl ?_
                  first | (refine xV rfl rfl rfl (v_pick_true rfl rfl) ?_) | (refine xV rfl rfl rfl (v_pick_false rfl rfl) ?_) | (refine xV rfl rfl rfl (v_pick rfl rfl rfl) ?_)
                  refine rl_nil (g_le (xK (xS rfl (xS rfl (xS rfl (xS rfl (xS rfl (xS rfl (xS rfl (xS rfl (xS rfl (xS rfl (xS rfl (xS rfl (xS rfl (xS rfl (xS rfl (xS rfl (xS rfl (xS rfl (Fr.le_refl _)))))))))))))))))))) ?_)
                  refine g_cond_true rfl ?_
                  refine g_seq ?_
                  refine g_region ?_
                  refine xV rfl rfl rfl (v_assign rfl) ?_
                  refine rl_nil (g_le (xK (Fr.le_refl _)) ?_)
                  refine g_ret1 Try.func8 rfl rfl ?_
                  exact ⟨rfl, hw⟩
              · try with_reducible exact tf_elim g18_2
                all_goals
                  try replace g18_2 := of_decide_eq_false g18_2
                  refine rl_vg (met_on rfl rfl rfl rfl) rfl rfl (S := fun _ => True) trivial (v_move rfl) ?_
                  refine rl_vg (met_on rfl rfl rfl rfl) rfl rfl (S := fun _ => True) trivial (v_neqF rfl rfl (by omega)) ?_
                  refine xV rfl rfl rfl (v_pick_false rfl rfl) ?_
                  refine xV rfl rfl rfl (v_move rfl) ?_
                  refine rl_split (s := 93) rfl (fun g18_6 => ?_) (fun g18_6 => ?_)
                  · try with_reducible exact ft_elim g18_6
                    all_goals
                      try replace g18_6 := of_decide_eq_true g18_6
                      refine rl_off (met_off rfl rfl rfl rfl rfl) rfl rfl ?_
                      refine rl_off (met_off rfl rfl rfl rfl rfl) rfl rfl ?_
                      first | (refine xV rfl rfl rfl (v_pick_true rfl rfl) ?_) | (refine xV rfl rfl rfl (v_pick_false rfl rfl) ?_) | (refine xV rfl rfl rfl (v_pick rfl rfl rfl) ?_)
                      refine xV rfl rfl rfl (v_move rfl) ?_
                      refine rl_off (met_off rfl rfl rfl rfl rfl) rfl rfl ?_
                      refine rl_off (met_off rfl rfl rfl rfl rfl) rfl rfl ?_
                      first | (refine xV rfl rfl rfl (v_pick_true rfl rfl) ?_) | (refine xV rfl rfl rfl (v_pick_false rfl rfl) ?_) | (refine xV rfl rfl rfl (v_pick rfl rfl rfl) ?_)
                      refine xV rfl rfl rfl (v_move rfl) ?_
                      refine rl_off (met_off rfl rfl rfl rfl rfl) rfl rfl ?_
                      refine rl_off (met_off rfl rfl rfl rfl rfl) rfl rfl ?_
                      first | (refine xV rfl rfl rfl (v_pick_true rfl rfl) ?_) | (refine xV rfl rfl rfl (v_pick_false rfl rfl) ?_) | (refine xV rfl rfl rfl (v_pick rfl rfl rfl) ?_)
                      refine rl_nil (g_le (xK (xS rfl (xS rfl (xS rfl (xS rfl (xS rfl (xS rfl (xS rfl (xS rfl (xS rfl (xS rfl (xS rfl (xS rfl (xS rfl (xS rfl (xS rfl (xS rfl (xS rfl (xS rfl (xS rfl (Fr.le_refl _))))))))))))))))))))) ?_)
                      refine g_cond_true rfl ?_
                      refine g_seq ?_
                      refine g_region ?_
                      refine xV rfl rfl rfl (v_assign rfl) ?_
                      refine rl_nil (g_le (xK (Fr.le_refl _)) ?_)
                      refine g_ret1 Try.func8 rfl rfl ?_
                      exact ⟨rfl, hw⟩
                  · try with_reducible exact tf_elim g18_6
                    all_goals
                      try replace g18_6 := of_decide_eq_false g18_6
                      refine rl_vg (met_on rfl rfl rfl rfl) rfl rfl (S := fun _ => True) trivial (v_move rfl) ?_
                      refine rl_vg (met_on rfl rfl rfl rfl) rfl rfl (S := fun _ => True) trivial (v_neqF rfl rfl (by omega)) ?_
                      refine xV rfl rfl rfl (v_pick_false rfl rfl) ?_
                      refine xV rfl rfl rfl (v_move rfl) ?_
                      refine rl_split (s := 97) rfl (fun g18_10 => ?_) (fun g18_10 => ?_)
                      · try with_reducible exact ft_elim g18_10
                        all_goals
                          try replace g18_10 := of_decide_eq_true g18_10
                          refine rl_off (met_off rfl rfl rfl rfl rfl) rfl rfl ?_
                          refine rl_off (met_off rfl rfl rfl rfl rfl) rfl rfl ?_
                          first | (refine xV rfl rfl rfl (v_pick_true rfl rfl) ?_) | (refine xV rfl rfl rfl (v_pick_false rfl rfl) ?_) | (refine xV rfl rfl rfl (v_pick rfl rfl rfl) ?_)
                          refine xV rfl rfl rfl (v_move rfl) ?_
                          refine rl_off (met_off rfl rfl rfl rfl rfl) rfl rfl ?_
                          refine rl_off (met_off rfl rfl rfl rfl rfl) rfl rfl ?_
                          first | (refine xV rfl rfl rfl (v_pick_true rfl rfl) ?_) | (refine xV rfl rfl rfl (v_pick_false rfl rfl) ?_) | (refine xV rfl rfl rfl (v_pick rfl rfl rfl) ?_)
                          refine rl_nil (g_le (xK (xS rfl (xS rfl (xS rfl (xS rfl (xS rfl (xS rfl (xS rfl (xS rfl (xS rfl (xS rfl (xS rfl (xS rfl (xS rfl (xS rfl (xS rfl (xS rfl (xS rfl (xS rfl (xS rfl (xS rfl (Fr.le_refl _)))))))))))))))))))))) ?_)
                          refine g_cond_true rfl ?_
                          refine g_seq ?_
                          refine g_region ?_
                          refine xV rfl rfl rfl (v_assign rfl) ?_
                          refine rl_nil (g_le (xK (Fr.le_refl _)) ?_)
                          refine g_ret1 Try.func8 rfl rfl ?_
                          exact ⟨rfl, hw⟩
                      · try with_reducible exact tf_elim g18_10
                        all_goals
                          try replace g18_10 := of_decide_eq_false g18_10
                          refine rl_vg (met_on rfl rfl rfl rfl) rfl rfl (S := fun _ => True) trivial (v_move rfl) ?_
                          refine rl_vg (met_on rfl rfl rfl rfl) rfl rfl (S := fun _ => True) trivial (v_neqF rfl rfl (by omega)) ?_
                          refine xV rfl rfl rfl (v_pick_false rfl rfl) ?_
                          refine xV rfl rfl rfl (v_move rfl) ?_
                          refine rl_split (s := 101) rfl (fun g18_14 => ?_) (fun g18_14 => ?_)
                          · try with_reducible exact ft_elim g18_14
                            all_goals
                              try replace g18_14 := of_decide_eq_true g18_14
                              refine rl_off (met_off rfl rfl rfl rfl rfl) rfl rfl ?_
                              refine rl_off (met_off rfl rfl rfl rfl rfl) rfl rfl ?_
                              first | (refine xV rfl rfl rfl (v_pick_true rfl rfl) ?_) | (refine xV rfl rfl rfl (v_pick_false rfl rfl) ?_) | (refine xV rfl rfl rfl (v_pick rfl rfl rfl) ?_)
                              refine rl_nil (g_le (xK (xS rfl (xS rfl (xS rfl (xS rfl (xS rfl (xS rfl (xS rfl (xS rfl (xS rfl (xS rfl (xS rfl (xS rfl (xS rfl (xS rfl (xS rfl (xS rfl (xS rfl (xS rfl (xS rfl (xS rfl (xS rfl (Fr.le_refl _))))))))))))))))))))))) ?_)
                              refine g_cond_true rfl ?_
                              refine g_seq ?_
                              refine g_region ?_
                              refine xV rfl rfl rfl (v_assign rfl) ?_
                              refine rl_nil (g_le (xK (Fr.le_refl _)) ?_)
                              refine g_ret1 Try.func8 rfl rfl ?_
                              exact ⟨rfl, hw⟩
                          · try with_reducible exact tf_elim g18_14
                            all_goals
                              try replace g18_14 := of_decide_eq_false g18_14
                              refine rl_vg (met_on rfl rfl rfl rfl) rfl rfl (S := fun _ => True) trivial (v_move rfl) ?_
                              refine rl_vg (met_on rfl rfl rfl rfl) rfl rfl (S := fun _ => True) trivial (v_not rfl) ?_
                              refine xV rfl rfl rfl (v_pick_false rfl rfl) ?_
                              refine rl_nil (g_le (xK (xS rfl (xS rfl (xS rfl (xS rfl (xS rfl (xS rfl (xS rfl (xS rfl (xS rfl (xS rfl (xS rfl (xS rfl (xS rfl (xS rfl (xS rfl (xS rfl (xS rfl (xS rfl (xS rfl (xS rfl (xS rfl (Fr.le_refl _))))))))))))))))))))))) ?_)
                              refine g_cond rfl (fun h5 => ?_) (fun h5 => ?_)
                              · try with_reducible exact ft_elim h5
                                all_goals
                                  try replace h5 := of_decide_eq_true h5
                                  simp at h5
                              · try with_reducible exact tf_elim h5
                                all_goals
                                  try replace h5 := of_decide_eq_false h5
                                  refine g_skip (g_seq ?_)
                                  refine g_cutc (σ := Hp × Value) (fun C x => (18, x.2) :: C) [(4, _), (5, _), (6, _), (8, _), (11, _), (13, _), (15, _)] (by repeat (first | exact Fr.le_nil _ | refine Fr.le_cons rfl ?_)) (fun z w => g7.le z.1 ∧ (rdSl 72 5 rdOp7) z.1 [z.2] (l ++ [o]) ∧ Sat (envOf W) w (A7 :: pt b11 (.cells root4.cells.toArray 25 (0, 0)) :: pt b13 (.cells root6.cells.toArray 25 (0, 0)) :: pt bk17_10 (.cells root7.cells.toArray 25 (0, 0)) :: pt bk4_6 (.cells root.cells.toArray 25 (0, 0)) :: RO z.1 :: [])) ?_ ?_
                                  · skip
                                    rintro ⟨g8, wv⟩ w ⟨hg8, hl8, hw⟩
                                    dsimp only at hg8 hl8 hw ⊢
                                    obtain ⟨wa, wn, wc, rfl⟩ := rdSl_shape hl8
                                    have h78 := hst7.tree.low (by have := ents_le hm7 (n := 40) (by omega); omega)
                                    have hl70 := mono_sl mono_Op7 hg8 hl7
                                    all_goals
                                      refine g_seq ?_
                                      refine g_region ?_
                                      refine xV rfl rfl rfl (v_move rfl) ?_
                                      refine rl_v rfl rfl rfl (by exact sat_cells hw (by (repeat first | with_reducible exact xH | apply xT); first | done | fail) ⟨rfl, rfl, rfl, rfl, trivial⟩) (v_loadAgg (vs := [_, _, _, _]) T.agg_25_4 rfl rfl) ?_
                                      refine xV rfl rfl rfl (v_move rfl) ?_
                                      refine rl_k rfl (k_callf Try.func25 rfl rfl rfl rfl ?_)
                                      refine Calls.mono (shows_calls hl8 hm4 t4 (by omega) hok4 (HeapI.mono hg8 hI7) (hw.xQ)) ?_
                                      rintro _ w ⟨g9, A9, hg9, hI9, rfl, hw⟩
                                      refine ⟨_, rfl, ?_⟩
                                      refine xV rfl rfl rfl (v_move rfl) ?_
                                      refine rl_vg (met_on rfl rfl rfl rfl) rfl rfl (S := fun _ => True) trivial (v_move rfl) ?_
                                      refine rl_vg (met_on rfl rfl rfl rfl) rfl rfl (by exact sat_cells hw (by (repeat first | with_reducible exact xH | apply xT); first | done | fail) ⟨rfl, rfl, rfl, rfl, trivial⟩) (v_loadAgg (vs := [_, _, _, _]) T.agg_25_4 rfl rfl) ?_
                                      refine rl_vg (met_on rfl rfl rfl rfl) rfl rfl (S := fun _ => True) trivial (v_move rfl) ?_
                                      refine rl_kg (met_on rfl rfl rfl rfl) (k_callf Try.func25 rfl rfl rfl rfl ?_); refine Calls.mono (shows_calls (mono_sl mono_Op7 hg9 hl8) hm6 t6 (by omega) hok6 hI9 (hw.xQ)) ?_; rintro _ w ⟨g10, A10, hg10, hI10, rfl, hw⟩; refine ⟨_, rfl, ?_⟩
                                      refine xV rfl rfl rfl (v_pick_true rfl rfl) ?_
                                      refine xV rfl rfl rfl (v_move rfl) ?_
                                      refine rl_vg (met_on rfl rfl rfl rfl) rfl rfl (S := fun _ => True) trivial (v_move rfl) ?_
                                      refine rl_vg (met_on rfl rfl rfl rfl) rfl rfl (by exact sat_cells hw (by (repeat first | with_reducible exact xH | apply xT); first | done | fail) ⟨rfl, rfl, rfl, rfl, trivial⟩) (v_loadAgg (vs := [_, _, _, _]) T.agg_25_4 rfl rfl) ?_
                                      refine rl_vg (met_on rfl rfl rfl rfl) rfl rfl (S := fun _ => True) trivial (v_move rfl) ?_
                                      refine rl_kg (met_on rfl rfl rfl rfl) (k_callf Try.func25 rfl rfl rfl rfl ?_); refine Calls.mono (shows_calls (mono_sl mono_Op7 (hg9.trans hg10) hl70) hm7 hst7.tree (by omega) hok7 hI10 (hw.xQ)) ?_; rintro _ w ⟨g11, A11, hg11, hI11, rfl, hw⟩; refine ⟨_, rfl, ?_⟩
                                      refine xV rfl rfl rfl (v_pick_true rfl rfl) ?_
                                      refine xV rfl rfl rfl (v_move rfl) ?_
                                      refine rl_vg (met_on rfl rfl rfl rfl) rfl rfl (S := fun _ => True) trivial (v_move rfl) ?_
                                      refine rl_vg (met_on rfl rfl rfl rfl) rfl rfl (by exact sat_cells hw (by (repeat first | with_reducible exact xH | apply xT); first | done | fail) ⟨rfl, rfl, rfl, rfl, trivial⟩) (v_loadAgg (vs := [_, _, _, _]) T.agg_25_4 rfl rfl) ?_
                                      refine rl_vg (met_on rfl rfl rfl rfl) rfl rfl (S := fun _ => True) trivial (v_move rfl) ?_
                                      refine rl_kg (met_on rfl rfl rfl rfl) (k_callf Try.func25 rfl rfl rfl rfl ?_); refine Calls.mono (shows_calls (mono_sl mono_Op7 (hg9.trans (hg10.trans hg11)) hl70) hmp t0 (by omega) hrk hI11 (hw.xQ)) ?_; rintro _ w ⟨g12, A12, hg12, hI12, rfl, hw⟩; refine ⟨_, rfl, ?_⟩
                                      refine xV rfl rfl rfl (v_pick_true rfl rfl) ?_
                                      refine xV rfl rfl rfl (v_assign rfl) ?_
                                      refine rl_nil (g_le (xK (xS rfl (xS rfl (xS rfl (xS rfl (xS rfl (xS rfl (xS rfl (xS rfl (xS rfl (xS rfl (xS rfl (xS rfl (xS rfl (xS rfl (xS rfl (xS rfl (xS rfl (xS rfl (xS rfl (xS rfl (xS rfl (xS rfl (Fr.le_refl _)))))))))))))))))))))))) ?_)
                                      refine g_ret1 Try.func8 rfl rfl ?_
                                      exact ⟨rfl, (hw.xQ : Sat (envOf W) w [RO g12]).shrink (hg.trans (hgg7.trans (hg8.trans (hg9.trans (hg10.trans (hg11.trans hg12))))))⟩
                                  · intro joins20
                                    refine g_drawR ord_f8_r20_H07U (by kernel_rfl) T.mixed hw (fun w hw => ?_)
                                    refine rs_a 1 rfl rfl rfl rfl (v_move rfl) ?_
                                    refine rs_v 3 rfl rfl rfl rfl (OpV.mono (v_loadAgg (vs := [_, _, _, _, _]) T.agg_46_5 rfl rfl) (fun w hw => by exact sat_cells hw (by (repeat first | with_reducible exact xH | apply xT); first | done | fail) ⟨rfl, rfl, rfl, rfl, rfl, trivial⟩)) (by exact hw) ?_
                                    refine rs_b2 0 4 rfl rfl rfl rfl ?_ ?_ 
                                    · skip
                                      refine (k_buildSlice0 hw T.sl_41_46_5 T.zero_46 rfl (fun bk20_0 w hw => ?_))
                                      refine ⟨fun _ => (by exact Sat.sub hw (by (repeat (first | with_reducible exact Sub.refl _ | exact Sub.nil _ | (apply Sub.cons; focus ((repeat (first | with_reducible exact Pick.here _ | apply Pick.there)); (first | done | fail))) | with_reducible apply Sub.drop)); first | done | fail)), ?_⟩
                                      have hw := hw.own_void 46 5 (some ⟨bk20_0, 0, none⟩)
                                      refine rs_b2 2 4 rfl rfl rfl rfl ?_ ?_ 
                                      · skip
                                        refine (k_appendS hw T.sl_41_46_5 T.zero_46 T.bytes_46_72 rfl (by decide) rfl rfl (by (repeat first | with_reducible exact xH | apply xT); first | done | fail) (by assumption) (by exact ro_src hw (by (repeat first | with_reducible exact xH | apply xT); first | done | fail) (by assumption) (by assumption)) (by assumption) (by omega) (by simp only [maxLen] at *; omega) rfl (fun vv20_2 w hw hnil => ?_))
                                        refine ⟨fun _ => (by exact Sat.sub hw (by (repeat (first | with_reducible exact Sub.refl _ | exact Sub.nil _ | (apply Sub.cons; focus ((repeat (first | with_reducible exact Pick.here _ | apply Pick.there)); (first | done | fail))) | with_reducible apply Sub.drop)); first | done | fail)), ?_⟩
                                        refine rs_k 4 rfl rfl (k_buildSlice (cells := [_, _, _, _, _]) hw T.sl_41_46_5 T.zero_46 rfl rfl rfl rfl rfl rfl (fun bk20_4 w hw => ?_))
                                        refine ⟨fun hn => absurd (by decide) hn, ?_⟩
                                        refine rs_k 5 rfl rfl (k_append (news := [_, _, _, _, _]) hw T.sl_41_46_5 T.zero_46 T.bytes_46_72 rfl (by decide) rfl rfl (by (repeat first | with_reducible exact xH | apply xT); first | done | fail) rfl (by exact sat_cells hw (by (repeat first | with_reducible exact xH | apply xT); first | done | fail) ⟨rfl, rfl, rfl, rfl, rfl, trivial⟩) (by simp [Value.oneCell']) (by omega) (by simp only [maxLen]; omega) rfl (fun vv20_5 w hw hnil => ?_))
                                        refine ⟨fun hn => absurd (by decide) hn, ?_⟩
                                        refine rs_kv 6 rfl rfl rfl rfl (S' := fun _ => True) trivial (v_assign rfl) ?_
                                        refine rs_done (g_le (xK (xS rfl (xS rfl (xS rfl (xS rfl (xS rfl (xS rfl (Fr.le_refl _)))))))) ?_)
                                        obtain ⟨g8, hg8, hl8, hw⟩ := (hw.xQ : Sat (envOf W) w (RO g7 :: OwnSl 46 5 vv20_5 (0 + l.length + 1) ([] ++ lcells7 ++ [.int .i64 o.do_, .string o.name, .string o.value, .slice oa on oc, .int .i64 o.back]) :: A7 :: pt b11 (.cells root4.cells.toArray 25 (0, 0)) :: pt b13 (.cells root6.cells.toArray 25 (0, 0)) :: pt bk17_10 (.cells root7.cells.toArray 25 (0, 0)) :: pt bk4_6 (.cells root.cells.toArray 25 (0, 0)) :: [])).freeze_sl (bytes := 72) (xs := l ++ [o]) mono_Op7 (by rw [List.nil_append]; exact hlels7.append (Els.one rfl (mono_Op7 (hg.trans hgg7) hro))) (by simp) (by simp only [List.length_append, List.length_singleton, reachBytes]; omega)
                                        exact joins20 (g8, vv20_5) w _ (by repeat (first | exact Fr.le_nil _ | refine Fr.le_cons rfl ?_)) ⟨hg8, hl8, hw.xQ⟩
                                      · skip
                                        refine (k_buildSlice (cells := [_, _, _, _, _]) hw T.sl_41_46_5 T.zero_46 rfl rfl rfl rfl rfl rfl (fun bk20_4 w hw => ?_))
                                        refine ⟨fun hn => absurd (by decide) hn, ?_⟩
                                        refine rs_k 2 rfl rfl (k_appendS hw T.sl_41_46_5 T.zero_46 T.bytes_46_72 rfl (by decide) rfl rfl (by (repeat first | with_reducible exact xH | apply xT); first | done | fail) (by assumption) (by exact ro_src hw (by (repeat first | with_reducible exact xH | apply xT); first | done | fail) (by assumption) (by assumption)) (by assumption) (by omega) (by simp only [maxLen] at *; omega) rfl (fun vv20_2 w hw hnil => ?_))
                                        refine ⟨fun _ => (by exact Sat.sub hw (by (repeat (first | with_reducible exact Sub.refl _ | exact Sub.nil _ | (apply Sub.cons; focus ((repeat (first | with_reducible exact Pick.here _ | apply Pick.there)); (first | done | fail))) | with_reducible apply Sub.drop)); first | done | fail)), ?_⟩
                                        refine rs_k 5 rfl rfl (k_append (news := [_, _, _, _, _]) hw T.sl_41_46_5 T.zero_46 T.bytes_46_72 rfl (by decide) rfl rfl (by (repeat first | with_reducible exact xH | apply xT); first | done | fail) rfl (by exact sat_cells hw (by (repeat first | with_reducible exact xH | apply xT); first | done | fail) ⟨rfl, rfl, rfl, rfl, rfl, trivial⟩) (by simp [Value.oneCell']) (by omega) (by simp only [maxLen]; omega) rfl (fun vv20_5 w hw hnil => ?_))
                                        refine ⟨fun hn => absurd (by decide) hn, ?_⟩
                                        refine rs_kv 6 rfl rfl rfl rfl (S' := fun _ => True) trivial (v_assign rfl) ?_
                                        refine rs_done (g_le (xK (xS rfl (xS rfl (xS rfl (xS rfl (xS rfl (xS rfl (Fr.le_refl _)))))))) ?_)
                                        obtain ⟨g8, hg8, hl8, hw⟩ := (hw.xQ : Sat (envOf W) w (RO g7 :: OwnSl 46 5 vv20_5 (0 + l.length + 1) ([] ++ lcells7 ++ [.int .i64 o.do_, .string o.name, .string o.value, .slice oa on oc, .int .i64 o.back]) :: A7 :: pt b11 (.cells root4.cells.toArray 25 (0, 0)) :: pt b13 (.cells root6.cells.toArray 25 (0, 0)) :: pt bk17_10 (.cells root7.cells.toArray 25 (0, 0)) :: pt bk4_6 (.cells root.cells.toArray 25 (0, 0)) :: [])).freeze_sl (bytes := 72) (xs := l ++ [o]) mono_Op7 (by rw [List.nil_append]; exact hlels7.append (Els.one rfl (mono_Op7 (hg.trans hgg7) hro))) (by simp) (by simp only [List.length_append, List.length_singleton, reachBytes]; omega)
                                        exact joins20 (g8, vv20_5) w _ (by repeat (first | exact Fr.le_nil _ | refine Fr.le_cons rfl ?_)) ⟨hg8, hl8, hw.xQ⟩
                                    · skip
                                      refine (k_buildSlice (cells := [_, _, _, _, _]) hw T.sl_41_46_5 T.zero_46 rfl rfl rfl rfl rfl rfl (fun bk20_4 w hw => ?_))
                                      refine ⟨fun hn => absurd (by decide) hn, ?_⟩
                                      refine rs_k 0 rfl rfl (k_buildSlice0 hw T.sl_41_46_5 T.zero_46 rfl (fun bk20_0 w hw => ?_))
                                      refine ⟨fun _ => (by exact Sat.sub hw (by (repeat (first | with_reducible exact Sub.refl _ | exact Sub.nil _ | (apply Sub.cons; focus ((repeat (first | with_reducible exact Pick.here _ | apply Pick.there)); (first | done | fail))) | with_reducible apply Sub.drop)); first | done | fail)), ?_⟩
                                      have hw := hw.own_void 46 5 (some ⟨bk20_0, 0, none⟩)
                                      refine rs_k 2 rfl rfl (k_appendS hw T.sl_41_46_5 T.zero_46 T.bytes_46_72 rfl (by decide) rfl rfl (by (repeat first | with_reducible exact xH | apply xT); first | done | fail) (by assumption) (by exact ro_src hw (by (repeat first | with_reducible exact xH | apply xT); first | done | fail) (by assumption) (by assumption)) (by assumption) (by omega) (by simp only [maxLen] at *; omega) rfl (fun vv20_2 w hw hnil => ?_))
                                      refine ⟨fun _ => (by exact Sat.sub hw (by (repeat (first | with_reducible exact Sub.refl _ | exact Sub.nil _ | (apply Sub.cons; focus ((repeat (first | with_reducible exact Pick.here _ | apply Pick.there)); (first | done | fail))) | with_reducible apply Sub.drop)); first | done | fail)), ?_⟩
                                      refine rs_k 5 rfl rfl (k_append (news := [_, _, _, _, _]) hw T.sl_41_46_5 T.zero_46 T.bytes_46_72 rfl (by decide) rfl rfl (by (repeat first | with_reducible exact xH | apply xT); first | done | fail) rfl (by exact sat_cells hw (by (repeat first | with_reducible exact xH | apply xT); first | done | fail) ⟨rfl, rfl, rfl, rfl, rfl, trivial⟩) (by simp [Value.oneCell']) (by omega) (by simp only [maxLen]; omega) rfl (fun vv20_5 w hw hnil => ?_))
                                      refine ⟨fun hn => absurd (by decide) hn, ?_⟩
                                      refine rs_kv 6 rfl rfl rfl rfl (S' := fun _ => True) trivial (v_assign rfl) ?_
                                      refine rs_done (g_le (xK (xS rfl (xS rfl (xS rfl (xS rfl (xS rfl (xS rfl (Fr.le_refl _)))))))) ?_)
                                      obtain ⟨g8, hg8, hl8, hw⟩ := (hw.xQ : Sat (envOf W) w (RO g7 :: OwnSl 46 5 vv20_5 (0 + l.length + 1) ([] ++ lcells7 ++ [.int .i64 o.do_, .string o.name, .string o.value, .slice oa on oc, .int .i64 o.back]) :: A7 :: pt b11 (.cells root4.cells.toArray 25 (0, 0)) :: pt b13 (.cells root6.cells.toArray 25 (0, 0)) :: pt bk17_10 (.cells root7.cells.toArray 25 (0, 0)) :: pt bk4_6 (.cells root.cells.toArray 25 (0, 0)) :: [])).freeze_sl (bytes := 72) (xs := l ++ [o]) mono_Op7 (by rw [List.nil_append]; exact hlels7.append (Els.one rfl (mono_Op7 (hg.trans hgg7) hro))) (by simp) (by simp only [List.length_append, List.length_singleton, reachBytes]; omega)
                                      exact joins20 (g8, vv20_5) w _ (by repeat (first | exact Fr.le_nil _ | refine Fr.le_cons rfl ?_)) ⟨hg8, hl8, hw.xQ⟩
          · intro joins16
            have hw := (hw.xP (A := RO g4)).xP (A := A4)
            refine g_drawB ord_f8_r16_H07U (by kernel_rfl) T.mixed (fun w hw => ((hw.pick .at0).drop.pick .at0).drop) hw (fun w hw => ?_)
            refine rs_a 0 rfl rfl rfl rfl (v_move rfl) ?_
            refine rs_a 1 rfl rfl rfl rfl (v_mkIface T.ptr_26 rfl) ?_
            refine rs_v 2 rfl rfl rfl rfl (OpV.mono (v_loadAgg (vs := [_, _, _, _]) T.agg_25_4 rfl rfl) (fun w hw => by exact sat_cells hw (by (repeat first | with_reducible exact xH | apply xT); first | done | fail) ⟨rfl, rfl, rfl, rfl, trivial⟩)) (by exact Sat.sub hw (by (repeat (first | with_reducible exact Sub.refl _ | exact Sub.nil _ | (apply Sub.cons; focus ((repeat (first | with_reducible exact Pick.here _ | apply Pick.there)); (first | done | fail))) | with_reducible apply Sub.drop)); first | done | fail)) ?_
            refine rs_v 3 rfl rfl rfl rfl (OpV.mono (v_loadAgg (vs := [_, _, _, _, _]) T.agg_46_5 rfl rfl) (fun w hw => by exact sat_cells hw (by (repeat first | with_reducible exact xH | apply xT); first | done | fail) ⟨rfl, rfl, rfl, rfl, rfl, trivial⟩)) (by exact Sat.sub hw (by (repeat (first | with_reducible exact Sub.refl _ | exact Sub.nil _ | (apply Sub.cons; focus ((repeat (first | with_reducible exact Pick.here _ | apply Pick.there)); (first | done | fail))) | with_reducible apply Sub.drop)); first | done | fail)) ?_
            refine rs_b2 4 9 rfl rfl rfl rfl ?_ ?_ 
            · skip
              refine (k_callf Try.func19 rfl rfl rfl rfl ?_)
              refine Calls.mono (secret_calls (hw.xQ) rfl) ?_
              rintro _ w ⟨vb2, rfl, hw⟩
              refine ⟨_, rfl, ?_⟩
              refine ⟨fun _ => (by exact Sat.sub hw (by (repeat (first | with_reducible exact Sub.refl _ | exact Sub.nil _ | (apply Sub.cons; focus ((repeat (first | with_reducible exact Pick.here _ | apply Pick.there)); (first | done | fail))) | with_reducible apply Sub.drop)); first | done | fail)), ?_⟩
              refine rs_b2 5 9 rfl rfl rfl rfl ?_ ?_ 
              · skip
                refine (k_callf Try.func20 rfl rfl rfl rfl ?_)
                obtain ⟨g5, hg5, hvn5, hw⟩ := ((hw.xP (A := pt vb2 (.cells (⟨1, o.value, ByteArray.empty⟩ : Vn).cells.toArray 53 (0, 0)))).xP (A := RO g4)).freeze_lit (R := rdVn) (sz := 3) (bytes := 40) mono_Vn (xs := [⟨1, o.value, ByteArray.empty⟩]) (Els.one rfl ⟨rfl, sec_ok ovs⟩) rfl (by simp [maxLen]) (by simp [reachBytes])
                have hen5 : rdEn g5 [.string o.name, .slice (some ⟨vb2, 0, none⟩) 1 1] (secO o) := ⟨_, _, rfl, ⟨rfl, ons⟩, hvn5⟩
                refine Calls.mono (tput_calls hen5 ht4 (by omega) (by omega) hok4 (HeapI.mono hg5 hI4) (hw.xQ)) ?_
                rintro _ w ⟨g6, A6, s6, root6, q6, u6, hg6, hI6, rfl, hok6, hst6, _, h76, hw⟩
                refine ⟨_, rfl, ?_⟩
                refine ⟨fun hn => absurd (by decide) hn, ?_⟩
                refine rs_a 6 rfl rfl rfl rfl (v_move rfl) ?_
                refine rs_a 7 rfl rfl rfl rfl (v_extract rfl rfl) ?_
                refine rs_a 8 rfl rfl rfl rfl (v_extract rfl rfl) ?_
                refine rs_k 9 rfl rfl (k_alloc hw T.zero_25 rfl rfl (fun bk16_9 w hw => ?_))
                refine ⟨fun _ => (by exact Sat.sub hw (by (repeat (first | with_reducible exact Sub.refl _ | exact Sub.nil _ | (apply Sub.cons; focus ((repeat (first | with_reducible exact Pick.here _ | apply Pick.there)); (first | done | fail))) | with_reducible apply Sub.drop)); first | done | fail)), ?_⟩
                refine rs_k 10 rfl rfl (k_storeWhole hw T.agg_25_4 rfl rfl (by simp [Value.oneCell']) rfl (by (repeat first | with_reducible exact xH | apply xT); first | done | fail) rfl (fun w hw => ?_))
                refine ⟨fun hn => absurd (by decide) hn, ?_⟩
                refine rs_kv 11 rfl rfl rfl rfl (S' := fun _ => True) trivial (v_assign rfl) ?_
                refine rs_done (g_le (xK (xK (xS rfl (xS rfl (xS rfl (xS rfl (xS rfl (xS rfl (xS rfl (xS rfl (xS rfl (Fr.le_refl _)))))))))))) ?_)
                have hst61 := hst6.len
                exact joins16 (g6, s6, A6, root6, bk16_9) w _ (by repeat (first | exact Fr.le_nil _ | refine Fr.le_cons rfl ?_)) ⟨hg5.trans hg6, hI6, hok6, hst6.ext, by simp only; omega, ⟨q6, u6, hst6.tree, by rw [hst6.ents]; have := hm4.ins o; rwa [without_snoc_same hno] at this⟩, hw.xQ⟩
              · skip
                refine (k_alloc hw T.zero_25 rfl rfl (fun bk16_9 w hw => ?_))
                refine ⟨fun _ => (by exact Sat.sub hw (by (repeat (first | with_reducible exact Sub.refl _ | exact Sub.nil _ | (apply Sub.cons; focus ((repeat (first | with_reducible exact Pick.here _ | apply Pick.there)); (first | done | fail))) | with_reducible apply Sub.drop)); first | done | fail)), ?_⟩
                refine rs_k 5 rfl rfl (k_callf Try.func20 rfl rfl rfl rfl ?_)
                obtain ⟨g5, hg5, hvn5, hw⟩ := ((hw.xP (A := pt vb2 (.cells (⟨1, o.value, ByteArray.empty⟩ : Vn).cells.toArray 53 (0, 0)))).xP (A := RO g4)).freeze_lit (R := rdVn) (sz := 3) (bytes := 40) mono_Vn (xs := [⟨1, o.value, ByteArray.empty⟩]) (Els.one rfl ⟨rfl, sec_ok ovs⟩) rfl (by simp [maxLen]) (by simp [reachBytes])
                have hen5 : rdEn g5 [.string o.name, .slice (some ⟨vb2, 0, none⟩) 1 1] (secO o) := ⟨_, _, rfl, ⟨rfl, ons⟩, hvn5⟩
                refine Calls.mono (tput_calls hen5 ht4 (by omega) (by omega) hok4 (HeapI.mono hg5 hI4) (hw.xQ)) ?_
                rintro _ w ⟨g6, A6, s6, root6, q6, u6, hg6, hI6, rfl, hok6, hst6, _, h76, hw⟩
                refine ⟨_, rfl, ?_⟩
                refine ⟨fun hn => absurd (by decide) hn, ?_⟩
                refine rs_kv 6 rfl rfl rfl rfl (S' := fun _ => True) trivial (v_move rfl) ?_
                refine rs_a 7 rfl rfl rfl rfl (v_extract rfl rfl) ?_
                refine rs_a 8 rfl rfl rfl rfl (v_extract rfl rfl) ?_
                refine rs_k 10 rfl rfl (k_storeWhole hw T.agg_25_4 rfl rfl (by simp [Value.oneCell']) rfl (by (repeat first | with_reducible exact xH | apply xT); first | done | fail) rfl (fun w hw => ?_))
                refine ⟨fun hn => absurd (by decide) hn, ?_⟩
                refine rs_kv 11 rfl rfl rfl rfl (S' := fun _ => True) trivial (v_assign rfl) ?_
                refine rs_done (g_le (xK (xS rfl (xS rfl (xS rfl (xS rfl (xK (xS rfl (xS rfl (xS rfl (xS rfl (xS rfl (Fr.le_refl _)))))))))))) ?_)
                have hst61 := hst6.len
                exact joins16 (g6, s6, A6, root6, bk16_9) w _ (by repeat (first | exact Fr.le_nil _ | refine Fr.le_cons rfl ?_)) ⟨hg5.trans hg6, hI6, hok6, hst6.ext, by simp only; omega, ⟨q6, u6, hst6.tree, by rw [hst6.ents]; have := hm4.ins o; rwa [without_snoc_same hno] at this⟩, hw.xQ⟩
            · skip
              refine (k_alloc hw T.zero_25 rfl rfl (fun bk16_9 w hw => ?_))
              refine ⟨fun _ => (by exact Sat.sub hw (by (repeat (first | with_reducible exact Sub.refl _ | exact Sub.nil _ | (apply Sub.cons; focus ((repeat (first | with_reducible exact Pick.here _ | apply Pick.there)); (first | done | fail))) | with_reducible apply Sub.drop)); first | done | fail)), ?_⟩
              refine rs_k 4 rfl rfl (k_callf Try.func19 rfl rfl rfl rfl ?_)
              refine Calls.mono (secret_calls (hw.xQ) rfl) ?_
              rintro _ w ⟨vb2, rfl, hw⟩
              refine ⟨_, rfl, ?_⟩
              refine ⟨fun _ => (by exact Sat.sub hw (by (repeat (first | with_reducible exact Sub.refl _ | exact Sub.nil _ | (apply Sub.cons; focus ((repeat (first | with_reducible exact Pick.here _ | apply Pick.there)); (first | done | fail))) | with_reducible apply Sub.drop)); first | done | fail)), ?_⟩
              refine rs_k 5 rfl rfl (k_callf Try.func20 rfl rfl rfl rfl ?_)
              obtain ⟨g5, hg5, hvn5, hw⟩ := ((hw.xP (A := pt vb2 (.cells (⟨1, o.value, ByteArray.empty⟩ : Vn).cells.toArray 53 (0, 0)))).xP (A := RO g4)).freeze_lit (R := rdVn) (sz := 3) (bytes := 40) mono_Vn (xs := [⟨1, o.value, ByteArray.empty⟩]) (Els.one rfl ⟨rfl, sec_ok ovs⟩) rfl (by simp [maxLen]) (by simp [reachBytes])
              have hen5 : rdEn g5 [.string o.name, .slice (some ⟨vb2, 0, none⟩) 1 1] (secO o) := ⟨_, _, rfl, ⟨rfl, ons⟩, hvn5⟩
              refine Calls.mono (tput_calls hen5 ht4 (by omega) (by omega) hok4 (HeapI.mono hg5 hI4) (hw.xQ)) ?_
              rintro _ w ⟨g6, A6, s6, root6, q6, u6, hg6, hI6, rfl, hok6, hst6, _, h76, hw⟩
              refine ⟨_, rfl, ?_⟩
              refine ⟨fun hn => absurd (by decide) hn, ?_⟩
              refine rs_kv 6 rfl rfl rfl rfl (S' := fun _ => True) trivial (v_move rfl) ?_
              refine rs_a 7 rfl rfl rfl rfl (v_extract rfl rfl) ?_
              refine rs_a 8 rfl rfl rfl rfl (v_extract rfl rfl) ?_
              refine rs_k 10 rfl rfl (k_storeWhole hw T.agg_25_4 rfl rfl (by simp [Value.oneCell']) rfl (by (repeat first | with_reducible exact xH | apply xT); first | done | fail) rfl (fun w hw => ?_))
              refine ⟨fun hn => absurd (by decide) hn, ?_⟩
              refine rs_kv 11 rfl rfl rfl rfl (S' := fun _ => True) trivial (v_assign rfl) ?_
              refine rs_done (g_le (xK (xS rfl (xS rfl (xS rfl (xS rfl (xS rfl (xK (xS rfl (xS rfl (xS rfl (xS rfl (Fr.le_refl _)))))))))))) ?_)
              have hst61 := hst6.len
              exact joins16 (g6, s6, A6, root6, bk16_9) w _ (by repeat (first | exact Fr.le_nil _ | refine Fr.le_cons rfl ?_)) ⟨hg5.trans hg6, hI6, hok6, hst6.ext, by simp only; omega, ⟨q6, u6, hst6.tree, by rw [hst6.ents]; have := hm4.ins o; rwa [without_snoc_same hno] at this⟩, hw.xQ⟩
      · intro joins15
        have hw := (hw.xP (A := RO g)).xP (A := A)
        refine g_drawB ord_f8_r15_H07U (by kernel_rfl) T.mixed (fun w hw => ((hw.pick .at0).drop.pick .at0).drop) hw (fun w hw => ?_)
        refine rs_a 0 rfl rfl rfl rfl (v_move rfl) ?_
        refine rs_a 1 rfl rfl rfl rfl (v_mkIface T.ptr_26 rfl) ?_
        refine rs_v 2 rfl rfl rfl rfl (OpV.mono (v_loadAgg (vs := [_, _, _, _]) T.agg_25_4 rfl rfl) (fun w hw => by exact sat_cells hw (by (repeat first | with_reducible exact xH | apply xT); first | done | fail) ⟨rfl, rfl, rfl, rfl, trivial⟩)) (by exact Sat.sub hw (by (repeat (first | with_reducible exact Sub.refl _ | exact Sub.nil _ | (apply Sub.cons; focus ((repeat (first | with_reducible exact Pick.here _ | apply Pick.there)); (first | done | fail))) | with_reducible apply Sub.drop)); first | done | fail)) ?_
        refine rs_v 3 rfl rfl rfl rfl (OpV.mono (v_loadAgg (vs := [_, _, _, _, _]) T.agg_46_5 rfl rfl) (fun w hw => by exact sat_cells hw (by (repeat first | with_reducible exact xH | apply xT); first | done | fail) ⟨rfl, rfl, rfl, rfl, rfl, trivial⟩)) (by exact Sat.sub hw (by (repeat (first | with_reducible exact Sub.refl _ | exact Sub.nil _ | (apply Sub.cons; focus ((repeat (first | with_reducible exact Pick.here _ | apply Pick.there)); (first | done | fail))) | with_reducible apply Sub.drop)); first | done | fail)) ?_
        refine rs_b2 4 9 rfl rfl rfl rfl ?_ ?_ 
        · skip
          refine (k_callf Try.func19 rfl rfl rfl rfl ?_)
          refine Calls.mono (secret_calls (hw.xQ) rfl) ?_
          rintro _ w ⟨vb, rfl, hw⟩
          refine ⟨_, rfl, ?_⟩
          refine ⟨fun _ => (by exact Sat.sub hw (by (repeat (first | with_reducible exact Sub.refl _ | exact Sub.nil _ | (apply Sub.cons; focus ((repeat (first | with_reducible exact Pick.here _ | apply Pick.there)); (first | done | fail))) | with_reducible apply Sub.drop)); first | done | fail)), ?_⟩
          refine rs_b2 5 9 rfl rfl rfl rfl ?_ ?_ 
          · skip
            refine (k_callf Try.func20 rfl rfl rfl rfl ?_)
            obtain ⟨g3, hg3, hvn, hw⟩ := ((hw.xP (A := pt vb (.cells (⟨1, o.value, ByteArray.empty⟩ : Vn).cells.toArray 53 (0, 0)))).xP (A := RO g)).freeze_lit (R := rdVn) (sz := 3) (bytes := 40) mono_Vn (xs := [⟨1, o.value, ByteArray.empty⟩]) (Els.one rfl ⟨rfl, sec_ok ovs⟩) rfl (by simp [maxLen]) (by simp [reachBytes])
            have hen : rdEn g3 [.string o.name, .slice (some ⟨vb, 0, none⟩) 1 1] (secO o) := ⟨_, _, rfl, ⟨rfl, ons⟩, hvn⟩
            refine Calls.mono (tput_calls hen ht (by omega) (by omega) hrk (HeapI.mono hg3 hI) (hw.xQ)) ?_
            rintro _ w ⟨g4, A4, s4, root4, q4, u4, hg4, hI4, rfl, hok4, hst, _, h74, hw⟩
            refine ⟨_, rfl, ?_⟩
            refine ⟨fun hn => absurd (by decide) hn, ?_⟩
            refine rs_a 6 rfl rfl rfl rfl (v_move rfl) ?_
            refine rs_a 7 rfl rfl rfl rfl (v_extract rfl rfl) ?_
            refine rs_a 8 rfl rfl rfl rfl (v_extract rfl rfl) ?_
            refine rs_k 9 rfl rfl (k_alloc hw T.zero_25 rfl rfl (fun bk15_9 w hw => ?_))
            refine ⟨fun _ => (by exact Sat.sub hw (by (repeat (first | with_reducible exact Sub.refl _ | exact Sub.nil _ | (apply Sub.cons; focus ((repeat (first | with_reducible exact Pick.here _ | apply Pick.there)); (first | done | fail))) | with_reducible apply Sub.drop)); first | done | fail)), ?_⟩
            refine rs_k 10 rfl rfl (k_storeWhole hw T.agg_25_4 rfl rfl (by simp [Value.oneCell']) rfl (by (repeat first | with_reducible exact xH | apply xT); first | done | fail) rfl (fun w hw => ?_))
            refine ⟨fun hn => absurd (by decide) hn, ?_⟩
            refine rs_kv 11 rfl rfl rfl rfl (S' := fun _ => True) trivial (v_assign rfl) ?_
            refine rs_done (g_le (xK (xK (xS rfl (xS rfl (xS rfl (xS rfl (xS rfl (xS rfl (xS rfl (xS rfl (xS rfl (Fr.le_refl _)))))))))))) ?_)
            have hst1 := hst.len
            exact joins15 (g4, s4, A4, root4, bk15_9) w _ (by repeat (first | exact Fr.le_nil _ | refine Fr.le_cons rfl ?_)) ⟨hg3.trans hg4, hI4, hok4, hst.ext, by simp only; omega, ⟨q4, u4, hst.tree, by rw [hst.ents]; have := hmp.ins o; rwa [without_all hno] at this⟩, hw.xQ⟩
          · skip
            refine (k_alloc hw T.zero_25 rfl rfl (fun bk15_9 w hw => ?_))
            refine ⟨fun _ => (by exact Sat.sub hw (by (repeat (first | with_reducible exact Sub.refl _ | exact Sub.nil _ | (apply Sub.cons; focus ((repeat (first | with_reducible exact Pick.here _ | apply Pick.there)); (first | done | fail))) | with_reducible apply Sub.drop)); first | done | fail)), ?_⟩
            refine rs_k 5 rfl rfl (k_callf Try.func20 rfl rfl rfl rfl ?_)
            obtain ⟨g3, hg3, hvn, hw⟩ := ((hw.xP (A := pt vb (.cells (⟨1, o.value, ByteArray.empty⟩ : Vn).cells.toArray 53 (0, 0)))).xP (A := RO g)).freeze_lit (R := rdVn) (sz := 3) (bytes := 40) mono_Vn (xs := [⟨1, o.value, ByteArray.empty⟩]) (Els.one rfl ⟨rfl, sec_ok ovs⟩) rfl (by simp [maxLen]) (by simp [reachBytes])
            have hen : rdEn g3 [.string o.name, .slice (some ⟨vb, 0, none⟩) 1 1] (secO o) := ⟨_, _, rfl, ⟨rfl, ons⟩, hvn⟩
            refine Calls.mono (tput_calls hen ht (by omega) (by omega) hrk (HeapI.mono hg3 hI) (hw.xQ)) ?_
            rintro _ w ⟨g4, A4, s4, root4, q4, u4, hg4, hI4, rfl, hok4, hst, _, h74, hw⟩
            refine ⟨_, rfl, ?_⟩
            refine ⟨fun hn => absurd (by decide) hn, ?_⟩
            refine rs_kv 6 rfl rfl rfl rfl (S' := fun _ => True) trivial (v_move rfl) ?_
            refine rs_a 7 rfl rfl rfl rfl (v_extract rfl rfl) ?_
            refine rs_a 8 rfl rfl rfl rfl (v_extract rfl rfl) ?_
            refine rs_k 10 rfl rfl (k_storeWhole hw T.agg_25_4 rfl rfl (by simp [Value.oneCell']) rfl (by (repeat first | with_reducible exact xH | apply xT); first | done | fail) rfl (fun w hw => ?_))
            refine ⟨fun hn => absurd (by decide) hn, ?_⟩
            refine rs_kv 11 rfl rfl rfl rfl (S' := fun _ => True) trivial (v_assign rfl) ?_
            refine rs_done (g_le (xK (xS rfl (xS rfl (xS rfl (xS rfl (xK (xS rfl (xS rfl (xS rfl (xS rfl (xS rfl (Fr.le_refl _)))))))))))) ?_)
            have hst1 := hst.len
            exact joins15 (g4, s4, A4, root4, bk15_9) w _ (by repeat (first | exact Fr.le_nil _ | refine Fr.le_cons rfl ?_)) ⟨hg3.trans hg4, hI4, hok4, hst.ext, by simp only; omega, ⟨q4, u4, hst.tree, by rw [hst.ents]; have := hmp.ins o; rwa [without_all hno] at this⟩, hw.xQ⟩
        · skip
          refine (k_alloc hw T.zero_25 rfl rfl (fun bk15_9 w hw => ?_))
          refine ⟨fun _ => (by exact Sat.sub hw (by (repeat (first | with_reducible exact Sub.refl _ | exact Sub.nil _ | (apply Sub.cons; focus ((repeat (first | with_reducible exact Pick.here _ | apply Pick.there)); (first | done | fail))) | with_reducible apply Sub.drop)); first | done | fail)), ?_⟩
          refine rs_k 4 rfl rfl (k_callf Try.func19 rfl rfl rfl rfl ?_)
          refine Calls.mono (secret_calls (hw.xQ) rfl) ?_
          rintro _ w ⟨vb, rfl, hw⟩
          refine ⟨_, rfl, ?_⟩
          refine ⟨fun _ => (by exact Sat.sub hw (by (repeat (first | with_reducible exact Sub.refl _ | exact Sub.nil _ | (apply Sub.cons; focus ((repeat (first | with_reducible exact Pick.here _ | apply Pick.there)); (first | done | fail))) | with_reducible apply Sub.drop)); first | done | fail)), ?_⟩
          refine rs_k 5 rfl rfl (k_callf Try.func20 rfl rfl rfl rfl ?_)
          obtain ⟨g3, hg3, hvn, hw⟩ := ((hw.xP (A := pt vb (.cells (⟨1, o.value, ByteArray.empty⟩ : Vn).cells.toArray 53 (0, 0)))).xP (A := RO g)).freeze_lit (R := rdVn) (sz := 3) (bytes := 40) mono_Vn (xs := [⟨1, o.value, ByteArray.empty⟩]) (Els.one rfl ⟨rfl, sec_ok ovs⟩) rfl (by simp [maxLen]) (by simp [reachBytes])
          have hen : rdEn g3 [.string o.name, .slice (some ⟨vb, 0, none⟩) 1 1] (secO o) := ⟨_, _, rfl, ⟨rfl, ons⟩, hvn⟩
          refine Calls.mono (tput_calls hen ht (by omega) (by omega) hrk (HeapI.mono hg3 hI) (hw.xQ)) ?_
          rintro _ w ⟨g4, A4, s4, root4, q4, u4, hg4, hI4, rfl, hok4, hst, _, h74, hw⟩
          refine ⟨_, rfl, ?_⟩
          refine ⟨fun hn => absurd (by decide) hn, ?_⟩
          refine rs_kv 6 rfl rfl rfl rfl (S' := fun _ => True) trivial (v_move rfl) ?_
          refine rs_a 7 rfl rfl rfl rfl (v_extract rfl rfl) ?_
          refine rs_a 8 rfl rfl rfl rfl (v_extract rfl rfl) ?_
          refine rs_k 10 rfl rfl (k_storeWhole hw T.agg_25_4 rfl rfl (by simp [Value.oneCell']) rfl (by (repeat first | with_reducible exact xH | apply xT); first | done | fail) rfl (fun w hw => ?_))
          refine ⟨fun hn => absurd (by decide) hn, ?_⟩
          refine rs_kv 11 rfl rfl rfl rfl (S' := fun _ => True) trivial (v_assign rfl) ?_
          refine rs_done (g_le (xK (xS rfl (xS rfl (xS rfl (xS rfl (xS rfl (xK (xS rfl (xS rfl (xS rfl (xS rfl (Fr.le_refl _)))))))))))) ?_)
          have hst1 := hst.len
          exact joins15 (g4, s4, A4, root4, bk15_9) w _ (by repeat (first | exact Fr.le_nil _ | refine Fr.le_cons rfl ?_)) ⟨hg3.trans hg4, hI4, hok4, hst.ext, by simp only; omega, ⟨q4, u4, hst.tree, by rw [hst.ents]; have := hmp.ins o; rwa [without_all hno] at this⟩, hw.xQ⟩

set_option maxRecDepth 100000 in
theorem TreeUndo_lifted (os : Os) (started : os.Started) (H : Type) (enc : TypeId × Value → H) :
    ReturnsInHanded {} Try.checked os 8 .any (Rows.treeUndoSpec.pre6 enc Try.prog Try.f8 Rows.treeUndoRow.domain false) (Rows.treeUndoSpec.post enc Try.prog Try.f8 false true false false) := by
  refine returnsInHanded_of_change_sized (C := Try.checked) T.own started (by kernel_rfl) Try.func8
    (ChangeSpec.witness6 (enc := enc) (C := Try.checked) false ⟨#[], #[(.slice none 0 0), (.agg #[(.int .i64 0), (.string ByteArray.empty), (.string ByteArray.empty), (.slice none 0 0), (.int .i64 0)])], []⟩ 8 (by kernel_rfl) (by kernel_rfl) (by kernel_rfl) (by kernel_rfl)) ?_
  intro W base args ds gs before hval0 hW hcnd hsz0 _
  have hval : ∀ (j : Nat) t v, Try.f8.params[j]? = some t → args[j]? = some v → Value.okWide Try.prog W .any base t v := hval0
  have hW' := hW
  obtain ⟨p, q, hA0, hV, rfl, hfz, hnd⟩ := hW
  have hA : DataW.TrodAll enc Try.prog W 0 (fun _ => true) true Try.f8.params.toList args.toList ds p := hA0
  obtain ⟨rfl, rfl⟩ := trodVars_none hV
  have hsz : (DataW.weightsEach Try.prog (Try.f8.params.toList ++ []) (ds ++ [])).all (· ≤ reachBytes) = true := hsz0
  rw [List.append_nil, List.append_nil] at hsz
  rw [Try.params8] at hA hval hsz
  obtain ⟨v0, vs0, d0, ds0, p0, q0, hargs, rfl, rfl, h0, r0⟩ := trodAll_cons hA
  obtain ⟨v1, vs1, d1, ds1, p1, q1, rfl, rfl, rfl, h1, r1⟩ := trodAll_cons r0
  obtain ⟨rfl, rfl, rfl⟩ := trodAll_nil r1
  obtain rfl : args = #[v0, v1] := by cases args; simp_all
  have lt0 : ∀ x ∈ p0, x.block < W.heap.size := by obtain ⟨m, hm⟩ := h0; exact DataW.trod_lt m _ _ _ hm
  obtain ⟨x0, w0⟩ := arg_of (j := 0) (reads_sl T.sl_41_46_5 T.bytes_46_72 (by decide) reads_Op7) h0 hsz rfl rfl
  have lt1 : ∀ x ∈ p1, x.block < W.heap.size := by obtain ⟨m, hm⟩ := h1; exact DataW.trod_lt m _ _ _ hm
  obtain ⟨x1, w1⟩ := arg_of (j := 1) reads_Op7 h1 hsz rfl rfl
  obtain ⟨a0, l0, c0, rfl⟩ := okWide_slice Try.underlying41 (hval 0 41 v0 rfl rfl)
  obtain ⟨cs1, rfl⟩ := okWide_agg T.agg_46_5 (hval 1 46 v1 rfl rfl)
  refine (TreeUndo_law w0 w1).mono fun e W' ⟨he, hb⟩ => ?_
  have bel := hb.below
  subst he
  exact ⟨_, rfl, _, _, _, [], _, [], hW', trodAll_mk1 (shut_bool Try.underlying4 _), (trodAll_cons_mk (Below.trod T.laidOut (by kernel_rfl) (of_decide_eq_true (by kernel_rfl)) h0 bel lt0) (trodAll_cons_mk (Below.trod T.laidOut (by kernel_rfl) (of_decide_eq_true (by kernel_rfl)) h1 bel lt1) trodAll_mk0)), rfl, bel.frame _, fun h => by cases h⟩
theorem TreeUndo_holds : Rows.TreeUndoSaid :=
  OpenClaim.holds_of_wide 8 Try.f8 rfl rfl rfl rfl rfl rfl rfl ⟨rfl, rfl, rfl, rfl, rfl⟩ rfl rfl rfl rfl rfl (by kernel_rfl) Try.func8 (by kernel_rfl)
    (of_decide_eq_true (by kernel_rfl)) (by unfold Func.isWrapper; rw [if_neg (of_decide_eq_false (by kernel_rfl))]; exact ⟨rfl, rfl⟩)
    (fun os started H enc _ => TreeUndo_lifted os started H enc)
#print axioms TreeUndo_holds
end Go.Proofs.Ytmbngahboaljpaa
