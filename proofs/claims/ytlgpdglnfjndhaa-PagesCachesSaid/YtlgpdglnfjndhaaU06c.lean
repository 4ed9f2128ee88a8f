/-
  A tree's pages as terms (layer 6): a node's term, its sealed bytes.
-/
import Derived.Test.YtlgpdglnfjndhaaU06b
namespace Go.Proofs.Ytlgpdglnfjndhaa
set_option maxRecDepth 8000
set_option linter.unusedSimpArgs false
set_option linter.unusedVariables false
open Go Xe Go.Lib
theorem els3 {g : Hp} {a b c : List Value} {x y z : Tm} (ha : rdTm g a x) (hb : rdTm g b y) (hc : rdTm g c z) : Els rdTm 4 g (a ++ b ++ c) [x, y, z] :=
  ((Els.one (len_Tm ha) ha).append (Els.one (len_Tm hb) hb)).append (Els.one (len_Tm hc) hc)
theorem ord_f67_r1_U06c : orderOfB Try.f67 1 [8, 9, 10, 11] (.a 0 (.a 3 (.a 6 (.v 1 (.v 4 (.v 7 (.k 2 (.k 5 (.k 8 (.k 9 (.k 10 (.k 11 .done)))))))))))) = true := by kernel_rfl
theorem vnT_calls {E : Env} {w : World} {L : List As} {g : Hp} {ecs : List Value} {v : Vn} (hv : rdVn g ecs v) (h0 : 0 ≤ v.no) (hw : Sat E w (RO g :: L)) :
    Calls Try.prog 67 #[.agg ecs.toArray] w fun e w' => ∃ g' cs, g.le g' ∧ e = .returned (.agg cs.toArray) ∧ rdTm g' cs (tmVn v) ∧ Sat E w' (RO g' :: L) := by
  obtain ⟨rfl, hn, hva, hno⟩ := hv
  have hn2 : v.no ≤ 9223372036854775807 := by simpa [Lit.wf] using (show v.no ≤ IntKind.i64.max from by have := hn; simp only [Lit.wf, Bool.and_eq_true, decide_eq_true_eq] at this; exact this.2)
  refine calls_of_g (n := 14) Try.func67 rfl rfl rfl ?_
  change G _ _ _ _ _ [(0, _)] _
  refine g_seq ?_
  refine g_region ?_
  refine rl_k rfl (k_box hw rfl rfl rfl (fun bk0_0 w hw => ?_))
  refine rl_k rfl (k_alloc hw T.zero_111 rfl rfl (fun bk0_1 w hw => ?_))
  refine rl_nil (g_le (xK (xK (Fr.le_refl _))) ?_)
  refine g_seq ?_
  refine g_drawR ord_f67_r1_U06c (by kernel_rfl) T.mixed hw (fun w hw => ?_)
  refine rs_a 0 rfl rfl rfl rfl (v_fieldAddr0 T.fld_136_0_0 rfl) ?_
  refine rs_a 3 rfl rfl rfl rfl (v_fieldAddr0 T.fld_136_1_1 rfl) ?_
  refine rs_a 6 rfl rfl rfl rfl (v_fieldAddr0 T.fld_136_2_2 rfl) ?_
  refine rs_v 1 rfl rfl rfl rfl (OpV.mono (v_load T.scal_3 rfl) (fun w hw => by exact sat_cell hw (by (repeat first | with_reducible exact xH | apply xT); first | done | fail) rfl)) (by exact hw) ?_
  refine rs_v 4 rfl rfl rfl rfl (OpV.mono (v_load T.scal_9 rfl) (fun w hw => by exact sat_cell hw (by (repeat first | with_reducible exact xH | apply xT); first | done | fail) rfl)) (by exact hw) ?_
  refine rs_v 7 rfl rfl rfl rfl (OpV.mono (v_load T.scal_9 rfl) (fun w hw => by exact sat_cell hw (by (repeat first | with_reducible exact xH | apply xT); first | done | fail) rfl)) (by exact hw) ?_
  refine rs_k 2 rfl rfl (k_callf Try.func63 rfl rfl rfl rfl ?_)
  refine Calls.mono (number_calls v.no h0 hn2 hw) ?_
  rintro _ w ⟨rfl, hw⟩
  refine ⟨_, rfl, ?_⟩
  refine ⟨fun _ => (by exact hw), ?_⟩
  refine rs_k 5 rfl rfl (k_callf Try.func66 rfl rfl rfl rfl ?_)
  refine Calls.mono (atom_calls v.value hw) ?_
  rintro _ w ⟨rfl, hw⟩
  refine ⟨_, rfl, ?_⟩
  refine ⟨fun _ => (by exact hw), ?_⟩
  refine rs_k 8 rfl rfl (k_callf Try.func66 rfl rfl rfl rfl ?_)
  refine Calls.mono (atom_calls v.note hw) ?_
  rintro _ w ⟨rfl, hw⟩
  refine ⟨_, rfl, ?_⟩
  refine ⟨fun hn => absurd (by decide) hn, ?_⟩
  refine rs_k 9 rfl rfl (k_buildSlice (cells := [_, _, _, _, _, _, _, _, _, _, _, _]) hw T.sl_109_111_4 T.zero_111 rfl rfl rfl rfl rfl rfl (fun bk1_9 w hw => ?_))
  refine ⟨fun hn => absurd (by decide) hn, ?_⟩
  have hels := els3 (g := g) (rd_num h0 (by omega)) (rd_atom hva) (rd_atom hno)
  have hp := (hw.xP (A := RO g)).xP (A := pt bk1_9 _)
  obtain ⟨g1, hg1, hl1, hw⟩ := lit_tm hp hels (by simp)
  refine rs_k 10 rfl rfl (k_callf Try.func68 rfl rfl rfl rfl ?_)
  refine Calls.mono (tof_calls hl1 hw) ?_
  rintro _ w ⟨g2, sl, hg2, rfl, hl2, hw⟩
  have hg3 := hg1.trans hg2
  obtain ⟨sa, sn, sc, rfl⟩ := rdSl_shape hl2
  refine ⟨_, rfl, ?_⟩
  refine ⟨fun hn => absurd (by decide) hn, ?_⟩
  refine rs_k 11 rfl rfl (k_storeWhole hw T.agg_111_4 rfl rfl (by simp [Value.oneCell']) rfl (by (repeat first | with_reducible exact xH | apply xT); first | done | fail) rfl (fun w hw => ?_))
  refine ⟨fun hn => absurd (by decide) hn, ?_⟩
  refine rs_done (g_le (xS rfl (xS rfl (xS rfl (xS rfl (xS rfl (xS rfl (xS rfl (xS rfl (xS rfl (xS rfl (xS rfl (Fr.le_refl _)))))))))))) ?_)
  refine g_resC Try.func67 rfl ⟨_, rfl, holds_agg (vs := [_, _, _, _]) T.agg_111_4 rfl (by exact sat_cells hw (by (repeat first | with_reducible exact xH | apply xT); first | done | fail) ⟨rfl, rfl, rfl, rfl, trivial⟩)⟩ ?_
  exact ⟨g2, _, hg3, rfl, rdTm_mk (by simp) hl2, hw.xQ⟩
theorem ord_f70_r1_U06c : orderOfB Try.f70 1 [18, 19, 20, 21] (.a 0 (.a 3 (.a 4 (.a 7 (.a 8 (.a 11 (.a 12 (.a 15 (.a 16 (.v 1 (.v 5 (.v 9 (.v 13 (.v 17 (.k 2 (.k 6 (.k 10 (.k 14 (.k 18 (.k 19 (.k 20 (.k 21 .done)))))))))))))))))))))) = true := by kernel_rfl
theorem kdT_calls {E : Env} {w : World} {L : List As} {g : Hp} {ecs : List Value} {k : Kd} (hk : rdKd g ecs k) (hr : refR k.ref) (hw : Sat E w (RO g :: L)) :
    Calls Try.prog 70 #[.agg ecs.toArray] w fun e w' => ∃ g' cs, g.le g' ∧ e = .returned (.agg cs.toArray) ∧ rdTm g' cs (tmKd k) ∧ Sat E w' (RO g' :: L) := by
  obtain ⟨rfl, hlo, hkey, _⟩ := hk
  obtain ⟨r1, r2, r3, r4, r5, r6⟩ := hr
  have hk2 : 0 ≤ k.ref.key ∧ k.ref.key ≤ 18446744073709551615 := by simp only [Lit.wf, Bool.and_eq_true, decide_eq_true_eq] at hkey; exact hkey
  refine calls_of_g (n := 24) Try.func70 rfl rfl rfl ?_
  change G _ _ _ _ _ [(0, _)] _
  refine g_seq ?_
  refine g_region ?_
  refine rl_k rfl (k_box hw rfl rfl rfl (fun bk0_0 w hw => ?_))
  refine rl_k rfl (k_alloc hw T.zero_111 rfl rfl (fun bk0_1 w hw => ?_))
  refine rl_nil (g_le (xK (xK (Fr.le_refl _))) ?_)
  refine g_seq ?_
  refine g_drawR ord_f70_r1_U06c (by kernel_rfl) T.mixed hw (fun w hw => ?_)
  refine rs_a 0 rfl rfl rfl rfl (v_fieldAddr0 T.fld_101_0_0 rfl) ?_
  refine rs_a 3 rfl rfl rfl rfl (v_fieldAddr0 T.fld_101_1_1 rfl) ?_
  refine rs_a 4 rfl rfl rfl rfl (v_fieldAddr T.fld_51_0_0 rfl) ?_
  refine rs_a 7 rfl rfl rfl rfl (v_fieldAddr0 T.fld_101_1_1 rfl) ?_
  refine rs_a 8 rfl rfl rfl rfl (v_fieldAddr T.fld_51_1_1 rfl) ?_
  refine rs_a 11 rfl rfl rfl rfl (v_fieldAddr0 T.fld_101_1_1 rfl) ?_
  refine rs_a 12 rfl rfl rfl rfl (v_fieldAddr T.fld_51_2_2 rfl) ?_
  refine rs_a 15 rfl rfl rfl rfl (v_fieldAddr0 T.fld_101_1_1 rfl) ?_
  refine rs_a 16 rfl rfl rfl rfl (v_fieldAddr T.fld_51_3_3 rfl) ?_
  refine rs_v 1 rfl rfl rfl rfl (OpV.mono (v_load T.scal_9 rfl) (fun w hw => by exact sat_cell hw (by (repeat first | with_reducible exact xH | apply xT); first | done | fail) rfl)) (by exact hw) ?_
  refine rs_v 5 rfl rfl rfl rfl (OpV.mono (v_load T.scal_49 rfl) (fun w hw => by exact sat_cell hw (by (repeat first | with_reducible exact xH | apply xT); first | done | fail) rfl)) (by exact hw) ?_
  refine rs_v 9 rfl rfl rfl rfl (OpV.mono (v_load T.scal_3 rfl) (fun w hw => by exact sat_cell hw (by (repeat first | with_reducible exact xH | apply xT); first | done | fail) rfl)) (by exact hw) ?_
  refine rs_v 13 rfl rfl rfl rfl (OpV.mono (v_load T.scal_3 rfl) (fun w hw => by exact sat_cell hw (by (repeat first | with_reducible exact xH | apply xT); first | done | fail) rfl)) (by exact hw) ?_
  refine rs_v 17 rfl rfl rfl rfl (OpV.mono (v_load T.scal_3 rfl) (fun w hw => by exact sat_cell hw (by (repeat first | with_reducible exact xH | apply xT); first | done | fail) rfl)) (by exact hw) ?_
  refine rs_k 2 rfl rfl (k_callf Try.func66 rfl rfl rfl rfl ?_)
  refine Calls.mono (atom_calls k.low hw) ?_
  rintro _ w ⟨rfl, hw⟩
  refine ⟨_, rfl, ?_⟩
  refine ⟨fun _ => (by exact hw), ?_⟩
  refine rs_k 6 rfl rfl (k_callf Try.func71 rfl rfl rfl rfl ?_)
  refine Calls.mono (key_calls k.ref.key hw) ?_
  rintro _ w ⟨rfl, hw⟩
  refine ⟨_, rfl, ?_⟩
  refine ⟨fun _ => (by exact hw), ?_⟩
  refine rs_k 10 rfl rfl (k_callf Try.func63 rfl rfl rfl rfl ?_)
  refine Calls.mono (number_calls k.ref.seg r1 (by omega) hw) ?_
  rintro _ w ⟨rfl, hw⟩
  refine ⟨_, rfl, ?_⟩
  refine ⟨fun _ => (by exact hw), ?_⟩
  refine rs_k 14 rfl rfl (k_callf Try.func63 rfl rfl rfl rfl ?_)
  refine Calls.mono (number_calls k.ref.off r3 (by omega) hw) ?_
  rintro _ w ⟨rfl, hw⟩
  refine ⟨_, rfl, ?_⟩
  refine ⟨fun _ => (by exact hw), ?_⟩
  refine rs_k 18 rfl rfl (k_callf Try.func63 rfl rfl rfl rfl ?_)
  refine Calls.mono (number_calls k.ref.len (by omega) (by omega) hw) ?_
  rintro _ w ⟨rfl, hw⟩
  refine ⟨_, rfl, ?_⟩
  refine ⟨fun hn => absurd (by decide) hn, ?_⟩
  refine rs_k 19 rfl rfl (k_buildSlice (cells := [_, _, _, _, _, _, _, _, _, _, _, _, _, _, _, _, _, _, _, _]) hw T.sl_109_111_4 T.zero_111 rfl rfl rfl rfl rfl rfl (fun bk1_19 w hw => ?_))
  refine ⟨fun hn => absurd (by decide) hn, ?_⟩
  have hels := (((els3 (g := g) (rd_atom hlo) (rd_key hk2.1 hk2.2) (rd_num r1 (by omega))).append (Els.one rfl (rd_num r3 (by omega)))).append (Els.one rfl (rd_num (by omega : 0 ≤ k.ref.len) (by omega))))
  have hp := (hw.xP (A := RO g)).xP (A := pt bk1_19 _)
  obtain ⟨g1, hg1, hl1, hw⟩ := lit_tm hp hels (by simp)
  refine rs_k 20 rfl rfl (k_callf Try.func68 rfl rfl rfl rfl ?_)
  refine Calls.mono (tof_calls hl1 hw) ?_
  rintro _ w ⟨g2, sl, hg2, rfl, hl2, hw⟩
  have hg3 := hg1.trans hg2
  obtain ⟨sa, sn, sc, rfl⟩ := rdSl_shape hl2
  refine ⟨_, rfl, ?_⟩
  refine ⟨fun hn => absurd (by decide) hn, ?_⟩
  refine rs_k 21 rfl rfl (k_storeWhole hw T.agg_111_4 rfl rfl (by simp [Value.oneCell']) rfl (by (repeat first | with_reducible exact xH | apply xT); first | done | fail) rfl (fun w hw => ?_))
  refine ⟨fun hn => absurd (by decide) hn, ?_⟩
  refine rs_done (g_le (xS rfl (xS rfl (xS rfl (xS rfl (xS rfl (xS rfl (xS rfl (xS rfl (xS rfl (xS rfl (xS rfl (xS rfl (xS rfl (xS rfl (xS rfl (xS rfl (xS rfl (xS rfl (xS rfl (xS rfl (xS rfl (Fr.le_refl _)))))))))))))))))))))) ?_)
  refine g_resC Try.func70 rfl ⟨_, rfl, holds_agg (vs := [_, _, _, _]) T.agg_111_4 rfl (by exact sat_cells hw (by (repeat first | with_reducible exact xH | apply xT); first | done | fail) ⟨rfl, rfl, rfl, rfl, trivial⟩)⟩ ?_
  exact ⟨g2, _, hg3, rfl, rdTm_mk (by simp) hl2, hw.xQ⟩
theorem ord_f64_r1_U06c : orderOfB Try.f64 1 [5, 6] (.a 0 (.a 3 (.v 1 (.v 4 (.k 2 (.k 5 (.k 6 .done))))))) = true := by kernel_rfl
theorem enT_calls {E : Env} {w : World} {L : List As} {g : Hp} {ecs : List Value} {x : En} (he : rdEn g ecs x) (hn : x.versions.length ≤ 100) (h0 : ∀ v ∈ x.versions, 0 ≤ v.no) (hw : Sat E w (RO g :: L)) :
    Calls Try.prog 64 #[.agg ecs.toArray] w fun e w' => ∃ g' cs, g.le g' ∧ e = .returned (.agg cs.toArray) ∧ rdTm g' cs (tmEn x) ∧ Sat E w' (RO g' :: L) := by
  obtain ⟨va, vn, vc, rfl, he⟩ := en_told he
  obtain ⟨q0, q1, hq, ⟨hp0, hsz⟩, hl⟩ := he
  simp only [List.cons.injEq, and_true] at hq hp0
  obtain ⟨rfl, rfl⟩ := hq
  obtain ⟨rfl, _, _, _, _⟩ := rdSl_get hl
  refine calls_of_g (n := 9) Try.func64 rfl rfl rfl ?_
  change G _ _ _ _ _ [(0, _)] _
  refine g_seq ?_
  refine g_region ?_
  refine rl_k rfl (k_box hw rfl rfl rfl (fun bk0_0 w hw => ?_))
  refine rl_k rfl (k_alloc hw T.zero_111 rfl rfl (fun bk0_1 w hw => ?_))
  refine rl_nil (g_le (xK (xK (Fr.le_refl _))) ?_)
  refine g_seq ?_
  refine g_drawR ord_f64_r1_U06c (by kernel_rfl) T.mixed hw (fun w hw => ?_)
  refine rs_a 0 rfl rfl rfl rfl (v_fieldAddr0 T.fld_126_0_0 rfl) ?_
  refine rs_a 3 rfl rfl rfl rfl (v_fieldAddr0 T.fld_126_1_1 rfl) ?_
  refine rs_v 1 rfl rfl rfl rfl (OpV.mono (v_load T.scal_9 rfl) (fun w hw => by exact sat_cell hw (by (repeat first | with_reducible exact xH | apply xT); first | done | fail) rfl)) (by exact hw) ?_
  refine rs_v 4 rfl rfl rfl rfl (OpV.mono (v_load T.scal_124 rfl) (fun w hw => by exact sat_cell hw (by (repeat first | with_reducible exact xH | apply xT); first | done | fail) rfl)) (by exact hw) ?_
  refine rs_k 2 rfl rfl (k_callf Try.func66 rfl rfl rfl rfl ?_)
  refine Calls.mono (atom_calls x.name hw) ?_
  rintro _ w ⟨rfl, hw⟩
  refine ⟨_, rfl, ?_⟩
  refine ⟨fun _ => (by exact hw), ?_⟩
  refine rs_k 5 rfl rfl (k_callf Try.func65 rfl rfl rfl rfl ?_)
  refine Calls.mono (rowVn_calls (f := tmVn) (rd_atom hsz) hl hn (fun v hv => fun hr hw => .mk Try.func67 rfl rfl rfl (vnT_calls hr (h0 v hv) hw)) (hw.xQ)) ?_
  rintro _ w ⟨g2, sl, hg2, rfl, hl2, hw⟩
  obtain ⟨sa, sn, sc, rfl⟩ := rdSl_shape hl2
  refine ⟨_, rfl, ?_⟩
  refine ⟨fun hn => absurd (by decide) hn, ?_⟩
  refine rs_k 6 rfl rfl (k_storeWhole hw T.agg_111_4 rfl rfl (by simp [Value.oneCell']) rfl (by (repeat first | with_reducible exact xH | apply xT); first | done | fail) rfl (fun w hw => ?_))
  refine ⟨fun hn => absurd (by decide) hn, ?_⟩
  refine rs_done (g_le (xS rfl (xS rfl (xS rfl (xS rfl (xS rfl (xS rfl (Fr.le_refl _))))))) ?_)
  refine g_resC Try.func64 rfl ⟨_, rfl, holds_agg (vs := [_, _, _, _]) T.agg_111_4 rfl (by exact sat_cells hw (by (repeat first | with_reducible exact xH | apply xT); first | done | fail) ⟨rfl, rfl, rfl, rfl, trivial⟩)⟩ ?_
  exact ⟨g2, _, hg2, rfl, rdTm_mk (by simp) hl2, hw.xQ⟩
theorem kd_key {g : Hp} {cs : List Value} {k : Kd} (h : rdKd g cs k) : 0 ≤ k.ref.key ∧ k.ref.key ≤ 18446744073709551615 := by
  obtain ⟨_, _, hkey, _⟩ := h
  simp only [Lit.wf, Bool.and_eq_true, decide_eq_true_eq] at hkey; exact hkey
theorem keys_rd {g : Hp} {cs : List Value} {x : Nd} (h : rdNd g cs x) : keysOk x := by
  obtain ⟨n4, n5, n6, rfl, e4, n7, n8⟩ := h
  intro k hk
  obtain ⟨ks, hk2⟩ := rdSl_mem' n8 k hk
  exact kd_key hk2
def termN (q : Qt) (x : Nd) : Tm × Int := if rightN q x ≠ 0 then (tm0, rightN q x) else (tmNd x, 0)
def sealN (q : Qt) (key : Int) (x : Nd) : ByteArray × Int := if rightN q x ≠ 0 then (ByteArray.empty, rightN q x) else (wrT (boxT key (tmNd x)), 0)
theorem packB_nd {q : Qt} {x : Nd} {key : Int} (h : rightN q x = 0) (hk : keysOk x) : packB key (tmNd x) = (wrT (boxT key (tmNd x)), 0) := by
  have h1 := rightT_nd h hk
  have h2 := rightT_box (key := key) h hk
  have h3 : sealB key (tmNd x) = (boxT key (tmNd x), 0) := by unfold sealB ownT; rw [if_neg (by simp [h1]), if_neg (by simp [h2])]
  unfold packB
  rw [h3]
  simp only
  rw [if_neg (by simp), if_pos h2, h2]
theorem ord_f45_r5_U06c : orderOfB Try.f45 5 [3, 4] (.a 1 (.v 2 (.k 0 (.k 3 (.k 4 (.k 5 .done)))))) = true := by kernel_rfl
theorem ord_f45_r6_U06c : orderOfB Try.f45 6 [3, 4] (.a 1 (.v 2 (.k 0 (.k 3 (.k 4 (.k 5 .done)))))) = true := by kernel_rfl
theorem term_calls {E : Env} {w : World} {L : List As} {g : Hp} {ncs : List Value} {x : Nd} (q : Qt) (hn : rdNd g ncs x) (hw : Sat E w (RO g :: L)) :
    Calls Try.prog 45 #[q.v, .agg ncs.toArray] w fun e w' => ∃ g' cs, g.le g' ∧ e = .returned (.tuple #[.agg cs.toArray, .int .i64 (termN q x).2]) ∧ rdTm g' cs (termN q x).1 ∧ Sat E w' (RO g' :: L) := by
  obtain ⟨ea, en, ec, ka, kn, kc, rfl, hnd⟩ := nd_told hn
  obtain ⟨n4, n5, n6, hq, _, hle, hlk⟩ := id hnd
  simp only [List.cons.injEq, and_true] at hq
  obtain ⟨rfl, rfl, rfl⟩ := hq
  obtain ⟨rfl, _⟩ := rdSl_get hle
  obtain ⟨rfl, _⟩ := rdSl_get hlk
  have hkeys := keys_rd hn
  refine calls_of_g (n := 24) Try.func45 rfl rfl rfl ?_
  change G _ _ _ _ _ [(0, _), (1, _)] _
  refine g_seq ?_
  refine g_region ?_
  refine rl_k rfl (k_box hw rfl rfl rfl (fun bk0_0 w hw => ?_))
  refine rl_k rfl (k_box hw rfl rfl rfl (fun bk0_1 w hw => ?_))
  refine rl_k rfl (k_alloc hw T.zero_111 rfl rfl (fun bk0_2 w hw => ?_))
  refine xV rfl rfl rfl (v_assign rfl) ?_
  refine rl_nil (g_le (xK (xK (xK (xK (Fr.le_refl _))))) ?_)
  refine g_seq (g_seq ?_)
  refine g_region ?_
  refine rl_v rfl rfl rfl (by exact sat_cells hw (by (repeat first | with_reducible exact xH | apply xT); first | done | fail) ⟨rfl, rfl, rfl, rfl, rfl, rfl, rfl, trivial⟩) (v_loadAgg (vs := [_, _, _, _, _, _, _]) T.agg_23_7 rfl rfl) ?_
  refine rl_v rfl rfl rfl (by exact sat_cells hw (by (repeat first | with_reducible exact xH | apply xT); first | done | fail) ⟨rfl, rfl, rfl, trivial⟩) (v_loadAgg (vs := [_, _, _]) T.agg_48_3 rfl rfl) ?_
  refine rl_k rfl (k_callf Try.func26 rfl rfl rfl rfl ?_)
  refine Calls.mono (rightN_calls q hnd (hw.xQ)) ?_
  rintro _ w ⟨rfl, hw⟩
  refine ⟨_, rfl, ?_⟩
  refine xV rfl rfl rfl (v_assign rfl) ?_
  refine rl_nil (g_le (xK (xS rfl (xS rfl (xS rfl (Fr.le_refl _))))) ?_)
  refine g_seq ?_
  refine g_region ?_
  refine xV rfl rfl rfl (v_move rfl) ?_
  refine xV rfl rfl rfl (v_neq rfl rfl) ?_
  refine rl_nil (g_le (xK (xS rfl (Fr.le_refl _))) ?_)
  refine g_cond rfl (fun h1 => ?_) (fun h1 => ?_)
  · try with_reducible exact ft_elim h1
    all_goals
      try replace h1 := of_decide_eq_true h1
      refine g_seq ?_
      refine g_region ?_
      refine xV rfl rfl rfl (v_build rfl (T.build_111 ..)) ?_
      refine xV rfl rfl rfl (v_move rfl) ?_
      refine rl_k rfl (k_storeWhole hw T.agg_111_4 rfl rfl (by simp [Value.oneCell']) rfl (by (repeat first | with_reducible exact xH | apply xT); first | done | fail) rfl (fun w hw => ?_))
      refine xV rfl rfl rfl (v_assign rfl) ?_
      refine rl_nil (g_le (xK (xS rfl (xS rfl (Fr.le_refl _)))) ?_)
      refine g_res2 Try.func45 rfl ⟨_, rfl, holds_agg (vs := [_, _, _, _]) T.agg_111_4 rfl (by exact sat_cells hw (by (repeat first | with_reducible exact xH | apply xT); first | done | fail) ⟨rfl, rfl, rfl, rfl, trivial⟩)⟩ rfl ?_
      have e9 : termN q x = (tm0, rightN q x) := by unfold termN; rw [if_pos h1]
      rw [e9]
      exact ⟨g, _, Hp.le_refl _, rfl, rd_tm0 g, hw.xQ⟩
  · try with_reducible exact tf_elim h1
    all_goals
      try replace h1 := of_decide_eq_false h1
      have h9 : rightN q x = 0 := by omega
      have e9 : termN q x = (tmNd x, 0) := by unfold termN; rw [if_neg h1]
      obtain ⟨_, hcase⟩ := rightN_ok h9
      rw [e9]
      refine g_skip (g_seq (g_seq ?_))
      refine g_region ?_
      refine xV rfl rfl rfl (v_fieldAddr0 T.fld_48_0_0 rfl) ?_
      refine rl_v rfl rfl rfl (by exact sat_cell hw (by (repeat first | with_reducible exact xH | apply xT); first | done | fail) rfl) (v_load T.scal_4 rfl) ?_
      refine rl_nil (g_le (xK (xS rfl (Fr.le_refl _))) ?_)
      refine g_cond rfl (fun h2 => ?_) (fun h2 => ?_)
      · try with_reducible exact ft_elim h2
        all_goals
          try replace h2 := of_decide_eq_true h2
          obtain ⟨_, _, hel, hes⟩ : x.leaf = true ∧ x.kids.length = 0 ∧ x.entries.length ≤ 4 ∧ ∀ e ∈ x.entries, rightE q e = 0 := by rcases hcase with hh | hh; exact hh; exact absurd hh.1 (by simp [h2])
          refine g_seq ?_
          refine g_drawR ord_f45_r5_U06c (by kernel_rfl) T.mixed hw (fun w hw => ?_)
          refine rs_a 1 rfl rfl rfl rfl (v_fieldAddr0 T.fld_48_1_1 rfl) ?_
          refine rs_v 2 rfl rfl rfl rfl (OpV.mono (v_load T.scal_45 rfl) (fun w hw => by exact sat_cell hw (by (repeat first | with_reducible exact xH | apply xT); first | done | fail) rfl)) (by exact hw) ?_
          refine rs_k 0 rfl rfl (k_callf Try.func63 rfl rfl rfl rfl ?_)
          refine Calls.mono (number_calls 1 (by omega) (by omega) hw) ?_
          rintro _ w ⟨rfl, hw⟩
          refine ⟨_, rfl, ?_⟩
          refine ⟨fun _ => (by exact hw), ?_⟩
          refine rs_k 3 rfl rfl (k_callf Try.func62 rfl rfl rfl rfl ?_)
          refine Calls.mono (rowEn_calls (f := tmEn) (rd_num (n := 1) (by omega) (by omega)) hle (by omega) (fun e he => fun hr hw => .mk Try.func64 rfl rfl rfl (enT_calls hr (by obtain ⟨hq9, _, _, _, hv9, _⟩ := rightE_ok (hes e he); have := hq9.2.2.2.2.1; omega) (fun v hv => by have := (rightE_ok (hes e he)).2.2.2.2.2 v hv; omega) hw)) (hw.xQ)) ?_
          rintro _ w ⟨g2, sl, hg2, rfl, hl2, hw⟩
          obtain ⟨sa, sn, sc, rfl⟩ := rdSl_shape hl2
          refine ⟨_, rfl, ?_⟩
          refine ⟨fun hn => absurd (by decide) hn, ?_⟩
          refine rs_k 4 rfl rfl (k_storeWhole hw T.agg_111_4 rfl rfl (by simp [Value.oneCell']) rfl (by (repeat first | with_reducible exact xH | apply xT); first | done | fail) rfl (fun w hw => ?_))
          refine ⟨fun hn => absurd (by decide) hn, ?_⟩
          refine rs_kv 5 rfl rfl rfl rfl (S' := fun _ => True) trivial (v_assign rfl) ?_
          refine rs_done (g_le (xK (xS rfl (xS rfl (xS rfl (xS rfl (Fr.le_refl _)))))) ?_)
          refine g_res2 Try.func45 rfl ⟨_, rfl, holds_agg (vs := [_, _, _, _]) T.agg_111_4 rfl (by exact sat_cells hw (by (repeat first | with_reducible exact xH | apply xT); first | done | fail) ⟨rfl, rfl, rfl, rfl, trivial⟩)⟩ rfl ?_
          refine ⟨g2, _, hg2, rfl, ?_, hw.xQ⟩
          unfold tmNd
          rw [if_pos h2]
          exact rdTm_mk (by simp) hl2
      · try with_reducible exact tf_elim h2
        all_goals
          try replace h2 := of_decide_eq_false h2
          obtain ⟨_, _, hkl1, hkl2, hks⟩ : x.leaf = false ∧ x.entries.length = 0 ∧ 2 ≤ x.kids.length ∧ x.kids.length ≤ 4 ∧ ∀ k ∈ x.kids, 0 < k.low.size ∧ k.low.size ≤ q.nm ∧ refR k.ref := by rcases hcase with hh | hh; exact absurd hh.1 (by simp [h2]); exact hh
          refine g_skip (g_seq ?_)
          refine g_drawR ord_f45_r6_U06c (by kernel_rfl) T.mixed hw (fun w hw => ?_)
          refine rs_a 1 rfl rfl rfl rfl (v_fieldAddr0 T.fld_48_2_2 rfl) ?_
          refine rs_v 2 rfl rfl rfl rfl (OpV.mono (v_load T.scal_46 rfl) (fun w hw => by exact sat_cell hw (by (repeat first | with_reducible exact xH | apply xT); first | done | fail) rfl)) (by exact hw) ?_
          refine rs_k 0 rfl rfl (k_callf Try.func63 rfl rfl rfl rfl ?_)
          refine Calls.mono (number_calls 2 (by omega) (by omega) hw) ?_
          rintro _ w ⟨rfl, hw⟩
          refine ⟨_, rfl, ?_⟩
          refine ⟨fun _ => (by exact hw), ?_⟩
          refine rs_k 3 rfl rfl (k_callf Try.func69 rfl rfl rfl rfl ?_)
          refine Calls.mono (rowKd_calls (f := tmKd) (rd_num (n := 2) (by omega) (by omega)) hlk (by omega) (fun k hk => fun hr hw => .mk Try.func70 rfl rfl rfl (kdT_calls hr (hks k hk).2.2 hw)) (hw.xQ)) ?_
          rintro _ w ⟨g2, sl, hg2, rfl, hl2, hw⟩
          obtain ⟨sa, sn, sc, rfl⟩ := rdSl_shape hl2
          refine ⟨_, rfl, ?_⟩
          refine ⟨fun hn => absurd (by decide) hn, ?_⟩
          refine rs_k 4 rfl rfl (k_storeWhole hw T.agg_111_4 rfl rfl (by simp [Value.oneCell']) rfl (by (repeat first | with_reducible exact xH | apply xT); first | done | fail) rfl (fun w hw => ?_))
          refine ⟨fun hn => absurd (by decide) hn, ?_⟩
          refine rs_kv 5 rfl rfl rfl rfl (S' := fun _ => True) trivial (v_assign rfl) ?_
          refine rs_done (g_le (xK (xS rfl (xS rfl (xS rfl (xS rfl (Fr.le_refl _)))))) ?_)
          refine g_res2 Try.func45 rfl ⟨_, rfl, holds_agg (vs := [_, _, _, _]) T.agg_111_4 rfl (by exact sat_cells hw (by (repeat first | with_reducible exact xH | apply xT); first | done | fail) ⟨rfl, rfl, rfl, rfl, trivial⟩)⟩ rfl ?_
          refine ⟨g2, _, hg2, rfl, ?_, hw.xQ⟩
          unfold tmNd
          rw [if_neg (by simp [h2])]
          exact rdTm_mk (by simp) hl2
theorem sealN_calls {E : Env} {w : World} {L : List As} {g : Hp} {ncs : List Value} {x : Nd} (q : Qt) (key : Int) (hk0 : 0 ≤ key) (hk1 : key ≤ 18446744073709551615) (hn : rdNd g ncs x) (hw : Sat E w (RO g :: L)) :
    Calls Try.prog 28 #[q.v, .int .u64 key, .agg ncs.toArray] w fun e w' => ∃ g', g.le g' ∧ e = .returned (.tuple #[.string (sealN q key x).1, .int .i64 (sealN q key x).2]) ∧ Sat E w' (RO g' :: L) := by
  obtain ⟨ea, en, ec, ka, kn, kc, rfl, hnd⟩ := nd_told hn
  have hkeys := keys_rd hn
  refine calls_of_g (n := 24) Try.func28 rfl rfl rfl ?_
  change G _ _ _ _ _ [(0, _), (1, _), (2, _)] _
  refine g_seq ?_
  refine g_region ?_
  refine rl_k rfl (k_box hw rfl rfl rfl (fun bk0_0 w hw => ?_))
  refine rl_k rfl (k_box hw rfl rfl rfl (fun bk0_1 w hw => ?_))
  refine xV rfl rfl rfl (v_assign rfl) ?_
  refine xV rfl rfl rfl (v_assign rfl) ?_
  refine rl_nil (g_le (xK (xK (xK (xK (Fr.le_refl _))))) ?_)
  refine g_seq ?_
  refine g_region ?_
  refine rl_v rfl rfl rfl (by exact sat_cells hw (by (repeat first | with_reducible exact xH | apply xT); first | done | fail) ⟨rfl, rfl, rfl, rfl, rfl, rfl, rfl, trivial⟩) (v_loadAgg (vs := [_, _, _, _, _, _, _]) T.agg_23_7 rfl rfl) ?_
  refine rl_v rfl rfl rfl (by exact sat_cells hw (by (repeat first | with_reducible exact xH | apply xT); first | done | fail) ⟨rfl, rfl, rfl, trivial⟩) (v_loadAgg (vs := [_, _, _]) T.agg_48_3 rfl rfl) ?_
  refine rl_k rfl (k_callf Try.func45 rfl rfl rfl rfl ?_)
  refine Calls.mono (term_calls q hnd (hw.xQ)) ?_
  rintro _ w ⟨g1, cs1, hg1, rfl, hrd, hw⟩
  obtain ⟨xa, xc, rfl, _⟩ := tm_shape hrd
  refine ⟨_, rfl, ?_⟩
  refine xV rfl rfl rfl (v_move rfl) ?_
  refine xV rfl rfl rfl (v_extract rfl rfl) ?_
  refine xV rfl rfl rfl (v_extract rfl rfl) ?_
  refine rl_k rfl (k_alloc hw T.zero_111 rfl rfl (fun bk1_6 w hw => ?_))
  refine rl_k rfl (k_storeWhole hw T.agg_111_4 rfl rfl (by simp [Value.oneCell']) rfl (by (repeat first | with_reducible exact xH | apply xT); first | done | fail) rfl (fun w hw => ?_))
  refine xV rfl rfl rfl (v_assign rfl) ?_
  refine rl_nil (g_le (xK (xK (xS rfl (xS rfl (xS rfl (xS rfl (xS rfl (xS rfl (Fr.le_refl _))))))))) ?_)
  refine g_seq (g_seq ?_)
  refine g_region ?_
  refine xV rfl rfl rfl (v_move rfl) ?_
  refine xV rfl rfl rfl (v_neq rfl rfl) ?_
  refine rl_nil (g_le (xK (xS rfl (Fr.le_refl _))) ?_)
  refine g_cond rfl (fun h1 => ?_) (fun h1 => ?_)
  · try with_reducible exact ft_elim h1
    all_goals
      try replace h1 := of_decide_eq_true h1
      have e8 : rightN q x ≠ 0 := fun hh => h1 (by unfold termN; rw [if_neg (by simpa using hh)])
      have e9 : termN q x = (tm0, rightN q x) := by unfold termN; rw [if_pos e8]
      refine g_seq ?_
      refine g_region ?_
      refine xV rfl rfl rfl (v_move rfl) ?_
      refine xV rfl rfl rfl (v_assign rfl) ?_
      refine xV rfl rfl rfl (v_assign rfl) ?_
      refine rl_nil (g_le (xK (xK (xS rfl (Fr.le_refl _)))) ?_)
      refine g_ret2 Try.func28 rfl rfl rfl ?_
      exact ⟨g1, hg1, by unfold sealN; rw [if_pos e8, e9]; rfl, hw.xQ⟩
  · try with_reducible exact tf_elim h1
    all_goals
      try replace h1 := of_decide_eq_false h1
      have e8 : rightN q x = 0 := Classical.byContradiction fun hh => h1 (by unfold termN; rw [if_pos hh]; exact hh)
      have e9 : termN q x = (tmNd x, 0) := by unfold termN; rw [if_neg (by simpa using e8)]
      rw [e9] at hrd
      refine g_skip (g_seq ?_)
      refine g_region ?_
      refine xV rfl rfl rfl (v_move rfl) ?_
      refine rl_v rfl rfl rfl (by exact sat_cells hw (by (repeat first | with_reducible exact xH | apply xT); first | done | fail) ⟨rfl, rfl, rfl, rfl, trivial⟩) (v_loadAgg (vs := [_, _, _, _]) T.agg_111_4 rfl rfl) ?_
      refine rl_k rfl (k_callf Try.func46 rfl rfl rfl rfl ?_)
      refine Calls.mono (pack_calls key hk0 hk1 (t := (termN q x).1) (by rw [e9]; exact hrd) (hw.xQ)) ?_
      rw [e9, packB_nd e8 hkeys]
      rintro _ w ⟨g2, hg2, rfl, hw⟩
      refine ⟨_, rfl, ?_⟩
      refine xV rfl rfl rfl (v_extract rfl rfl) ?_
      refine xV rfl rfl rfl (v_extract rfl rfl) ?_
      refine xV rfl rfl rfl (v_assign rfl) ?_
      refine xV rfl rfl rfl (v_assign rfl) ?_
      refine rl_nil (g_le (xK (xK (xS rfl (xS rfl (xS rfl (xS rfl (xS rfl (Fr.le_refl _)))))))) ?_)
      refine g_ret2 Try.func28 rfl rfl rfl ?_
      exact ⟨g2, hg1.trans hg2, by unfold sealN; rw [if_neg (by simpa using e8)]; rfl, hw.xQ⟩
end Go.Proofs.Ytlgpdglnfjndhaa
