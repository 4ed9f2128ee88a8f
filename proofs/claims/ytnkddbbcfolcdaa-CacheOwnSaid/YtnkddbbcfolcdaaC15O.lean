/-
  CacheOwn: neither what was put in nor what came out is the cache's memory.
-/
import Derived.Test.YtnkddbbcfolcdaaC15q
namespace Go.Proofs.Ytnkddbbcfolcdaa
set_option linter.unusedSimpArgs false
set_option linter.unusedVariables false
open Go Xe Go.Lib Go.RowKit Go.ChangeShapes Go.WideShapes Go.ChangeAt
theorem ho_open {E : Env} {w : World} {L : List As} {p : Ho} {ps : List Ho} (h : Sat E w (eachOf HdOf (p :: ps) (p :: ps) :: L)) : Sat E w (OwnSl 73 2 p.2.1 (p.1.node).entries.length (enCells (p.1.node).entries p.2.2.2) :: eachOf VnsOf p.2.2.2 (p.1.node).entries :: KdsAt p.2.2.1 (p.1.node).kids :: eachOf HdOf ps ps :: L) :=
  Sat.flat (X := OwnSl 73 2 p.2.1 (p.1.node).entries.length (enCells (p.1.node).entries p.2.2.2) :: eachOf VnsOf p.2.2.2 (p.1.node).entries :: KdsAt p.2.2.1 (p.1.node).kids :: []) (Sat.each_cons.1 h)
theorem nd_back {E : Env} {w : World} {L : List As} {h' : Hp} {ev kv : Value} {vs : List Value} {x : Nd} (hA : stars (OwnSl 73 2 ev (x).entries.length (enCells (x).entries vs) :: eachOf VnsOf vs (x).entries :: KdsAt kv (x).kids :: []) h') (h : Sat E w (RO h' :: L)) : Sat E w (OwnSl 73 2 ev (x).entries.length (enCells (x).entries vs) :: eachOf VnsOf vs (x).entries :: KdsAt kv (x).kids :: L) :=
  Sat.flat (X := OwnSl 73 2 ev (x).entries.length (enCells (x).entries vs) :: eachOf VnsOf vs (x).entries :: KdsAt kv (x).kids :: []) (Sat.back hA h)
theorem ord_f3_r5_C15O : orderOfB Try.f3 5 [3] (.a 0 (.v 2 (.k 1 (.k 3 (.k 4 .done))))) = true := by kernel_rfl
set_option maxHeartbeats 4000000 in
theorem CacheOwn_law {w : World} {cs : Array Value} {n : Nd} (hr : rdArg rdNd w (.agg cs) n) :
    Law Try.prog 3 [.agg cs] w := by
  unfold Law
  have hw := Sat.old w
  generalize w = W at hr hw ⊢
  obtain ⟨cs⟩ := cs
  have hr : rdNd (hpOf W) cs n := hr
  have hfn := Nd.fine_of hr
  obtain ⟨q0, q1, q2, rfl, qe, qf, qg⟩ := id hr
  simp only [rdBool, List.cons.injEq, and_true] at qe
  subst qe
  obtain ⟨qa1, qn1, qk1, rfl⟩ := rdSl_shape qf
  obtain ⟨qa2, qn2, qk2, rfl⟩ := rdSl_shape qg
  have hput : (⟨2, [], 0, 0⟩ : Ch).put (ofR 1) n = (0, ⟨2, [⟨ofR 1, n, 0⟩], 0, 0⟩) := put_room (by simp [Ch.pl, idx]) (by simp)
  have hhit : (⟨2, [⟨ofR 1, n, 0⟩], 0, 0⟩ : Ch).hit 0 ⟨ofR 1, n, 0⟩ = ⟨2, [⟨ofR 1, n, 0⟩], 1, 0⟩ := rfl
  refine calls_of_g (n := 69) Try.func3 rfl rfl rfl ?_
  change G _ _ _ _ _ [(0, _)] _
  refine g_seq ?_
  refine g_region ?_
  refine rl_k rfl (k_box hw rfl rfl rfl (fun bk0_0 w hw => ?_))
  refine rl_v rfl rfl rfl (S := fun _ => True) trivial (v_assign rfl) ?_
  refine rl_nil (g_le (Fr.le_keep (Fr.le_keep (Fr.le_refl _))) ?_)
  refine g_seq ?_
  refine g_region ?_
  refine rl_k rfl (k_callf Try.func8 rfl rfl rfl rfl ?_)
  refine Calls.mono (cnew_calls 2 (hw.sub (by (repeat (first | with_reducible exact Sub.refl _ | exact Sub.nil _ | (apply Sub.cons; focus ((repeat (first | with_reducible exact Pick.here _ | apply Pick.there)); (first | done | fail))) | with_reducible apply Sub.drop)); first | done | fail))) ?_
  rintro _ w ⟨hn, _⟩
  obtain ⟨c, rfl, hw⟩ := hn (by omega)
  refine ⟨_, rfl, ?_⟩
  refine rl_v rfl rfl rfl (S := fun _ => True) trivial (v_move rfl) ?_
  refine rl_v rfl rfl rfl (S := fun _ => True) trivial (v_extract rfl rfl) ?_
  refine rl_v rfl rfl rfl (S := fun _ => True) trivial (v_extract rfl rfl) ?_
  refine rl_v rfl rfl rfl (S := fun _ => True) trivial (v_assign rfl) ?_
  refine rl_v rfl rfl rfl (S := fun _ => True) trivial (v_assign rfl) ?_
  refine rl_nil (g_le (Fr.le_keep (Fr.le_keep (Fr.le_skip rfl (Fr.le_skip rfl (Fr.le_skip rfl (Fr.le_skip rfl (Fr.le_refl _))))))) ?_)
  refine g_seq (g_seq ?_)
  refine g_region ?_
  refine rl_v rfl rfl rfl (S := fun _ => True) trivial (v_move rfl) ?_
  first | (refine rl_v rfl rfl rfl (S := fun _ => True) trivial (v_neqT rfl rfl (by omega)) ?_) | (refine rl_v rfl rfl rfl (S := fun _ => True) trivial (v_neqF rfl rfl (by first | omega | rfl)) ?_) | (refine rl_v rfl rfl rfl (S := fun _ => True) trivial (v_neq rfl rfl) ?_)
  refine rl_v rfl rfl rfl (S := fun _ => True) trivial (v_move rfl) ?_
  first | (refine rl_vg (met_on rfl rfl rfl rfl) rfl rfl (S := fun _ => True) trivial (v_move rfl) ?_) | (refine rl_off (by first | exact met_off rfl rfl rfl rfl rfl | exact met_gone rfl rfl rfl rfl) rfl rfl ?_)
  first | (refine rl_vg (met_on rfl rfl rfl rfl) rfl rfl (S := fun _ => True) trivial (v_eqlNil T.ptr_26 rfl rfl) ?_) | (refine rl_off (by first | exact met_off rfl rfl rfl rfl rfl | exact met_gone rfl rfl rfl rfl) rfl rfl ?_)
  first | (refine rl_v rfl rfl rfl (S := fun _ => True) trivial (v_pick_true rfl rfl) ?_) | (refine rl_v rfl rfl rfl (S := fun _ => True) trivial (v_pick_false rfl rfl) ?_) | (refine rl_v rfl rfl rfl (S := fun _ => True) trivial (v_pick rfl rfl rfl) ?_)
  refine rl_nil (g_le (Fr.le_keep (Fr.le_skip rfl (Fr.le_skip rfl (Fr.le_skip rfl (Fr.le_skip rfl (Fr.le_skip rfl (Fr.le_refl _))))))) ?_)
  refine g_cond_false rfl ?_
  refine g_skip (g_seq ?_)
  refine g_region ?_
  refine rl_v rfl rfl rfl (by first | exact sat_cells hw (by (repeat (first | with_reducible exact Pick.here _ | apply Pick.there)); first | done | fail) ⟨rfl, rfl, rfl, trivial⟩ | exact ro_ats hw (by (repeat (first | with_reducible exact Pick.here _ | apply Pick.there)); first | done | fail) (by assumption) | exact own_cells hw (by (repeat (first | with_reducible exact Pick.here _ | apply Pick.there)); first | done | fail) (by assumption) | exact old_cells hw (by (repeat (first | with_reducible exact Pick.here _ | apply Pick.there)); first | done | fail) (by assumption)) (v_loadAgg (vs := [_, _, _]) T.agg_25_3 rfl rfl) ?_
  refine rl_k rfl (k_callf Try.func9 rfl rfl rfl rfl ?_)
  refine Calls.mono (copyNd_calls hr (hw.sub (by (repeat (first | with_reducible exact Sub.refl _ | exact Sub.nil _ | (apply Sub.cons; focus ((repeat (first | with_reducible exact Pick.here _ | apply Pick.there)); (first | done | fail))) | with_reducible apply Sub.drop)); first | done | fail))) ?_
  rintro _ w ⟨ev, kv, vs, rfl, hw⟩
  obtain ⟨a4, c4, rfl, _, _, _⟩ := hw.own_shape
  obtain ⟨a5, c5, rfl, _, _, _⟩ := (hw.pick .at2).own_shape
  refine ⟨_, rfl, ?_⟩
  refine rl_k rfl (k_alloc hw T.zero_25 rfl rfl (fun bk4_2 w hw => ?_))
  first | (refine rl_k rfl (k_storeWhole hw T.agg_25_3 rfl rfl (by simp [Value.oneCell']) rfl (by (repeat (first | with_reducible exact Pick.here _ | apply Pick.there)); first | done | fail) rfl (fun w hw => ?_))) | (refine rl_k rfl (k_storeAgg hw T.agg_25_3 rfl rfl (by simp [Value.oneCell']) rfl (by (repeat (first | with_reducible exact Pick.here _ | apply Pick.there)); first | done | fail) rfl rfl (fun w hw => ?_))) | (refine rl_k rfl (k_storeOwnAgg hw T.agg_25_3 rfl rfl (by simp [Value.oneCell']) rfl (by (repeat (first | with_reducible exact Pick.here _ | apply Pick.there)); first | done | fail) (by assumption) (by omega) (fun w hw => ?_)))
  refine rl_nil (g_le (Fr.le_keep (Fr.le_skip rfl (Fr.le_skip rfl (Fr.le_refl _)))) ?_)
  refine g_seq ?_
  obtain ⟨h1, hA1, hn1, hw⟩ := nd_lend hfn (hw.sub (by (repeat (first | with_reducible exact Sub.refl _ | exact Sub.nil _ | (apply Sub.cons; focus ((repeat (first | with_reducible exact Pick.here _ | apply Pick.there)); (first | done | fail))) | with_reducible apply Sub.drop)); first | done | fail))
  refine g_drawR ord_f3_r5_C15O (by kernel_rfl) T.mixed hw (fun w hw => ?_)
  refine rs_a 0 rfl rfl rfl rfl (v_move rfl) ?_
  refine rs_v 2 rfl rfl rfl rfl (OpV.mono (v_loadAgg (vs := [_, _, _]) T.agg_25_3 rfl rfl) (fun w hw => by first | exact sat_cells hw (by (repeat (first | with_reducible exact Pick.here _ | apply Pick.there)); first | done | fail) ⟨rfl, rfl, rfl, trivial⟩ | exact ro_ats hw (by (repeat (first | with_reducible exact Pick.here _ | apply Pick.there)); first | done | fail) (by assumption) | exact own_cells hw (by (repeat (first | with_reducible exact Pick.here _ | apply Pick.there)); first | done | fail) (by assumption) | exact old_cells hw (by (repeat (first | with_reducible exact Pick.here _ | apply Pick.there)); first | done | fail) (by assumption))) (by first | exact hw | exact Sat.sub hw (by (repeat (first | with_reducible exact Sub.refl _ | exact Sub.nil _ | (apply Sub.cons; focus ((repeat (first | with_reducible exact Pick.here _ | apply Pick.there)); (first | done | fail))) | with_reducible apply Sub.drop)); first | done | fail)) ?_
  refine rs_k 1 rfl rfl (k_callf Try.func11 rfl rfl rfl rfl ?_)
  refine Calls.mono (of_calls _ (hw.sub (by (repeat (first | with_reducible exact Sub.refl _ | exact Sub.nil _ | (apply Sub.cons; focus ((repeat (first | with_reducible exact Pick.here _ | apply Pick.there)); (first | done | fail))) | with_reducible apply Sub.drop)); first | done | fail))) ?_
  rintro _ w ⟨rfl, hw⟩
  refine ⟨_, rfl, ?_⟩
  refine ⟨fun _ => (by first | exact hw | exact Sat.sub hw (by (repeat (first | with_reducible exact Sub.refl _ | exact Sub.nil _ | (apply Sub.cons; focus ((repeat (first | with_reducible exact Pick.here _ | apply Pick.there)); (first | done | fail))) | with_reducible apply Sub.drop)); first | done | fail) | exact Sat.sub (Sat.shrink (Sat.pick hw (by (repeat (first | with_reducible exact Pick.here _ | apply Pick.there)); first | done | fail)) (by assumption)) (by (repeat (first | with_reducible exact Sub.refl _ | exact Sub.nil _ | (apply Sub.cons; focus ((repeat (first | with_reducible exact Pick.here _ | apply Pick.there)); (first | done | fail))) | with_reducible apply Sub.drop)); first | done | fail)), ?_⟩
  refine rs_k 3 rfl rfl (k_callf Try.func10 rfl rfl rfl rfl ?_)
  refine Calls.mono (cput2_calls (s := ⟨2, [], 0, 0⟩) (g := hpOf W) (h := h1) (ofR 1) (ofR_ok _) hn1 Els.nil (by simp) (hw.sub (by (repeat (first | with_reducible exact Sub.refl _ | exact Sub.nil _ | (apply Sub.cons; focus ((repeat (first | with_reducible exact Pick.here _ | apply Pick.there)); (first | done | fail))) | with_reducible apply Sub.drop)); first | done | fail))) ?_
  rw [hput]
  rintro _ w ⟨g1, lv1, cells1, hg1, rfl, hels1, hw⟩
  refine ⟨_, rfl, ?_⟩
  refine ⟨fun hn => absurd (by decide) hn, ?_⟩
  refine rs_kv 4 rfl rfl rfl rfl (S' := fun _ => True) trivial (v_assign rfl) ?_
  refine rs_done (g_le (Fr.le_keep (Fr.le_skip rfl (Fr.le_skip rfl (Fr.le_skip rfl (Fr.le_skip rfl (Fr.le_refl _)))))) ?_)
  have hw := nd_back hA1 (hw.sub (by (repeat (first | with_reducible exact Sub.refl _ | exact Sub.nil _ | (apply Sub.cons; focus ((repeat (first | with_reducible exact Pick.here _ | apply Pick.there)); (first | done | fail))) | with_reducible apply Sub.drop)); first | done | fail))
  refine g_seq ?_
  refine g_region ?_
  refine rl_v rfl rfl rfl (by first | exact sat_cells hw (by (repeat (first | with_reducible exact Pick.here _ | apply Pick.there)); first | done | fail) ⟨rfl, rfl, rfl, trivial⟩ | exact ro_ats hw (by (repeat (first | with_reducible exact Pick.here _ | apply Pick.there)); first | done | fail) (by assumption) | exact own_cells hw (by (repeat (first | with_reducible exact Pick.here _ | apply Pick.there)); first | done | fail) (by assumption) | exact old_cells hw (by (repeat (first | with_reducible exact Pick.here _ | apply Pick.there)); first | done | fail) (by assumption)) (v_loadAgg (vs := [_, _, _]) T.agg_25_3 rfl rfl) ?_
  refine rl_k rfl (k_callf Try.func12 rfl rfl rfl rfl ?_)
  refine Calls.mono (spoil_calls (hw.sub (by (repeat (first | with_reducible exact Sub.refl _ | exact Sub.nil _ | (apply Sub.cons; focus ((repeat (first | with_reducible exact Pick.here _ | apply Pick.there)); (first | done | fail))) | with_reducible apply Sub.drop)); first | done | fail))) ?_
  rintro _ w ⟨rfl, hw⟩
  refine ⟨_, rfl, ?_⟩
  refine rl_nil (g_le (Fr.le_skip rfl (Fr.le_skip rfl (Fr.le_refl _))) ?_)
  refine g_seq ?_
  refine g_region ?_
  refine rl_v rfl rfl rfl (S := fun _ => True) trivial (v_move rfl) ?_
  refine rl_k rfl (k_callf Try.func11 rfl rfl rfl rfl ?_)
  refine Calls.mono (of_calls _ (hw.sub (by (repeat (first | with_reducible exact Sub.refl _ | exact Sub.nil _ | (apply Sub.cons; focus ((repeat (first | with_reducible exact Pick.here _ | apply Pick.there)); (first | done | fail))) | with_reducible apply Sub.drop)); first | done | fail))) ?_
  rintro _ w ⟨rfl, hw⟩
  refine ⟨_, rfl, ?_⟩
  refine rl_k rfl (k_callf Try.func13 rfl rfl rfl rfl ?_)
  refine Calls.mono (cgetYes_calls (s := ⟨2, [⟨ofR 1, n, 0⟩], 0, 0⟩) (ofR 1) 0 (by simp [Ch.pl, idx]) (x := ⟨ofR 1, n, 0⟩) rfl hels1 (by simp) (hw.sub (by (repeat (first | with_reducible exact Sub.refl _ | exact Sub.nil _ | (apply Sub.cons; focus ((repeat (first | with_reducible exact Pick.here _ | apply Pick.there)); (first | done | fail))) | with_reducible apply Sub.drop)); first | done | fail))) ?_
  rw [hhit]
  rintro _ w ⟨lv2, cells2, ev2, kv2, vs2, rfl, hels2, hw⟩
  obtain ⟨a6, c6, rfl, _, _, _⟩ := (hw.pick .at2).own_shape
  obtain ⟨a7, c7, rfl, _, _, _⟩ := (hw.pick .at4).own_shape
  refine ⟨_, rfl, ?_⟩
  refine rl_v rfl rfl rfl (S := fun _ => True) trivial (v_move rfl) ?_
  refine rl_v rfl rfl rfl (S := fun _ => True) trivial (v_extract rfl rfl) ?_
  refine rl_v rfl rfl rfl (S := fun _ => True) trivial (v_extract rfl rfl) ?_
  refine rl_k rfl (k_alloc hw T.zero_25 rfl rfl (fun bk7_6 w hw => ?_))
  first | (refine rl_k rfl (k_storeWhole hw T.agg_25_3 rfl rfl (by simp [Value.oneCell']) rfl (by (repeat (first | with_reducible exact Pick.here _ | apply Pick.there)); first | done | fail) rfl (fun w hw => ?_))) | (refine rl_k rfl (k_storeAgg hw T.agg_25_3 rfl rfl (by simp [Value.oneCell']) rfl (by (repeat (first | with_reducible exact Pick.here _ | apply Pick.there)); first | done | fail) rfl rfl (fun w hw => ?_))) | (refine rl_k rfl (k_storeOwnAgg hw T.agg_25_3 rfl rfl (by simp [Value.oneCell']) rfl (by (repeat (first | with_reducible exact Pick.here _ | apply Pick.there)); first | done | fail) (by assumption) (by omega) (fun w hw => ?_)))
  refine rl_v rfl rfl rfl (S := fun _ => True) trivial (v_assign rfl) ?_
  refine rl_nil (g_le (Fr.le_keep (Fr.le_keep (Fr.le_skip rfl (Fr.le_skip rfl (Fr.le_skip rfl (Fr.le_skip rfl (Fr.le_skip rfl (Fr.le_skip rfl (Fr.le_refl _))))))))) ?_)
  refine g_seq ?_
  refine g_region ?_
  refine rl_v rfl rfl rfl (by first | exact sat_cells hw (by (repeat (first | with_reducible exact Pick.here _ | apply Pick.there)); first | done | fail) ⟨rfl, rfl, rfl, trivial⟩ | exact ro_ats hw (by (repeat (first | with_reducible exact Pick.here _ | apply Pick.there)); first | done | fail) (by assumption) | exact own_cells hw (by (repeat (first | with_reducible exact Pick.here _ | apply Pick.there)); first | done | fail) (by assumption) | exact old_cells hw (by (repeat (first | with_reducible exact Pick.here _ | apply Pick.there)); first | done | fail) (by assumption)) (v_loadAgg (vs := [_, _, _]) T.agg_25_3 rfl rfl) ?_
  refine rl_k rfl (k_callf Try.func12 rfl rfl rfl rfl ?_)
  refine Calls.mono (spoil_calls (hw.sub (by (repeat (first | with_reducible exact Sub.refl _ | exact Sub.nil _ | (apply Sub.cons; focus ((repeat (first | with_reducible exact Pick.here _ | apply Pick.there)); (first | done | fail))) | with_reducible apply Sub.drop)); first | done | fail))) ?_
  rintro _ w ⟨rfl, hw⟩
  refine ⟨_, rfl, ?_⟩
  refine rl_nil (g_le (Fr.le_skip rfl (Fr.le_skip rfl (Fr.le_refl _))) ?_)
  refine g_seq (g_seq ?_)
  refine g_region ?_
  refine rl_v rfl rfl rfl (S := fun _ => True) trivial (v_move rfl) ?_
  refine rl_k rfl (k_callf Try.func14 rfl rfl rfl rfl ?_)
  refine Calls.mono (choldsO_calls hels2 (by simp) (hw.sub (by (repeat (first | with_reducible exact Sub.refl _ | exact Sub.nil _ | (apply Sub.cons; focus ((repeat (first | with_reducible exact Pick.here _ | apply Pick.there)); (first | done | fail))) | with_reducible apply Sub.drop)); first | done | fail))) ?_
  rintro _ w ⟨h2, ha, hn, hk, ps, rfl, hrd, hps, hw⟩
  obtain ⟨rfl, hb1, hc1, hm1, g2⟩ := rdSl_get hrd
  refine ⟨_, rfl, ?_⟩
  refine rl_v rfl rfl rfl (S := fun _ => True) trivial (v_lenSlice T.sl_39_42_8 rfl) ?_
  refine rl_v rfl rfl rfl (S := fun _ => True) trivial (v_move rfl) ?_
  refine rl_nil (g_le (Fr.le_keep (Fr.le_keep (Fr.le_keep (Fr.le_skip rfl (Fr.le_refl _))))) ?_)
  refine g_block ?_
  refine g_loopC (σ := Int) (fun C x => (42, .int .i64 x) :: C) [(1, _), (2, _), (3, _), (6, _), (8, _), (40, _), (41, _)] (by repeat (first | exact Fr.le_nil _ | refine Fr.le_cons rfl ?_)) (fun z w => 0 ≤ z ∧ z ≤ ps.length ∧ Sat (envOf W) w (RO h2 :: eachOf HdOf (ps.drop z.toNat) (ps.drop z.toNat) :: pt bk0_0 (.cells [.bool n.leaf, .slice qa1 qn1 qk1, .slice qa2 qn2 qk2].toArray 25 (0, 0)) :: pt c (.cells [Value.int .i64 (⟨2, [⟨ofR 1, n, 0⟩], 1, 0⟩ : Ch).room, lv2, .int .i64 (⟨2, [⟨ofR 1, n, 0⟩], 1, 0⟩ : Ch).hits, .int .i64 (⟨2, [⟨ofR 1, n, 0⟩], 1, 0⟩ : Ch).misses].toArray 70 (0, 0)) :: OwnSl 42 8 lv2 (⟨2, [⟨ofR 1, n, 0⟩], 1, 0⟩ : Ch).l.length cells2 :: RO g1 :: [])) (fun z => (ps.length - z).toNat) ?_ 0 (by repeat (first | exact Fr.le_nil _ | refine Fr.le_cons rfl ?_)) ⟨by omega, by omega, by simp only [Int.toNat_zero, List.drop_zero]; exact hw.sub (by (repeat (first | with_reducible exact Sub.refl _ | exact Sub.nil _ | (apply Sub.cons; focus ((repeat (first | with_reducible exact Pick.here _ | apply Pick.there)); (first | done | fail))) | with_reducible apply Sub.drop)); first | done | fail)⟩
  rintro i w ⟨hi0, hi1, hw⟩ ih
  simp only [reachBytes] at hb1
  refine g_seq ?_
  refine g_region ?_
  first | (refine rl_v rfl rfl rfl (S := fun _ => True) trivial (v_lssT rfl rfl (by omega)) ?_) | (refine rl_v rfl rfl rfl (S := fun _ => True) trivial (v_lssF rfl rfl (by omega)) ?_) | (refine rl_v rfl rfl rfl (S := fun _ => True) trivial (v_lss rfl rfl) ?_)
  refine rl_nil (g_le (Fr.le_keep (Fr.le_refl _)) ?_)
  refine g_seq ?_
  refine g_cond rfl (fun h2 => ?_) (fun h2 => ?_)
  · try with_reducible exact ft_elim h2
    all_goals
      try replace h2 := of_decide_eq_true h2
      refine g_skip (g_seq (g_block (g_seq ?_)))
      have hz := hw
      clear hw
      obtain ⟨b4, o1, p, ecs, rfl, hx, hat1, hl1, rfl⟩ := g2 i hi0 (by omega)
      have hlt : i.toNat < ps.length := by omega
      have hpx : ps[i.toNat] = p := by rw [List.getElem?_eq_getElem hlt] at hx; exact Option.some.inj hx
      rw [List.drop_eq_getElem_cons hlt, hpx] at hz
      have hw := ho_open (hz.pick .at1)
      obtain ⟨x, pe, pk, pv⟩ := p
      dsimp only at hw hat1
      obtain ⟨a8, c8, rfl, _, _, _⟩ := hw.own_shape
      obtain ⟨a9, c9, rfl, _, _, _⟩ := (hw.pick .at2).own_shape
      refine g_region ?_
      refine rl_v rfl rfl rfl (S := fun _ => True) trivial (v_indexAddr T.sl_39_42_8 rfl rfl (by omega) (by omega)) ?_
      refine rl_v rfl rfl rfl (by first | exact sat_cells hw (by (repeat (first | with_reducible exact Pick.here _ | apply Pick.there)); first | done | fail) ⟨rfl, rfl, rfl, rfl, rfl, rfl, rfl, rfl, trivial⟩ | exact ro_ats hw (by (repeat (first | with_reducible exact Pick.here _ | apply Pick.there)); first | done | fail) (by assumption) | exact own_cells hw (by (repeat (first | with_reducible exact Pick.here _ | apply Pick.there)); first | done | fail) (by assumption) | exact old_cells hw (by (repeat (first | with_reducible exact Pick.here _ | apply Pick.there)); first | done | fail) (by assumption)) (v_loadAgg (vs := [_, _, _, _, _, _, _, _]) T.agg_42_8 rfl rfl) ?_
      refine rl_k rfl (k_alloc hw T.zero_42 rfl rfl (fun bk11_2 w hw => ?_))
      first | (refine rl_k rfl (k_storeWhole hw T.agg_42_8 rfl rfl (by simp [Value.oneCell']) rfl (by (repeat (first | with_reducible exact Pick.here _ | apply Pick.there)); first | done | fail) rfl (fun w hw => ?_))) | (refine rl_k rfl (k_storeAgg hw T.agg_42_8 rfl rfl (by simp [Value.oneCell']) rfl (by (repeat (first | with_reducible exact Pick.here _ | apply Pick.there)); first | done | fail) rfl rfl (fun w hw => ?_))) | (refine rl_k rfl (k_storeOwnAgg hw T.agg_42_8 rfl rfl (by simp [Value.oneCell']) rfl (by (repeat (first | with_reducible exact Pick.here _ | apply Pick.there)); first | done | fail) (by assumption) (by omega) (fun w hw => ?_)))
      refine rl_nil (g_le (Fr.le_keep (Fr.le_keep (Fr.le_keep (Fr.le_refl _)))) ?_)
      refine g_region ?_
      first | (refine rl_v rfl rfl rfl (S := fun _ => True) trivial (v_fieldAddr0 T.fld_42_1_4 rfl) ?_) | (refine rl_v rfl rfl rfl (S := fun _ => True) trivial (v_fieldAddr T.fld_42_1_4 rfl) ?_)
      refine rl_v rfl rfl rfl (by first | exact sat_cells hw (by (repeat (first | with_reducible exact Pick.here _ | apply Pick.there)); first | done | fail) ⟨rfl, rfl, rfl, trivial⟩ | exact ro_ats hw (by (repeat (first | with_reducible exact Pick.here _ | apply Pick.there)); first | done | fail) (by assumption) | exact own_cells hw (by (repeat (first | with_reducible exact Pick.here _ | apply Pick.there)); first | done | fail) (by assumption) | exact old_cells hw (by (repeat (first | with_reducible exact Pick.here _ | apply Pick.there)); first | done | fail) (by assumption)) (v_loadAgg (vs := [_, _, _]) T.agg_25_3 rfl rfl) ?_
      refine rl_k rfl (k_callf Try.func12 rfl rfl rfl rfl ?_)
      refine Calls.mono (spoil_calls (hw.sub (by (repeat (first | with_reducible exact Sub.refl _ | exact Sub.nil _ | (apply Sub.cons; focus ((repeat (first | with_reducible exact Pick.here _ | apply Pick.there)); (first | done | fail))) | with_reducible apply Sub.drop)); first | done | fail))) ?_
      rintro _ w ⟨rfl, hw⟩
      refine ⟨_, rfl, ?_⟩
      refine rl_nil (g_le (Fr.le_skip rfl (Fr.le_keep (Fr.le_keep (Fr.le_refl _)))) ?_)
      refine g_inBlock ?_
      refine g_region ?_
      first | (refine rl_v rfl rfl rfl (S := fun _ => True) trivial (v_add rfl rfl (by omega)) ?_) | (refine rl_v rfl rfl rfl (S := fun _ => True) trivial (v_addW rfl rfl) ?_)
      refine rl_v rfl rfl rfl (S := fun _ => True) trivial (v_move rfl) ?_
      refine rl_nil (g_le (Fr.le_keep (Fr.le_keep (Fr.le_refl _))) ?_)
      exact g_le (by repeat (first | exact Fr.le_nil _ | refine Fr.le_cons rfl ?_)) (ih (i + 1) w ⟨by omega, by omega, by simp only; rw [show (i + 1).toNat = i.toNat + 1 by omega]; exact hw.sub (by (repeat (first | with_reducible exact Sub.refl _ | exact Sub.nil _ | (apply Sub.cons; focus ((repeat (first | with_reducible exact Pick.here _ | apply Pick.there)); (first | done | fail))) | with_reducible apply Sub.drop)); first | done | fail)⟩ (by omega))
  · try with_reducible exact tf_elim h2
    all_goals
      try replace h2 := of_decide_eq_false h2
      refine g_exit rfl (g_seq ?_)
      refine g_region ?_
      refine rl_v rfl rfl rfl (S := fun _ => True) trivial (v_move rfl) ?_
      refine rl_k rfl (k_callf Try.func11 rfl rfl rfl rfl ?_)
      refine Calls.mono (of_calls _ (hw.sub (by (repeat (first | with_reducible exact Sub.refl _ | exact Sub.nil _ | (apply Sub.cons; focus ((repeat (first | with_reducible exact Pick.here _ | apply Pick.there)); (first | done | fail))) | with_reducible apply Sub.drop)); first | done | fail))) ?_
      rintro _ w ⟨rfl, hw⟩
      refine ⟨_, rfl, ?_⟩
      refine rl_k rfl (k_callf Try.func13 rfl rfl rfl rfl ?_)
      refine Calls.mono (cgetYes_calls (s := ⟨2, [⟨ofR 1, n, 0⟩], 1, 0⟩) (ofR 1) 0 (by simp [Ch.pl, idx]) (x := ⟨ofR 1, n, 0⟩) rfl hels2 (by simp) (hw.sub (by (repeat (first | with_reducible exact Sub.refl _ | exact Sub.nil _ | (apply Sub.cons; focus ((repeat (first | with_reducible exact Pick.here _ | apply Pick.there)); (first | done | fail))) | with_reducible apply Sub.drop)); first | done | fail))) ?_
      rintro _ w ⟨lv3, cells3, ev3, kv3, vs3, rfl, hels3, hw⟩
      obtain ⟨g3, hg3, hnd3, hw⟩ := nd_freeze (g := g1) hfn (hw.sub (by (repeat (first | with_reducible exact Sub.refl _ | exact Sub.nil _ | (apply Sub.cons; focus ((repeat (first | with_reducible exact Pick.here _ | apply Pick.there)); (first | done | fail))) | with_reducible apply Sub.drop)); first | done | fail))
      have hz := hw
      clear hw
      obtain ⟨_, _, _, h9, _, h7, h8⟩ := id hnd3
      simp only [List.cons.injEq, and_true] at h9
      obtain ⟨rfl, rfl, rfl⟩ := h9
      obtain ⟨_, _, _, rfl⟩ := rdSl_shape h7
      obtain ⟨_, _, _, rfl⟩ := rdSl_shape h8
      have hw := hz
      refine ⟨_, rfl, ?_⟩
      refine rl_v rfl rfl rfl (S := fun _ => True) trivial (v_move rfl) ?_
      refine rl_v rfl rfl rfl (S := fun _ => True) trivial (v_extract rfl rfl) ?_
      refine rl_v rfl rfl rfl (S := fun _ => True) trivial (v_extract rfl rfl) ?_
      refine rl_k rfl (k_alloc hw T.zero_25 rfl rfl (fun bk14_6 w hw => ?_))
      first | (refine rl_k rfl (k_storeWhole hw T.agg_25_3 rfl rfl (by simp [Value.oneCell']) rfl (by (repeat (first | with_reducible exact Pick.here _ | apply Pick.there)); first | done | fail) rfl (fun w hw => ?_))) | (refine rl_k rfl (k_storeAgg hw T.agg_25_3 rfl rfl (by simp [Value.oneCell']) rfl (by (repeat (first | with_reducible exact Pick.here _ | apply Pick.there)); first | done | fail) rfl rfl (fun w hw => ?_))) | (refine rl_k rfl (k_storeOwnAgg hw T.agg_25_3 rfl rfl (by simp [Value.oneCell']) rfl (by (repeat (first | with_reducible exact Pick.here _ | apply Pick.there)); first | done | fail) (by assumption) (by omega) (fun w hw => ?_)))
      refine rl_v rfl rfl rfl (S := fun _ => True) trivial (v_assign rfl) ?_
      refine rl_nil (g_le (Fr.le_keep (Fr.le_keep (Fr.le_skip rfl (Fr.le_skip rfl (Fr.le_skip rfl (Fr.le_skip rfl (Fr.le_skip rfl (Fr.le_skip rfl (Fr.le_refl _))))))))) ?_)
      refine g_seq ?_
      refine g_region ?_
      refine rl_v rfl rfl rfl (S := fun _ => True) trivial (v_move rfl) ?_
      first | (refine rl_v rfl rfl rfl (S := fun _ => True) trivial (v_eqlT rfl rfl (by first | omega | rfl)) ?_) | (refine rl_v rfl rfl rfl (S := fun _ => True) trivial (v_eqlF rfl rfl (by omega)) ?_) | (refine rl_v rfl rfl rfl (S := fun _ => True) trivial (v_eql rfl rfl) ?_)
      refine rl_v rfl rfl rfl (S := fun _ => True) trivial (v_move rfl) ?_
      first | (refine rl_vg (met_on rfl rfl rfl rfl) rfl rfl (S := fun _ => True) trivial (v_move rfl) ?_) | (refine rl_off (by first | exact met_off rfl rfl rfl rfl rfl | exact met_gone rfl rfl rfl rfl) rfl rfl ?_)
      first | (refine rl_v rfl rfl rfl (S := fun _ => True) trivial (v_pick_true rfl rfl) ?_) | (refine rl_v rfl rfl rfl (S := fun _ => True) trivial (v_pick_false rfl rfl) ?_) | (refine rl_v rfl rfl rfl (S := fun _ => True) trivial (v_pick rfl rfl rfl) ?_)
      refine rl_v rfl rfl rfl (S := fun _ => True) trivial (v_move rfl) ?_
      first | (refine rl_vg (met_on rfl rfl rfl rfl) rfl rfl (S := fun _ => True) trivial (v_move rfl) ?_) | (refine rl_off (by first | exact met_off rfl rfl rfl rfl rfl | exact met_gone rfl rfl rfl rfl) rfl rfl ?_)
      first | (refine rl_v rfl rfl rfl (S := fun _ => True) trivial (v_pick_true rfl rfl) ?_) | (refine rl_v rfl rfl rfl (S := fun _ => True) trivial (v_pick_false rfl rfl) ?_) | (refine rl_v rfl rfl rfl (S := fun _ => True) trivial (v_pick rfl rfl rfl) ?_)
      refine rl_v rfl rfl rfl (S := fun _ => True) trivial (v_move rfl) ?_
      first | (refine rl_vg (met_on rfl rfl rfl rfl) rfl rfl (by first | exact sat_cells hw (by (repeat (first | with_reducible exact Pick.here _ | apply Pick.there)); first | done | fail) ⟨rfl, rfl, rfl, trivial⟩ | exact ro_ats hw (by (repeat (first | with_reducible exact Pick.here _ | apply Pick.there)); first | done | fail) (by assumption) | exact own_cells hw (by (repeat (first | with_reducible exact Pick.here _ | apply Pick.there)); first | done | fail) (by assumption) | exact old_cells hw (by (repeat (first | with_reducible exact Pick.here _ | apply Pick.there)); first | done | fail) (by assumption)) (v_loadAgg (vs := [_, _, _]) T.agg_25_3 rfl rfl) ?_) | (refine rl_off (by first | exact met_off rfl rfl rfl rfl rfl | exact met_gone rfl rfl rfl rfl) rfl rfl ?_)
      first | (refine rl_vg (met_on rfl rfl rfl rfl) rfl rfl (by first | exact sat_cells hw (by (repeat (first | with_reducible exact Pick.here _ | apply Pick.there)); first | done | fail) ⟨rfl, rfl, rfl, trivial⟩ | exact ro_ats hw (by (repeat (first | with_reducible exact Pick.here _ | apply Pick.there)); first | done | fail) (by assumption) | exact own_cells hw (by (repeat (first | with_reducible exact Pick.here _ | apply Pick.there)); first | done | fail) (by assumption) | exact old_cells hw (by (repeat (first | with_reducible exact Pick.here _ | apply Pick.there)); first | done | fail) (by assumption)) (v_loadAgg (vs := [_, _, _]) T.agg_25_3 rfl rfl) ?_) | (refine rl_off (by first | exact met_off rfl rfl rfl rfl rfl | exact met_gone rfl rfl rfl rfl) rfl rfl ?_)
      first | (refine rl_kg (met_on rfl rfl rfl rfl) (k_callf Try.func15 rfl rfl rfl rfl ?_); refine Calls.mono (likeNd_calls (g := g3) hnd3 (mono_Nd (hg1.trans hg3) hr) (hw.sub (by (repeat (first | with_reducible exact Sub.refl _ | exact Sub.nil _ | (apply Sub.cons; focus ((repeat (first | with_reducible exact Pick.here _ | apply Pick.there)); (first | done | fail))) | with_reducible apply Sub.drop)); first | done | fail))) ?_; rw [decide_eq_true rfl]; rintro _ w ⟨rfl, hw⟩; refine ⟨_, rfl, ?_⟩) | (refine rl_off (by first | exact met_off rfl rfl rfl rfl rfl | exact met_gone rfl rfl rfl rfl) rfl rfl ?_)
      first | (refine rl_v rfl rfl rfl (S := fun _ => True) trivial (v_pick_true rfl rfl) ?_) | (refine rl_v rfl rfl rfl (S := fun _ => True) trivial (v_pick_false rfl rfl) ?_) | (refine rl_v rfl rfl rfl (S := fun _ => True) trivial (v_pick rfl rfl rfl) ?_)
      refine rl_v rfl rfl rfl (S := fun _ => True) trivial (v_assign rfl) ?_
      refine rl_nil (g_le (Fr.le_keep (Fr.le_skip rfl (Fr.le_skip rfl (Fr.le_skip rfl (Fr.le_skip rfl (Fr.le_skip rfl (Fr.le_skip rfl (Fr.le_skip rfl (Fr.le_skip rfl (Fr.le_skip rfl (Fr.le_skip rfl (Fr.le_skip rfl (Fr.le_skip rfl (Fr.le_skip rfl (Fr.le_refl _))))))))))))))) ?_)
      refine g_ret1 Try.func3 rfl rfl ?_
      exact ⟨rfl, (hw.sub (by (repeat (first | with_reducible exact Sub.refl _ | exact Sub.nil _ | (apply Sub.cons; focus ((repeat (first | with_reducible exact Pick.here _ | apply Pick.there)); (first | done | fail))) | with_reducible apply Sub.drop)); first | done | fail) : Sat (envOf W) w [RO g3]).shrink (hg1.trans hg3)⟩

set_option maxRecDepth 100000 in
theorem CacheOwn_lifted (os : Os) (started : os.Started) (H : Type) (enc : TypeId × Value → H) :
    ReturnsInHanded {} Try.checked os 3 .any (Rows.cacheOwnSpec.pre6 enc Try.prog Try.f3 Rows.cacheOwnRow.domain false) (Rows.cacheOwnSpec.post enc Try.prog Try.f3 false true false false) := by
  refine returnsInHanded_of_change_sized (C := Try.checked) T.own started (by kernel_rfl) Try.func3
    (ChangeSpec.witness6 (enc := enc) (C := Try.checked) false ⟨#[], #[(.agg #[(.bool false), (.slice none 0 0), (.slice none 0 0)])], []⟩ 8 (by kernel_rfl) (by kernel_rfl) (by kernel_rfl) (by kernel_rfl)) ?_
  intro W base args ds gs before hval0 hW hcnd hsz0 _
  have hval : ∀ (j : Nat) t v, Try.f3.params[j]? = some t → args[j]? = some v → Value.okWide Try.prog W .any base t v := hval0
  have hW' := hW
  obtain ⟨p, q, hA0, hV, rfl, hfz, hnd⟩ := hW
  have hA : DataW.TrodAll enc Try.prog W 0 (fun _ => true) true Try.f3.params.toList args.toList ds p := hA0
  obtain ⟨rfl, rfl⟩ := trodVars_none hV
  have hsz : (DataW.weightsEach Try.prog (Try.f3.params.toList ++ []) (ds ++ [])).all (· ≤ reachBytes) = true := hsz0
  rw [List.append_nil, List.append_nil] at hsz
  rw [Try.params3] at hA hval hsz
  obtain ⟨v0, vs0, d0, ds0, p0, q0, hargs, rfl, rfl, h0, r0⟩ := trodAll_cons hA
  obtain ⟨rfl, rfl, rfl⟩ := trodAll_nil r0
  obtain rfl : args = #[v0] := by cases args; simp_all
  have lt0 : ∀ x ∈ p0, x.block < W.heap.size := by obtain ⟨m, hm⟩ := h0; exact DataW.trod_lt m _ _ _ hm
  obtain ⟨x0, w0⟩ := arg_of (j := 0) reads_Nd h0 hsz rfl rfl
  obtain ⟨cs0, rfl⟩ := okWide_agg T.agg_25_3 (hval 0 25 v0 rfl rfl)
  refine (CacheOwn_law w0).mono fun e W' ⟨he, hb⟩ => ?_
  have bel := hb.below
  subst he
  exact ⟨_, rfl, _, _, _, [], _, [], hW', trodAll_mk1 (shut_bool Try.underlying4 _), (trodAll_cons_mk (Below.trod T.laidOut (by kernel_rfl) (of_decide_eq_true (by kernel_rfl)) h0 bel lt0) trodAll_mk0), rfl, bel.frame _, fun h => by cases h⟩
theorem CacheOwn_holds : Rows.CacheOwnSaid :=
  OpenClaim.holds_of_wide 3 Try.f3 rfl rfl rfl rfl rfl rfl rfl ⟨rfl, rfl, rfl, rfl, rfl⟩ rfl rfl rfl rfl rfl (by kernel_rfl) Try.func3 (by kernel_rfl)
    (of_decide_eq_true (by kernel_rfl)) (by unfold Func.isWrapper; rw [if_neg (of_decide_eq_false (by kernel_rfl))]; exact ⟨rfl, rfl⟩)
    (fun os started H enc _ => CacheOwn_lifted os started H enc)
#print axioms CacheOwn_holds
end Go.Proofs.Ytnkddbbcfolcdaa
