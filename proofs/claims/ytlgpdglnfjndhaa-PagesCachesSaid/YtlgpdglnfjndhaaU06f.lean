/-
  A tree's pages (layer 6): kids, nodes out of terms; sealed bytes opened.
-/
import Derived.Test.YtlgpdglnfjndhaaU06e
namespace Go.Proofs.Ytlgpdglnfjndhaa
set_option maxRecDepth 8000
set_option linter.unusedSimpArgs false
set_option linter.unusedVariables false
open Go Xe Go.Lib
theorem u64_wf6 {n : Int} (h : 0 ≤ n ∧ n ≤ 18446744073709551615) : (Lit.int .u64 n).wf = true := by
  have e1 : IntKind.u64.min = 0 := rfl
  have e2 : IntKind.u64.max = 18446744073709551615 := rfl
  simp only [Lit.wf, e1, e2, Bool.and_eq_true, decide_eq_true_eq]
  omega
theorem ord_f84_r4_U06f : orderOfB Try.f84 4 [23] (.a 0 (.a 2 (.a 3 (.a 4 (.a 6 (.a 7 (.a 8 (.a 11 (.a 12 (.a 13 (.a 16 (.a 17 (.a 18 (.v 1 (.v 5 (.v 9 (.v 14 (.v 19 (.k 10 (.k 15 (.k 20 (.k 21 (.k 22 (.k 23 .done)))))))))))))))))))))))) = true := by kernel_rfl
set_option maxHeartbeats 2000000 in
theorem kid6_calls {E : Env} {w : World} {L : List As} {g : Hp} {p : Nat} {bad : Bool} {cs : List Value} {t : Tm} (ht : rdTm g cs t) (hw : Sat E w (RbAt p bad :: RO g :: L)) :
    Calls Try.prog 84 #[.pointer (some ⟨p, 0, none⟩), .agg cs.toArray] w fun e w' => e = .returned (.agg (kidR bad t).1.cells.toArray) ∧ (kidR bad t).1.ok ∧ Sat E w' (RbAt p (kidR bad t).2 :: RO g :: L) := by
  obtain ⟨a, c, rfl, _, hl⟩ := tm_shape ht
  unfold kidR
  refine calls_of_g (n := 50) Try.func84 rfl rfl rfl ?_
  change G _ _ _ _ _ [(0, _), (1, _)] _
  refine g_seq ?_
  refine g_region ?_
  refine rl_k rfl (k_box hw rfl rfl rfl (fun bk0_0 w hw => ?_))
  refine rl_k rfl (k_alloc hw T.zero_101 rfl rfl (fun bk0_1 w hw => ?_))
  refine rl_nil (g_le (xK (xK (Fr.le_refl _))) ?_)
  refine g_seq ?_
  refine g_region ?_
  refine xV rfl rfl rfl (v_move rfl) ?_
  refine rl_v rfl rfl rfl (by exact sat_cells hw (by (repeat first | with_reducible exact xH | apply xT); first | done | fail) ⟨rfl, rfl, rfl, rfl, trivial⟩) (v_loadAgg (vs := [_, _, _, _]) T.agg_111_4 rfl rfl) ?_
  refine rl_k rfl (k_callf Try.func81 rfl rfl rfl rfl ?_)
  refine Calls.mono (rest_calls 2 ht (hw.xQ)) ?_
  generalize restT bad t 2 = rr
  obtain ⟨nm, l, bad⟩ := rr
  dsimp only
  rintro _ w ⟨cs1, sa, sc, rfl, hrn, hl2, hw⟩
  have hz := hw
  clear hw
  obtain ⟨ya, yc, rfl, hnb, _⟩ := tm_shape hrn
  obtain ⟨_, hb1, hc1, hmx, g1⟩ := rdSl_get hl2
  simp only [reachBytes] at hb1
  have hw := hz
  clear hz
  refine ⟨_, rfl, ?_⟩
  refine xV rfl rfl rfl (v_move rfl) ?_
  refine xV rfl rfl rfl (v_extract rfl rfl) ?_
  refine xV rfl rfl rfl (v_extract rfl rfl) ?_
  refine rl_k rfl (k_alloc hw T.zero_111 rfl rfl (fun bk1_6 w hw => ?_))
  refine rl_k rfl (k_storeWhole hw T.agg_111_4 rfl rfl (by simp [Value.oneCell']) rfl (by (repeat first | with_reducible exact xH | apply xT); first | done | fail) rfl (fun w hw => ?_))
  refine xV rfl rfl rfl (v_assign rfl) ?_
  refine rl_nil (g_le (xK (xK (xS rfl (xS rfl (xS rfl (xS rfl (xS rfl (xS rfl (Fr.le_refl _))))))))) ?_)
  obtain ⟨P, hP⟩ : ∃ P, P = decide (l.length = 4 ∧ (tmAt l (0 : Int).toNat).kind = 3) := ⟨_, rfl⟩
  refine g_seq (g_seq ?_)
  refine g_cutc (σ := Bool) (fun C x => (25, .bool x) :: C) [(0, _), (4, _), (5, _), (6, _)] (by repeat (first | exact Fr.le_nil _ | refine Fr.le_cons rfl ?_)) (fun z w => z = (bad || !P) ∧ Sat E w (RbAt p (bad || !P) :: pt bk1_6 (.cells (tmC nm.kind nm.num nm.bytes (.slice ya nm.list.length yc)).toArray 111 (0, 0)) :: pt bk0_1 (.cells [Value.string ByteArray.empty, .int .u64 0, .int .i64 0, .int .i64 0, .int .i64 0].toArray 101 (0, 0)) :: RO g :: L)) ?_ ?_
  · skip
    clear hw
    rintro _ w ⟨rfl, hw⟩
    all_goals
      refine g_cond rfl (fun h1 => ?_) (fun h1 => ?_)
      · try with_reducible exact ft_elim h1
        all_goals
          try replace h1 := of_decide_eq_true h1
          rw [h1] at hw
          have hPt : ¬ (bad = false ∧ l.length = 4 ∧ (tmAt l 0).kind = 3) := fun ⟨q1, q2, q3⟩ => by rw [q1, show P = true from hP.trans (decide_eq_true ⟨q2, q3⟩)] at h1; cases h1
          rw [if_neg hPt]
          refine g_seq ?_
          refine g_region ?_
          refine xV rfl rfl rfl (v_build rfl (T.build_101 ..)) ?_
          refine rl_k rfl (k_storeWhole hw T.agg_101_5 rfl rfl (by simp [Value.oneCell']) rfl (by (repeat first | with_reducible exact xH | apply xT); first | done | fail) rfl (fun w hw => ?_))
          refine rl_nil (g_le (xS rfl (Fr.le_refl _)) ?_)
          refine g_resC Try.func84 rfl ⟨_, rfl, holds_agg (vs := [_, _, _, _, _]) T.agg_101_5 rfl (by exact sat_cells hw (by (repeat first | with_reducible exact xH | apply xT); first | done | fail) ⟨rfl, rfl, rfl, rfl, rfl, trivial⟩)⟩ ?_
          exact ⟨rfl, ⟨by simp [kd00], by decide, by decide, by decide, by decide⟩, hw.xQ⟩
      · try with_reducible exact tf_elim h1
        all_goals
          try replace h1 := of_decide_eq_false h1
          rw [h1] at hw
          have hz := hw
          clear hw
          obtain ⟨rfl, rfl⟩ := nb_t (a := bad) (b := P) (by rw [h1]; rfl)
          obtain ⟨p1, p2⟩ := of_decide_eq_true hP.symm
          rw [if_pos ⟨rfl, p1, p2⟩]
          obtain ⟨b5, o5, x0a, x0c, hxa, hat5, hrd5⟩ := tm_at hl2 0 (by omega) (by omega)
          obtain ⟨b6, o6, x1a, x1c, hxa6, hat6, hrd6⟩ := tm_at hl2 1 (by omega) (by omega)
          obtain ⟨b7, o7, x2a, x2c, hxa7, hat7, hrd7⟩ := tm_at hl2 2 (by omega) (by omega)
          obtain ⟨b8, o8, x3a, x3c, hxa8, hat8, hrd8⟩ := tm_at hl2 3 (by omega) (by omega)
          rw [hxa] at hxa6 hxa7 hxa8
          simp only [Option.some.injEq, Addr.mk.injEq, and_true] at hxa6 hxa7 hxa8
          obtain ⟨rfl, rfl⟩ := hxa6
          obtain ⟨rfl, rfl⟩ := hxa7
          obtain ⟨rfl, rfl⟩ := hxa8
          subst hxa
          rw [show (0 : Int).toNat = 0 from rfl] at hrd5
          rw [show (1 : Int).toNat = 1 from rfl] at hrd6
          rw [show (2 : Int).toNat = 2 from rfl] at hrd7
          rw [show (3 : Int).toNat = 3 from rfl] at hrd8
          have hw := hz
          clear hz
          refine g_skip (g_seq ?_)
          have hw := (hw.xP (A := pt bk0_1 _)).xP (A := RbAt p false)
          refine g_drawB ord_f84_r4_U06f (by kernel_rfl) T.mixed (fun w hw => ((hw.pick .at0).drop.pick .at0).drop) hw (fun w hw => ?_)
          refine rs_a 0 rfl rfl rfl rfl (v_fieldAddr0 T.fld_111_2_2 rfl) ?_
          refine rs_a 2 rfl rfl rfl rfl (v_move rfl) ?_
          refine rs_a 3 rfl rfl rfl rfl (v_indexAddr T.sl_109_111_4 rfl rfl (by omega) (by omega)) ?_
          refine rs_a 4 rfl rfl rfl rfl (v_fieldAddr T.fld_111_1_1 rfl) ?_
          refine rs_a 6 rfl rfl rfl rfl (v_move rfl) ?_
          refine rs_a 7 rfl rfl rfl rfl (v_move rfl) ?_
          refine rs_a 8 rfl rfl rfl rfl (v_indexAddr T.sl_109_111_4 rfl rfl (by omega) (by omega)) ?_
          refine rs_a 11 rfl rfl rfl rfl (v_move rfl) ?_
          refine rs_a 12 rfl rfl rfl rfl (v_move rfl) ?_
          refine rs_a 13 rfl rfl rfl rfl (v_indexAddr T.sl_109_111_4 rfl rfl (by omega) (by omega)) ?_
          refine rs_a 16 rfl rfl rfl rfl (v_move rfl) ?_
          refine rs_a 17 rfl rfl rfl rfl (v_move rfl) ?_
          refine rs_a 18 rfl rfl rfl rfl (v_indexAddr T.sl_109_111_4 rfl rfl (by omega) (by omega)) ?_
          refine rs_v 1 rfl rfl rfl rfl (OpV.mono (v_load T.scal_9 rfl) (fun w hw => by exact sat_cell hw (by (repeat first | with_reducible exact xH | apply xT); first | done | fail) rfl)) (by exact Sat.sub hw (by (repeat (first | with_reducible exact Sub.refl _ | exact Sub.nil _ | (apply Sub.cons; focus ((repeat (first | with_reducible exact Pick.here _ | apply Pick.there)); (first | done | fail))) | with_reducible apply Sub.drop)); first | done | fail)) ?_
          refine rs_v 5 rfl rfl rfl rfl (OpV.mono (v_load T.scal_49 rfl) (fun w hw => by exact ro_at hw (by (repeat first | with_reducible exact xH | apply xT); first | done | fail) (by assumption) rfl)) (by exact Sat.sub hw (by (repeat (first | with_reducible exact Sub.refl _ | exact Sub.nil _ | (apply Sub.cons; focus ((repeat (first | with_reducible exact Pick.here _ | apply Pick.there)); (first | done | fail))) | with_reducible apply Sub.drop)); first | done | fail)) ?_
          refine rs_v 9 rfl rfl rfl rfl (OpV.mono (v_loadAgg (vs := [_, _, _, _]) T.agg_111_4 rfl rfl) (fun w hw => by exact ro_ats hw (by (repeat first | with_reducible exact xH | apply xT); first | done | fail) (by assumption))) (by exact Sat.sub hw (by (repeat (first | with_reducible exact Sub.refl _ | exact Sub.nil _ | (apply Sub.cons; focus ((repeat (first | with_reducible exact Pick.here _ | apply Pick.there)); (first | done | fail))) | with_reducible apply Sub.drop)); first | done | fail)) ?_
          refine rs_v 14 rfl rfl rfl rfl (OpV.mono (v_loadAgg (vs := [_, _, _, _]) T.agg_111_4 rfl rfl) (fun w hw => by exact ro_ats hw (by (repeat first | with_reducible exact xH | apply xT); first | done | fail) (by assumption))) (by exact Sat.sub hw (by (repeat (first | with_reducible exact Sub.refl _ | exact Sub.nil _ | (apply Sub.cons; focus ((repeat (first | with_reducible exact Pick.here _ | apply Pick.there)); (first | done | fail))) | with_reducible apply Sub.drop)); first | done | fail)) ?_
          refine rs_v 19 rfl rfl rfl rfl (OpV.mono (v_loadAgg (vs := [_, _, _, _]) T.agg_111_4 rfl rfl) (fun w hw => by exact ro_ats hw (by (repeat first | with_reducible exact xH | apply xT); first | done | fail) (by assumption))) (by exact Sat.sub hw (by (repeat (first | with_reducible exact Sub.refl _ | exact Sub.nil _ | (apply Sub.cons; focus ((repeat (first | with_reducible exact Pick.here _ | apply Pick.there)); (first | done | fail))) | with_reducible apply Sub.drop)); first | done | fail)) ?_
          refine rs_k 10 rfl rfl (k_callf Try.func95 rfl rfl rfl rfl ?_)
          refine Calls.mono (number6_calls hrd6 (hw.xQ)) ?_
          rintro _ w ⟨rfl, hw⟩
          refine ⟨_, rfl, ?_⟩
          refine ⟨fun _ => (by exact Sat.sub hw (by (repeat (first | with_reducible exact Sub.refl _ | exact Sub.nil _ | (apply Sub.cons; focus ((repeat (first | with_reducible exact Pick.here _ | apply Pick.there)); (first | done | fail))) | with_reducible apply Sub.drop)); first | done | fail)), ?_⟩
          refine rs_k 15 rfl rfl (k_callf Try.func95 rfl rfl rfl rfl ?_)
          refine Calls.mono (number6_calls hrd7 (hw.xQ)) ?_
          rintro _ w ⟨rfl, hw⟩
          refine ⟨_, rfl, ?_⟩
          refine ⟨fun _ => (by exact Sat.sub hw (by (repeat (first | with_reducible exact Sub.refl _ | exact Sub.nil _ | (apply Sub.cons; focus ((repeat (first | with_reducible exact Pick.here _ | apply Pick.there)); (first | done | fail))) | with_reducible apply Sub.drop)); first | done | fail)), ?_⟩
          refine rs_k 20 rfl rfl (k_callf Try.func95 rfl rfl rfl rfl ?_)
          refine Calls.mono (number6_calls hrd8 (hw.xQ)) ?_
          rintro _ w ⟨rfl, hw⟩
          refine ⟨_, rfl, ?_⟩
          refine ⟨fun _ => (by exact Sat.sub hw (by (repeat (first | with_reducible exact Sub.refl _ | exact Sub.nil _ | (apply Sub.cons; focus ((repeat (first | with_reducible exact Pick.here _ | apply Pick.there)); (first | done | fail))) | with_reducible apply Sub.drop)); first | done | fail)), ?_⟩
          refine rs_kv 21 rfl rfl rfl rfl (S' := fun _ => True) trivial (v_build rfl (T.build_51_0_1_2_3 ..)) ?_
          refine rs_kv 22 rfl rfl rfl rfl (S' := fun _ => True) trivial (v_build rfl (T.build_101_0_1 ..)) ?_
          refine rs_k 23 rfl rfl (k_storeWhole hw T.agg_101_5 rfl rfl (by simp [Value.oneCell']) rfl (by (repeat first | with_reducible exact xH | apply xT); first | done | fail) rfl (fun w hw => ?_))
          refine ⟨fun hn => absurd (by decide) hn, ?_⟩
          refine rs_done (g_le (xS rfl (xS rfl (xS rfl (xS rfl (xS rfl (xS rfl (xS rfl (xS rfl (xS rfl (xS rfl (xS rfl (xS rfl (xS rfl (xS rfl (xS rfl (xS rfl (xS rfl (xS rfl (xS rfl (xS rfl (xS rfl (xS rfl (xS rfl (Fr.le_refl _)))))))))))))))))))))))) ?_)
          refine g_resC Try.func84 rfl ⟨_, rfl, holds_agg (vs := [_, _, _, _, _]) T.agg_101_5 rfl (by exact sat_cells hw (by (repeat first | with_reducible exact xH | apply xT); first | done | fail) ⟨rfl, rfl, rfl, rfl, rfl, trivial⟩)⟩ ?_
          obtain ⟨_, _, _, ⟨u0, u1, _⟩, _⟩ := tm_shape hrd5
          exact ⟨rfl, ⟨hnb.2.2.2.2, u64_wf6 ⟨u0, u1⟩, i64_wf6 (numR_le _ _ (tm_bnd hrd6).1), i64_wf6 (numR_le _ _ (tm_bnd hrd7).1), i64_wf6 (numR_le _ _ (tm_bnd hrd8).1)⟩, hw.xQ⟩
  · intro joins2
    refine g_region ?_
    refine xV rfl rfl rfl (v_move rfl) ?_
    refine xV rfl rfl rfl (v_move rfl) ?_
    refine xV rfl rfl rfl (v_lenSlice T.sl_109_111_4 rfl) ?_
    refine xV rfl rfl rfl (v_eql rfl rfl) ?_
    refine xV rfl rfl rfl (v_move rfl) ?_
    refine rl_split (s := 17) rfl (fun g2_4 => ?_) (fun g2_4 => ?_)
    · try with_reducible exact ft_elim g2_4
      all_goals
        try replace g2_4 := of_decide_eq_true g2_4
        have hz := hw
        clear hw
        obtain ⟨b4, o1, xa, xc, rfl, hat1, hrd⟩ := tm_at hl2 0 (by omega) (by omega)
        have hw := hz
        clear hz
        refine rl_vg (met_on rfl rfl rfl rfl) rfl rfl (S := fun _ => True) trivial (v_move rfl) ?_
        refine rl_vg (met_on rfl rfl rfl rfl) rfl rfl (S := fun _ => True) trivial (v_indexAddr T.sl_109_111_4 rfl rfl (by omega) (by omega)) ?_
        refine rl_vg (met_on rfl rfl rfl rfl) rfl rfl (S := fun _ => True) trivial (v_fieldAddr T.fld_111_0_0 rfl) ?_
        refine rl_vg (met_on rfl rfl rfl rfl) rfl rfl (by exact ro_at0 hw (by (repeat first | with_reducible exact xH | apply xT); first | done | fail) (by assumption) rfl) (v_load T.scal_3 rfl) ?_
        refine rl_vg (met_on rfl rfl rfl rfl) rfl rfl (S := fun _ => True) trivial (v_eql rfl rfl) ?_
        refine xV rfl rfl rfl (v_pick_true rfl rfl) ?_
        refine rl_k rfl (k_callf Try.func82 rfl rfl rfl rfl ?_)
        refine Calls.mono (want_eq _ P (by rw [hP]; exact decide_eq_decide.2 (by omega)) (hw.xQ)) ?_
        rintro _ w ⟨rfl, hw⟩
        refine ⟨_, rfl, ?_⟩
        refine xV rfl rfl rfl (v_not rfl) ?_
        refine rl_nil (g_le (xK (xS rfl (xS rfl (xS rfl (xS rfl (xS rfl (xS rfl (xS rfl (xS rfl (xS rfl (xS rfl (xS rfl (xS rfl (xS rfl (Fr.le_refl _))))))))))))))) ?_)
        exact joins2 _ w _ (by repeat (first | exact Fr.le_nil _ | refine Fr.le_cons rfl ?_)) ⟨by cases bad <;> cases P <;> rfl, hw.xQ⟩
    · try with_reducible exact tf_elim g2_4
      all_goals
        try replace g2_4 := of_decide_eq_false g2_4
        refine rl_off (met_off rfl rfl rfl rfl rfl) rfl rfl ?_
        refine rl_off (met_off rfl rfl rfl rfl rfl) rfl rfl ?_
        refine rl_off (met_off rfl rfl rfl rfl rfl) rfl rfl ?_
        refine rl_off (met_off rfl rfl rfl rfl rfl) rfl rfl ?_
        refine rl_off (met_off rfl rfl rfl rfl rfl) rfl rfl ?_
        refine xV rfl rfl rfl (v_pick_false rfl rfl) ?_
        refine rl_k rfl (k_callf Try.func82 rfl rfl rfl rfl ?_)
        refine Calls.mono (want_eq _ P (by rw [hP]; exact (decide_eq_false (by omega)).symm) (hw.xQ)) ?_
        rintro _ w ⟨rfl, hw⟩
        refine ⟨_, rfl, ?_⟩
        refine xV rfl rfl rfl (v_not rfl) ?_
        refine rl_nil (g_le (xK (xS rfl (xS rfl (xS rfl (xS rfl (xS rfl (xS rfl (xS rfl (xS rfl (xS rfl (xS rfl (xS rfl (xS rfl (xS rfl (Fr.le_refl _))))))))))))))) ?_)
        exact joins2 _ w _ (by repeat (first | exact Fr.le_nil _ | refine Fr.le_cons rfl ?_)) ⟨by cases bad <;> cases P <;> rfl, hw.xQ⟩
def rawL (leaf : Bool) : Bool → List Tm → List En → List Kd → List En × List Kd × Bool
  | bad, [], es, ks => (es, ks, bad)
  | bad, x :: xs, es, ks => if leaf = true then rawL leaf (entryR bad x).2 xs (es ++ [(entryR bad x).1]) ks else rawL leaf (kidR bad x).2 xs es (ks ++ [(kidR bad x).1])
theorem rawL_leaf : ∀ (l : List Tm) (bad : Bool) (es : List En) (ks : List Kd), rawL true bad l es ks = ((entsR bad l es).1, ks, (entsR bad l es).2)
  | [], _, _, _ => rfl
  | x :: xs, bad, es, ks => by simp only [rawL, entsR, if_true]; exact rawL_leaf xs _ _ _
theorem rawL_kids : ∀ (l : List Tm) (bad : Bool) (es : List En) (ks : List Kd), rawL false bad l es ks = (es, (kidsR bad l ks).1, (kidsR bad l ks).2)
  | [], _, _, _ => rfl
  | x :: xs, bad, es, ks => by simp only [rawL, kidsR]; rw [if_neg (by simp)]; exact rawL_kids xs _ _ _
theorem rawN_L (t : Tm) : rawN t = (⟨decide ((restT false t 1).1.num = 1), (rawL (decide ((restT false t 1).1.num = 1)) (bad1 t) (restT false t 1).2.1 [] []).1, (rawL (decide ((restT false t 1).1.num = 1)) (bad1 t) (restT false t 1).2.1 [] []).2.1⟩, (rawL (decide ((restT false t 1).1.num = 1)) (bad1 t) (restT false t 1).2.1 [] []).2.2) := by
  unfold rawN
  by_cases h : (restT false t 1).1.num = 1
  · rw [if_pos h, decide_eq_true h, rawL_leaf]
  · rw [if_neg h, decide_eq_false h, rawL_kids]
theorem rawL_cons (leaf bad : Bool) (x : Tm) (xs : List Tm) (es : List En) (ks : List Kd) : rawL leaf bad (x :: xs) es ks = if leaf = true then rawL leaf (entryR bad x).2 xs (es ++ [(entryR bad x).1]) ks else rawL leaf (kidR bad x).2 xs es (ks ++ [(kidR bad x).1]) := rfl
theorem nd0_fine6 : nd0.fine := by simp [Nd.fine, nd0]
theorem own_nd6 {E : Env} {w : World} {L : List As} (h : Sat E w L) : Sat E w (OwnSl 126 2 (.slice none 0 0) (nd0).entries.length (enCells (nd0).entries []) :: eachOf VnsOf [] (nd0).entries :: KdsAt (.slice none 0 0) (nd0).kids :: L) :=
  (((h.own_nil 101 5).each_nil (A := VnsOf)).own_nil 126 2)
theorem nd_back {E : Env} {w : World} {L : List As} {h' : Hp} {ev kv : Value} {vs : List Value} {x : Nd} (hA : stars (OwnSl 126 2 ev (x).entries.length (enCells (x).entries vs) :: eachOf VnsOf vs (x).entries :: KdsAt kv (x).kids :: []) h') (h : Sat E w (RO h' :: L)) : Sat E w (OwnSl 126 2 ev (x).entries.length (enCells (x).entries vs) :: eachOf VnsOf vs (x).entries :: KdsAt kv (x).kids :: L) :=
  Sat.flat (X := OwnSl 126 2 ev (x).entries.length (enCells (x).entries vs) :: eachOf VnsOf vs (x).entries :: KdsAt kv (x).kids :: []) (Sat.back hA h)
theorem each_mem {E : Env} {w : World} : ∀ {vs : List Value} {es : List En} {L : List As} {v : Value}, Sat E w (eachOf VnsOf vs es :: L) → v ∈ vs → v.oneCell' = true
  | [], _, _, _, _, h => by cases h
  | _ :: _, [], _, _, h, _ => h.fls.elim
  | v :: vs, e :: es, L, u, h, hu => by
    have h1 : Sat E w (VnsOf v e :: eachOf VnsOf vs es :: L) := Sat.each_cons.1 h
    rcases List.mem_cons.1 hu with rfl | hu
    · obtain ⟨a, c, rfl, _⟩ := h1.own_shape
      simp [Value.oneCell']
    · exact each_mem h1.drop hu
theorem en_ones : ∀ {es : List En} {vs : List Value}, es.length = vs.length → (∀ v ∈ vs, v.oneCell' = true) → ∀ u ∈ enCells es vs, u.oneCell' = true
  | [], _, _, _, u, hu => by simp [enCells] at hu
  | e :: es, [], h, _, _, _ => by simp at h
  | e :: es, v :: vs, h, hv, u, hu => by
    simp only [enCells, List.mem_cons] at hu
    rcases hu with rfl | rfl | hu
    · simp [Value.oneCell']
    · exact hv _ (by simp)
    · exact en_ones (by simpa using h) (fun v hm => hv v (by simp [hm])) u hu
theorem ord_f58_r14_U06f : orderOfB Try.f58 14 [6, 8] (.a 0 (.a 2 (.v 1 (.k 3 (.k 4 (.k 5 (.k 6 (.k 7 (.k 8 .done))))))))) = true := by kernel_rfl
theorem ord_f58_r15_U06f : orderOfB Try.f58 15 [6, 8] (.a 0 (.a 2 (.v 1 (.k 3 (.k 4 (.k 5 (.k 6 (.k 7 (.k 8 .done))))))))) = true := by kernel_rfl
set_option maxHeartbeats 4000000 in
theorem from_calls {E : Env} {w : World} {L : List As} {g : Hp} {cs : List Value} {t : Tm} (q : Qt) (ht : rdTm g cs t) (hw : Sat E w (RO g :: L)) :
    Calls Try.prog 58 #[q.v, .agg cs.toArray] w fun e w' => ∃ ev kv vs, e = .returned (.tuple #[.agg #[.bool (fromN q t).1.leaf, ev, kv], .int .i64 (fromN q t).2]) ∧ (fromN q t).1.fine ∧ Sat E w' (OwnSl 126 2 ev ((fromN q t).1).entries.length (enCells ((fromN q t).1).entries vs) :: eachOf VnsOf vs ((fromN q t).1).entries :: KdsAt kv ((fromN q t).1).kids :: RO g :: L) := by
  obtain ⟨a, c, rfl, _, hl⟩ := tm_shape ht
  have hrq := right_iff q
  unfold fromN
  rw [rawN_L]
  have hb1 : bad1 t = ((restT false t 1).2.2 || !(decide ((restT false t 1).1.num = 1) || decide ((restT false t 1).1.num = 2))) := rfl
  generalize bad1 t = bd1 at hb1 ⊢
  have hrest := fun {E : Env} {w : World} {L : List As} {p : Nat} => rest_calls (E := E) (w := w) (L := L) (p := p) (bad := false) 1 ht
  generalize restT false t 1 = rr at hb1 hrest ⊢
  obtain ⟨hd, l, b0⟩ := rr
  dsimp only at hb1 hrest ⊢
  refine calls_of_g (n := 84) Try.func58 rfl rfl rfl ?_
  change G _ _ _ _ _ [(0, _), (1, _)] _
  refine g_seq ?_
  refine g_region ?_
  refine rl_k rfl (k_box hw rfl rfl rfl (fun bk0_0 w hw => ?_))
  refine rl_k rfl (k_box hw rfl rfl rfl (fun bk0_1 w hw => ?_))
  refine rl_k rfl (k_alloc hw T.zero_48 rfl rfl (fun bk0_2 w hw => ?_))
  refine xV rfl rfl rfl (v_assign rfl) ?_
  refine rl_nil (g_le (xK (xK (xK (xK (Fr.le_refl _))))) ?_)
  refine g_seq (g_seq ?_)
  refine g_region ?_
  refine rl_v rfl rfl rfl (by exact sat_cells hw (by (repeat first | with_reducible exact xH | apply xT); first | done | fail) ⟨rfl, rfl, rfl, rfl, rfl, rfl, rfl, trivial⟩) (v_loadAgg (vs := [_, _, _, _, _, _, _]) T.agg_23_7 rfl rfl) ?_
  refine rl_k rfl (k_callf Try.func42 rfl rfl rfl rfl ?_)
  refine Calls.mono (right_calls q (hw.xQ)) ?_
  rintro _ w ⟨rfl, hw⟩
  refine ⟨_, rfl, ?_⟩
  refine xV rfl rfl rfl (v_neq rfl rfl) ?_
  refine rl_nil (g_le (xK (xS rfl (xS rfl (Fr.le_refl _)))) ?_)
  refine g_cond rfl (fun h1 => ?_) (fun h1 => ?_)
  · try with_reducible exact ft_elim h1
    all_goals
      try replace h1 := of_decide_eq_true h1
      refine g_seq ?_
      refine g_region ?_
      refine xV rfl rfl rfl (v_build rfl (T.build_48 ..)) ?_
      refine rl_k rfl (k_storeWhole hw T.agg_48_3 rfl rfl (by simp [Value.oneCell']) rfl (by (repeat first | with_reducible exact xH | apply xT); first | done | fail) rfl (fun w hw => ?_))
      refine xV rfl rfl rfl (v_assign rfl) ?_
      refine rl_nil (g_le (xK (xS rfl (Fr.le_refl _))) ?_)
      refine g_res2 Try.func58 rfl ⟨_, rfl, holds_agg (vs := [_, _, _]) T.agg_48_3 rfl (by exact sat_cells hw (by (repeat first | with_reducible exact xH | apply xT); first | done | fail) ⟨rfl, rfl, rfl, trivial⟩)⟩ rfl ?_
      rw [if_pos (hrq.1 h1)]
      exact ⟨.slice none 0 0, .slice none 0 0, [], rfl, nd0_fine6, own_nd6 (hw.xQ)⟩
  · try with_reducible exact tf_elim h1
    all_goals
      try replace h1 := of_decide_eq_false h1
      rw [if_neg (fun h => h1 (hrq.2 h))]
      refine g_skip (g_seq (g_seq ?_))
      refine g_region ?_
      refine rl_v rfl rfl rfl (by exact sat_cells hw (by (repeat first | with_reducible exact xH | apply xT); first | done | fail) ⟨rfl, rfl, rfl, rfl, trivial⟩) (v_loadAgg (vs := [_, _, _, _]) T.agg_111_4 rfl rfl) ?_
      refine rl_k rfl (k_callf Try.func80 rfl rfl rfl rfl ?_)
      refine Calls.mono (tright_calls ht (hw.xQ)) ?_
      rintro _ w ⟨rfl, hw⟩
      refine ⟨_, rfl, ?_⟩
      refine xV rfl rfl rfl (v_assign rfl) ?_
      refine rl_nil (g_le (xK (xS rfl (xS rfl (Fr.le_refl _)))) ?_)
      refine g_seq ?_
      refine g_region ?_
      refine xV rfl rfl rfl (v_move rfl) ?_
      refine xV rfl rfl rfl (v_neq rfl rfl) ?_
      refine rl_nil (g_le (xK (xS rfl (Fr.le_refl _))) ?_)
      refine g_cond rfl (fun h2 => ?_) (fun h2 => ?_)
      · try with_reducible exact ft_elim h2
        all_goals
          try replace h2 := of_decide_eq_true h2
          refine g_seq ?_
          refine g_region ?_
          refine xV rfl rfl rfl (v_build rfl (T.build_48 ..)) ?_
          refine xV rfl rfl rfl (v_move rfl) ?_
          refine rl_k rfl (k_storeWhole hw T.agg_48_3 rfl rfl (by simp [Value.oneCell']) rfl (by (repeat first | with_reducible exact xH | apply xT); first | done | fail) rfl (fun w hw => ?_))
          refine xV rfl rfl rfl (v_assign rfl) ?_
          refine rl_nil (g_le (xK (xS rfl (xS rfl (Fr.le_refl _)))) ?_)
          refine g_res2 Try.func58 rfl ⟨_, rfl, holds_agg (vs := [_, _, _]) T.agg_48_3 rfl (by exact sat_cells hw (by (repeat first | with_reducible exact xH | apply xT); first | done | fail) ⟨rfl, rfl, rfl, trivial⟩)⟩ rfl ?_
          rw [if_pos h2]
          exact ⟨.slice none 0 0, .slice none 0 0, [], rfl, nd0_fine6, own_nd6 (hw.xQ)⟩
      · try with_reducible exact tf_elim h2
        all_goals
          try replace h2 := of_decide_eq_false h2
          rw [if_neg h2]
          refine g_skip (g_seq ?_)
          refine g_region ?_
          refine xV rfl rfl rfl (v_build rfl (T.build_152 ..)) ?_
          refine rl_k rfl (k_box hw rfl rfl rfl (fun bk6_1 w hw => ?_))
          refine xV rfl rfl rfl (v_assign rfl) ?_
          refine rl_nil (g_le (xK (xS rfl (xS rfl (Fr.le_refl _)))) ?_)
          refine g_seq ?_
          refine g_region ?_
          refine xV rfl rfl rfl (v_move rfl) ?_
          refine rl_v rfl rfl rfl (by exact sat_cells hw (by (repeat first | with_reducible exact xH | apply xT); first | done | fail) ⟨rfl, rfl, rfl, rfl, trivial⟩) (v_loadAgg (vs := [_, _, _, _]) T.agg_111_4 rfl rfl) ?_
          refine rl_k rfl (k_callf Try.func81 rfl rfl rfl rfl ?_)
          refine Calls.mono (hrest (p := bk6_1) (hw.xQ)) ?_
          rintro _ w ⟨cs1, sa, sc, rfl, hrn, hl2, hw⟩
          have hz := hw
          clear hw
          obtain ⟨ya, yc, rfl, hnb, _⟩ := tm_shape hrn
          obtain ⟨_, hlb, hc1, hmx, g1⟩ := rdSl_get hl2
          simp only [reachBytes] at hlb
          have hw := hz
          clear hz
          refine ⟨_, rfl, ?_⟩
          refine xV rfl rfl rfl (v_move rfl) ?_
          refine xV rfl rfl rfl (v_extract rfl rfl) ?_
          refine xV rfl rfl rfl (v_extract rfl rfl) ?_
          refine rl_k rfl (k_alloc hw T.zero_111 rfl rfl (fun bk7_6 w hw => ?_))
          refine rl_k rfl (k_storeWhole hw T.agg_111_4 rfl rfl (by simp [Value.oneCell']) rfl (by (repeat first | with_reducible exact xH | apply xT); first | done | fail) rfl (fun w hw => ?_))
          refine xV rfl rfl rfl (v_assign rfl) ?_
          refine rl_nil (g_le (xK (xK (xS rfl (xS rfl (xS rfl (xS rfl (xS rfl (xS rfl (Fr.le_refl _))))))))) ?_)
          refine g_seq ?_
          refine g_cutc (σ := Unit) (fun C x => C) [(2, _), (4, _), (5, _), (7, _), (8, _), (9, _)] (by repeat (first | exact Fr.le_nil _ | refine Fr.le_cons rfl ?_)) (fun z w => Sat E w (RbAt bk6_1 bd1 :: QtAt bk0_0 q :: pt bk7_6 (.cells (tmC hd.kind hd.num hd.bytes (.slice ya hd.list.length yc)).toArray 111 (0, 0)) :: pt bk0_2 (.cells [Value.bool false, .slice none 0 0, .slice none 0 0].toArray 48 (0, 0)) :: RO g :: L)) ?_ ?_
          · skip
            clear hw
            rintro _ w hw
            all_goals
              refine g_seq ?_
              refine g_region ?_
              refine xV rfl rfl rfl (v_fieldAddr0 T.fld_111_1_1 rfl) ?_
              refine rl_v rfl rfl rfl (by exact sat_cell hw (by (repeat first | with_reducible exact xH | apply xT); first | done | fail) rfl) (v_load T.scal_49 rfl) ?_
              refine xV rfl rfl rfl (v_eql rfl rfl) ?_
              refine xV rfl rfl rfl (v_build rfl (T.build_48_0 ..)) ?_
              refine rl_k rfl (k_alloc hw T.zero_48 rfl rfl (fun bk9_4 w hw => ?_))
              refine rl_k rfl (k_storeWhole hw T.agg_48_3 rfl rfl (by simp [Value.oneCell']) rfl (by (repeat first | with_reducible exact xH | apply xT); first | done | fail) rfl (fun w hw => ?_))
              refine rl_nil (g_le (xK (xS rfl (xS rfl (xS rfl (xS rfl (Fr.le_refl _)))))) ?_)
              refine g_seq (g_seq ?_)
              refine g_region ?_
              refine xV rfl rfl rfl (v_move rfl) ?_
              refine xV rfl rfl rfl (v_lenSlice T.sl_109_111_4 rfl) ?_
              refine xV rfl rfl rfl (v_move rfl) ?_
              refine rl_nil (g_le (xK (xK (xK (Fr.le_refl _)))) ?_)
              refine g_block ?_
              refine g_loopC (σ := Int × Bool × List En × List Kd × List Value × Value × Value) (fun C x => (48, .int .i64 x.1) :: C) [(2, _), (4, _), (5, _), (7, _), (10, _), (46, _), (47, _)] (by repeat (first | exact Fr.le_nil _ | refine Fr.le_cons rfl ?_)) (fun z w => 0 ≤ z.1 ∧ z.1 ≤ l.length ∧ (z.2.2.1.length : Int) ≤ z.1 ∧ (z.2.2.2.1.length : Int) ≤ z.1 ∧ z.2.2.1.length = z.2.2.2.2.1.length ∧ rawL (decide (hd.num = 1)) bd1 l [] [] = rawL (decide (hd.num = 1)) z.2.1 (l.drop z.1.toNat) z.2.2.1 z.2.2.2.1 ∧ (∀ e ∈ z.2.2.1, e.fine) ∧ (∀ k ∈ z.2.2.2.1, k.ok) ∧ Sat E w (RbAt bk6_1 z.2.1 :: OwnSl 126 2 z.2.2.2.2.2.1 z.2.2.1.length (enCells z.2.2.1 z.2.2.2.2.1) :: eachOf VnsOf z.2.2.2.2.1 z.2.2.1 :: KdsAt z.2.2.2.2.2.2 z.2.2.2.1 :: pt bk9_4 (.cells [Value.bool (decide (hd.num = 1)), z.2.2.2.2.2.1, z.2.2.2.2.2.2].toArray 48 (0, 0)) :: QtAt bk0_0 q :: pt bk0_2 (.cells [Value.bool false, .slice none 0 0, .slice none 0 0].toArray 48 (0, 0)) :: RO g :: L)) (fun z => (l.length - z.1).toNat) ?_ (0, bd1, [], [], [], .slice none 0 0, .slice none 0 0) (by repeat (first | exact Fr.le_nil _ | refine Fr.le_cons rfl ?_)) ⟨by simp, by simp, by simp, by simp, by simp, by simp, by simp, by simp, by dsimp only; exact (show Sat E w (OwnSl 126 2 (.slice none 0 0) ([] : List En).length (enCells [] []) :: KdsAt (.slice none 0 0) [] :: eachOf VnsOf [] [] :: _) from ((hw.each_nil (A := VnsOf)).own_nil 101 5).own_nil 126 2).xQ⟩
              clear hw
              rintro ⟨i, bd, es, ks, vs, ev, kv⟩ w ⟨hi0, hi1, hel, hkl, hvl, heq, hef, hok, hw⟩ ih
              dsimp only at hi0 hi1 hel hkl hvl heq hef hok hw ih ⊢
              have hz := hw
              clear hw
              obtain ⟨va, vc, rfl, _, _, _⟩ := (hz.pick .at1).own_shape
              obtain ⟨ka, kc, rfl, _, _, _⟩ := (hz.pick .at3).own_shape
              have hw := hz
              clear hz
              refine g_seq ?_
              refine g_region ?_
              refine xV rfl rfl rfl (v_lss rfl rfl) ?_
              refine rl_nil (g_le (xK (Fr.le_refl _)) ?_)
              refine g_seq ?_
              refine g_cond rfl (fun h3 => ?_) (fun h3 => ?_)
              · try with_reducible exact ft_elim h3
                all_goals
                  try replace h3 := of_decide_eq_true h3
                  refine g_skip (g_seq (g_block (g_seq ?_)))
                  have hz := hw
                  clear hw
                  obtain ⟨b4, o1, x, xcs, rfl, hx, hat1, hl1, hrd⟩ := g1 i hi0 (by omega)
                  obtain ⟨xa, xc, rfl, _⟩ := tm_shape hrd
                  have hdr : l.drop i.toNat = x :: l.drop (i.toNat + 1) := by obtain ⟨h9, h8⟩ := List.getElem?_eq_some_iff.1 hx; rw [List.drop_eq_getElem_cons h9, h8]
                  rw [hdr, rawL_cons] at heq
                  have hw := hz
                  clear hz
                  refine g_region ?_
                  refine xV rfl rfl rfl (v_indexAddr T.sl_109_111_4 rfl rfl (by omega) (by omega)) ?_
                  refine rl_v rfl rfl rfl (by exact ro_ats hw (by (repeat first | with_reducible exact xH | apply xT); first | done | fail) (by assumption)) (v_loadAgg (vs := [_, _, _, _]) T.agg_111_4 rfl rfl) ?_
                  refine rl_k rfl (k_alloc hw T.zero_111 rfl rfl (fun bk12_2 w hw => ?_))
                  refine rl_k rfl (k_storeWhole hw T.agg_111_4 rfl rfl (by simp [Value.oneCell']) rfl (by (repeat first | with_reducible exact xH | apply xT); first | done | fail) rfl (fun w hw => ?_))
                  refine rl_nil (g_le (xK (xK (xK (Fr.le_refl _)))) ?_)
                  refine g_seq ?_
                  refine g_region ?_
                  refine xV rfl rfl rfl (v_fieldAddr0 T.fld_48_0_0 rfl) ?_
                  refine rl_v rfl rfl rfl (by exact sat_cell hw (by (repeat first | with_reducible exact xH | apply xT); first | done | fail) rfl) (v_load T.scal_4 rfl) ?_
                  refine rl_nil (g_le (xK (xK (Fr.le_refl _))) ?_)
                  refine g_cond rfl (fun h4 => ?_) (fun h4 => ?_)
                  · try with_reducible exact ft_elim h4
                    all_goals
                      try replace h4 := of_decide_eq_true h4
                      rw [if_pos (by simpa using h4)] at heq
                      have hlen := enCells_len hvl
                      have hone := en_ones hvl (fun v hv => each_mem (hw.xP (A := eachOf VnsOf vs es)) hv)
                      have hw := (hw.xP (A := OwnSl 126 2 (.slice va es.length vc) es.length (enCells es vs))).xP (A := RbAt bk6_1 bd)
                      refine g_drawB ord_f58_r14_U06f (by kernel_rfl) T.mixed (fun w hw => ((hw.pick .at0).drop.pick .at0).drop) hw (fun w hw => ?_)
                      refine rs_a 0 rfl rfl rfl rfl (v_fieldAddr0 T.fld_48_1_1 rfl) ?_
                      refine rs_a 2 rfl rfl rfl rfl (v_move rfl) ?_
                      refine rs_v 1 rfl rfl rfl rfl (OpV.mono (v_load T.scal_45 rfl) (fun w hw => by exact sat_cell hw (by (repeat first | with_reducible exact xH | apply xT); first | done | fail) rfl)) (by exact Sat.sub hw (by (repeat (first | with_reducible exact Sub.refl _ | exact Sub.nil _ | (apply Sub.cons; focus ((repeat (first | with_reducible exact Pick.here _ | apply Pick.there)); (first | done | fail))) | with_reducible apply Sub.drop)); first | done | fail)) ?_
                      refine rs_kv 3 rfl rfl rfl rfl (by exact sat_cells hw (by (repeat first | with_reducible exact xH | apply xT); first | done | fail) ⟨rfl, rfl, rfl, rfl, trivial⟩) (v_loadAgg (vs := [_, _, _, _]) T.agg_111_4 rfl rfl) ?_
                      refine rs_k 4 rfl rfl (k_callf Try.func83 rfl rfl rfl rfl ?_)
                      refine Calls.mono (entry6_calls hrd (hw.xQ)) ?_
                      rintro _ w ⟨v3, rfl, hfi3, hw⟩
                      have hz := hw
                      clear hw
                      obtain ⟨ea3, ec3, rfl, _, _, _⟩ := hz.own_shape
                      have hw := hz
                      clear hz
                      refine ⟨_, rfl, ?_⟩
                      refine ⟨fun _ => (by exact Sat.sub hw (by (repeat (first | with_reducible exact Sub.refl _ | exact Sub.nil _ | (apply Sub.cons; focus ((repeat (first | with_reducible exact Pick.here _ | apply Pick.there)); (first | done | fail))) | with_reducible apply Sub.drop)); first | done | fail)), ?_⟩
                      refine rs_k 5 rfl rfl (k_buildSlice (cells := [_, _]) hw T.sl_45_126_2 T.zero_126 rfl rfl rfl rfl rfl rfl (fun bk14_5 w hw => ?_))
                      refine ⟨fun _ => (by exact Sat.sub hw (by (repeat (first | with_reducible exact Sub.refl _ | exact Sub.nil _ | (apply Sub.cons; focus ((repeat (first | with_reducible exact Pick.here _ | apply Pick.there)); (first | done | fail))) | with_reducible apply Sub.drop)); first | done | fail)), ?_⟩
                      refine rs_k 6 rfl rfl (k_append (news := [_, _]) hw T.sl_45_126_2 T.zero_126 T.bytes_126_40 rfl (by decide) rfl rfl (by (repeat first | with_reducible exact xH | apply xT); first | done | fail) rfl (by exact sat_cells hw (by (repeat first | with_reducible exact xH | apply xT); first | done | fail) ⟨rfl, rfl, trivial⟩) (by simp [Value.oneCell']) (by omega) (by simp only [maxLen]; omega) rfl (fun vv14_6 w hw hnil => ?_))
                      refine ⟨fun hn => absurd (by decide) hn, ?_⟩
                      have hz := hw
                      clear hw
                      obtain ⟨wa, wc, rfl, _, _, _⟩ := hz.own_shape
                      have hw := hz
                      clear hz
                      refine rs_kv 7 rfl rfl rfl rfl (S' := fun _ => True) trivial (v_fieldAddr0 T.fld_48_1_1 rfl) ?_
                      refine rs_k 8 rfl rfl (k_store hw T.scal_45 rfl rfl rfl (by (repeat first | with_reducible exact xH | apply xT); first | done | fail) rfl (by simp only [List.set, Int.reduceToNat, Nat.reduceMul, Nat.reduceAdd]; rfl) (fun w hw => ?_))
                      refine ⟨fun hn => absurd (by decide) hn, ?_⟩
                      refine rs_done (g_le (xK (xK (xK (xK (xK (xK (xK (xK (Fr.le_refl _))))))))) ?_)
                      refine g_inBlock ?_
                      refine g_region ?_
                      refine xV rfl rfl rfl (v_add rfl rfl (by omega)) ?_
                      refine xV rfl rfl rfl (v_move rfl) ?_
                      refine rl_nil (g_le (xK (xK (Fr.le_refl _))) ?_)
                      exact g_le (by repeat (first | exact Fr.le_nil _ | refine Fr.le_cons rfl ?_)) (ih (i + 1, _, es ++ [(entryR bd x).1], ks, vs ++ [.slice ea3 (entryR bd x).1.versions.length ec3], .slice wa (es.length + 1) wc, .slice ka ks.length kc) w ⟨by simp only; omega, by simp only; omega, by simp; omega, by simp only; omega, by simp; omega, by simp only; rw [show (i + 1).toNat = i.toNat + 1 by omega]; exact heq, fun e he => (List.mem_append.1 he).elim (hef e) (fun h => by rw [List.mem_singleton.1 h]; exact hfi3), hok, by dsimp only; rw [enCells_snoc hvl, List.length_append, List.length_singleton]; exact (nd_snoc (hw.xQ)).xQ⟩ (by simp only; omega))
                  · try with_reducible exact tf_elim h4
                    all_goals
                      try replace h4 := of_decide_eq_false h4
                      rw [if_neg (by simpa using h4)] at heq
                      have hkels := els_of (g := g) (f := Kd.cells) (R := rdKd) (sz := 5) (fun x => rfl) (fun x hx => ⟨rfl, hok x hx⟩)
                      have hone := Els.ones one_Kd hkels
                      have hlen := hkels.len
                      have hw := (hw.xP (A := KdsAt (.slice ka ks.length kc) ks)).xP (A := RbAt bk6_1 bd)
                      refine g_drawB ord_f58_r15_U06f (by kernel_rfl) T.mixed (fun w hw => ((hw.pick .at0).drop.pick .at0).drop) hw (fun w hw => ?_)
                      refine rs_a 0 rfl rfl rfl rfl (v_fieldAddr0 T.fld_48_2_2 rfl) ?_
                      refine rs_a 2 rfl rfl rfl rfl (v_move rfl) ?_
                      refine rs_v 1 rfl rfl rfl rfl (OpV.mono (v_load T.scal_46 rfl) (fun w hw => by exact sat_cell hw (by (repeat first | with_reducible exact xH | apply xT); first | done | fail) rfl)) (by exact Sat.sub hw (by (repeat (first | with_reducible exact Sub.refl _ | exact Sub.nil _ | (apply Sub.cons; focus ((repeat (first | with_reducible exact Pick.here _ | apply Pick.there)); (first | done | fail))) | with_reducible apply Sub.drop)); first | done | fail)) ?_
                      refine rs_kv 3 rfl rfl rfl rfl (by exact sat_cells hw (by (repeat first | with_reducible exact xH | apply xT); first | done | fail) ⟨rfl, rfl, rfl, rfl, trivial⟩) (v_loadAgg (vs := [_, _, _, _]) T.agg_111_4 rfl rfl) ?_
                      refine rs_k 4 rfl rfl (k_callf Try.func84 rfl rfl rfl rfl ?_)
                      refine Calls.mono (kid6_calls hrd (hw.xQ)) ?_
                      rintro _ w ⟨rfl, hkok, hw⟩
                      refine ⟨_, rfl, ?_⟩
                      refine ⟨fun _ => (by exact Sat.sub hw (by (repeat (first | with_reducible exact Sub.refl _ | exact Sub.nil _ | (apply Sub.cons; focus ((repeat (first | with_reducible exact Pick.here _ | apply Pick.there)); (first | done | fail))) | with_reducible apply Sub.drop)); first | done | fail)), ?_⟩
                      refine rs_k 5 rfl rfl (k_buildSlice (cells := [_, _, _, _, _]) hw T.sl_46_101_5 T.zero_101 rfl rfl rfl rfl rfl rfl (fun bk15_5 w hw => ?_))
                      refine ⟨fun _ => (by exact Sat.sub hw (by (repeat (first | with_reducible exact Sub.refl _ | exact Sub.nil _ | (apply Sub.cons; focus ((repeat (first | with_reducible exact Pick.here _ | apply Pick.there)); (first | done | fail))) | with_reducible apply Sub.drop)); first | done | fail)), ?_⟩
                      refine rs_k 6 rfl rfl (k_append (news := [_, _, _, _, _]) hw T.sl_46_101_5 T.zero_101 T.bytes_101_48 rfl (by decide) rfl rfl (by (repeat first | with_reducible exact xH | apply xT); first | done | fail) rfl (by exact sat_cells hw (by (repeat first | with_reducible exact xH | apply xT); first | done | fail) ⟨rfl, rfl, rfl, rfl, rfl, trivial⟩) (by simp [Value.oneCell']) (by omega) (by simp only [maxLen]; omega) rfl (fun vv15_6 w hw hnil => ?_))
                      refine ⟨fun hn => absurd (by decide) hn, ?_⟩
                      have hz := hw
                      clear hw
                      obtain ⟨wa, wc, rfl, _, _, _⟩ := hz.own_shape
                      have hw := hz
                      clear hz
                      refine rs_kv 7 rfl rfl rfl rfl (S' := fun _ => True) trivial (v_fieldAddr0 T.fld_48_2_2 rfl) ?_
                      refine rs_k 8 rfl rfl (k_store hw T.scal_46 rfl rfl rfl (by (repeat first | with_reducible exact xH | apply xT); first | done | fail) rfl (by simp only [List.set, Int.reduceToNat, Nat.reduceMul, Nat.reduceAdd]; rfl) (fun w hw => ?_))
                      refine ⟨fun hn => absurd (by decide) hn, ?_⟩
                      refine rs_done (g_le (xK (xK (xK (xK (xK (xK (xK (xK (Fr.le_refl _))))))))) ?_)
                      refine g_inBlock ?_
                      refine g_region ?_
                      refine xV rfl rfl rfl (v_add rfl rfl (by omega)) ?_
                      refine xV rfl rfl rfl (v_move rfl) ?_
                      refine rl_nil (g_le (xK (xK (Fr.le_refl _))) ?_)
                      have h9 := Sat.own_flat (f := Kd.cells) (kidR bd x).1 (hw.xP (A := OwnSl 101 5 (.slice wa (ks.length + 1) wc) (ks.length + 1) (ks.flatMap Kd.cells ++ (kidR bd x).1.cells)))
                      exact g_le (by repeat (first | exact Fr.le_nil _ | refine Fr.le_cons rfl ?_)) (ih (i + 1, _, es, ks ++ [(kidR bd x).1], vs, .slice va es.length vc, .slice wa (ks.length + 1) wc) w ⟨by simp only; omega, by simp only; omega, by simp only; omega, by simp; omega, hvl, by simp only; rw [show (i + 1).toNat = i.toNat + 1 by omega]; exact heq, hef, fun v hv => (List.mem_append.1 hv).elim (hok v) (fun h => by rw [List.mem_singleton.1 h]; exact hkok), h9.xQ⟩ (by simp only; omega))
              · try with_reducible exact tf_elim h3
                all_goals
                  try replace h3 := of_decide_eq_false h3
                  refine g_exit rfl (g_seq (g_seq ?_))
                  rw [List.drop_eq_nil_of_le (by omega)] at heq
                  rw [show rawL (decide (hd.num = 1)) bd [] es ks = (es, ks, bd) from rfl] at heq
                  rw [heq]
                  dsimp only
                  have hfi : (⟨decide (hd.num = 1), es, ks⟩ : Nd).fine := ⟨hef, by simp only [reachBytes]; omega, hok, by simp only [reachBytes]; omega⟩
                  obtain ⟨hN, hA, hnd, hw⟩ := nd_lend (x := ⟨decide (hd.num = 1), es, ks⟩) (ev := .slice va es.length vc) (kv := .slice ka ks.length kc) (vs := vs) hfi (hw.xQ)
                  refine g_region ?_
                  refine xV rfl rfl rfl (v_move rfl) ?_
                  refine xV rfl rfl rfl (v_nilCheck rfl) ?_
                  refine xV rfl rfl rfl (v_fieldAddr0 T.fld_152_0_0 rfl) ?_
                  refine rl_v rfl rfl rfl (by exact sat_cell hw (by (repeat first | with_reducible exact xH | apply xT); first | done | fail) rfl) (v_load T.scal_4 rfl) ?_
                  refine rl_nil (g_le (xK (xS rfl (xS rfl (xS rfl (Fr.le_refl _))))) ?_)
                  refine g_cond rfl (fun h5 => ?_) (fun h5 => ?_)
                  · try with_reducible exact ft_elim h5
                    all_goals
                      try replace h5 := of_decide_eq_true h5
                      refine g_seq ?_
                      refine g_region ?_
                      refine xV rfl rfl rfl (v_build rfl (T.build_48 ..)) ?_
                      refine rl_k rfl (k_storeWhole hw T.agg_48_3 rfl rfl (by simp [Value.oneCell']) rfl (by (repeat first | with_reducible exact xH | apply xT); first | done | fail) rfl (fun w hw => ?_))
                      refine xV rfl rfl rfl (v_assign rfl) ?_
                      refine rl_nil (g_le (xK (xS rfl (Fr.le_refl _))) ?_)
                      refine g_res2 Try.func58 rfl ⟨_, rfl, holds_agg (vs := [_, _, _]) T.agg_48_3 rfl (by exact sat_cells hw (by (repeat first | with_reducible exact xH | apply xT); first | done | fail) ⟨rfl, rfl, rfl, trivial⟩)⟩ rfl ?_
                      rw [if_pos h5]
                      exact ⟨.slice none 0 0, .slice none 0 0, [], rfl, nd0_fine6, own_nd6 (hw.xQ)⟩
                  · try with_reducible exact tf_elim h5
                    all_goals
                      try replace h5 := of_decide_eq_false h5
                      rw [if_neg (by simpa using h5)]
                      refine g_skip (g_seq (g_seq ?_))
                      refine g_region ?_
                      refine rl_v rfl rfl rfl (by exact sat_cells hw (by (repeat first | with_reducible exact xH | apply xT); first | done | fail) ⟨rfl, rfl, rfl, rfl, rfl, rfl, rfl, trivial⟩) (v_loadAgg (vs := [_, _, _, _, _, _, _]) T.agg_23_7 rfl rfl) ?_
                      refine rl_v rfl rfl rfl (by exact sat_cells hw (by (repeat first | with_reducible exact xH | apply xT); first | done | fail) ⟨rfl, rfl, rfl, trivial⟩) (v_loadAgg (vs := [_, _, _]) T.agg_48_3 rfl rfl) ?_
                      refine rl_k rfl (k_callf Try.func26 rfl rfl rfl rfl ?_)
                      refine Calls.mono (rightN_calls q hnd (hw.xQ)) ?_
                      rintro _ w ⟨rfl, hw⟩
                      refine ⟨_, rfl, ?_⟩
                      refine xV rfl rfl rfl (v_assign rfl) ?_
                      refine rl_nil (g_le (xK (xS rfl (xS rfl (xS rfl (Fr.le_refl _))))) ?_)
                      refine g_seq ?_
                      refine g_region ?_
                      refine xV rfl rfl rfl (v_move rfl) ?_
                      refine xV rfl rfl rfl (v_neq rfl rfl) ?_
                      refine rl_nil (g_le (xK (xS rfl (Fr.le_refl _))) ?_)
                      refine g_cond rfl (fun h6 => ?_) (fun h6 => ?_)
                      · try with_reducible exact ft_elim h6
                        all_goals
                          try replace h6 := of_decide_eq_true h6
                          refine g_seq ?_
                          refine g_region ?_
                          refine xV rfl rfl rfl (v_build rfl (T.build_48 ..)) ?_
                          refine xV rfl rfl rfl (v_move rfl) ?_
                          refine rl_k rfl (k_storeWhole hw T.agg_48_3 rfl rfl (by simp [Value.oneCell']) rfl (by (repeat first | with_reducible exact xH | apply xT); first | done | fail) rfl (fun w hw => ?_))
                          refine xV rfl rfl rfl (v_assign rfl) ?_
                          refine rl_nil (g_le (xK (xS rfl (xS rfl (Fr.le_refl _)))) ?_)
                          refine g_res2 Try.func58 rfl ⟨_, rfl, holds_agg (vs := [_, _, _]) T.agg_48_3 rfl (by exact sat_cells hw (by (repeat first | with_reducible exact xH | apply xT); first | done | fail) ⟨rfl, rfl, rfl, trivial⟩)⟩ rfl ?_
                          rw [if_pos h6]
                          exact ⟨.slice none 0 0, .slice none 0 0, [], rfl, nd0_fine6, own_nd6 (hw.xQ)⟩
                      · try with_reducible exact tf_elim h6
                        all_goals
                          try replace h6 := of_decide_eq_false h6
                          rw [if_neg h6]
                          refine g_skip (g_seq ?_)
                          refine g_region ?_
                          refine rl_v rfl rfl rfl (by exact sat_cells hw (by (repeat first | with_reducible exact xH | apply xT); first | done | fail) ⟨rfl, rfl, rfl, trivial⟩) (v_loadAgg (vs := [_, _, _]) T.agg_48_3 rfl rfl) ?_
                          refine rl_k rfl (k_storeWhole hw T.agg_48_3 rfl rfl (by simp [Value.oneCell']) rfl (by (repeat first | with_reducible exact xH | apply xT); first | done | fail) rfl (fun w hw => ?_))
                          refine xV rfl rfl rfl (v_assign rfl) ?_
                          refine rl_nil (g_le (xK (xS rfl (Fr.le_refl _))) ?_)
                          refine g_res2 Try.func58 rfl ⟨_, rfl, holds_agg (vs := [_, _, _]) T.agg_48_3 rfl (by exact sat_cells hw (by (repeat first | with_reducible exact xH | apply xT); first | done | fail) ⟨rfl, rfl, rfl, trivial⟩)⟩ rfl ?_
                          exact ⟨_, _, vs, rfl, hfi, (nd_back hA (hw.xP (A := RO hN))).xQ⟩
          · intro joins8
            refine g_region ?_
            refine xV rfl rfl rfl (v_move rfl) ?_
            refine xV rfl rfl rfl (v_fieldAddr0 T.fld_111_1_1 rfl) ?_
            refine rl_v rfl rfl rfl (by exact sat_cell hw (by (repeat first | with_reducible exact xH | apply xT); first | done | fail) rfl) (v_load T.scal_49 rfl) ?_
            refine xV rfl rfl rfl (v_eql rfl rfl) ?_
            refine xV rfl rfl rfl (v_move rfl) ?_
            refine rl_split (s := 36) rfl (fun g8_4 => ?_) (fun g8_4 => ?_)
            · try with_reducible exact ft_elim g8_4
              all_goals
                try replace g8_4 := of_decide_eq_true g8_4
                refine rl_off (met_off rfl rfl rfl rfl rfl) rfl rfl ?_
                refine rl_off (met_off rfl rfl rfl rfl rfl) rfl rfl ?_
                refine rl_off (met_off rfl rfl rfl rfl rfl) rfl rfl ?_
                refine xV rfl rfl rfl (v_pick_true rfl rfl) ?_
                refine rl_k rfl (k_callf Try.func82 rfl rfl rfl rfl ?_)
                refine Calls.mono (want_eq _ (decide (hd.num = 1) || decide (hd.num = 2)) (by rw [decide_eq_true g8_4]; rfl) (hw.xQ)) ?_
                rw [← hb1]
                rintro _ w ⟨rfl, hw⟩
                refine ⟨_, rfl, ?_⟩
                refine rl_nil (g_le (xS rfl (xS rfl (xS rfl (xS rfl (xS rfl (xS rfl (xS rfl (xS rfl (xS rfl (xS rfl (xS rfl (Fr.le_refl _)))))))))))) ?_)
                exact joins8 () w _ (by repeat (first | exact Fr.le_nil _ | refine Fr.le_cons rfl ?_)) (hw.xQ)
            · try with_reducible exact tf_elim g8_4
              all_goals
                try replace g8_4 := of_decide_eq_false g8_4
                refine rl_vg (met_on rfl rfl rfl rfl) rfl rfl (S := fun _ => True) trivial (v_fieldAddr0 T.fld_111_1_1 rfl) ?_
                refine rl_vg (met_on rfl rfl rfl rfl) rfl rfl (by exact sat_cell hw (by (repeat first | with_reducible exact xH | apply xT); first | done | fail) rfl) (v_load T.scal_49 rfl) ?_
                refine rl_vg (met_on rfl rfl rfl rfl) rfl rfl (S := fun _ => True) trivial (v_eql rfl rfl) ?_
                refine xV rfl rfl rfl (v_pick_false rfl rfl) ?_
                refine rl_k rfl (k_callf Try.func82 rfl rfl rfl rfl ?_)
                refine Calls.mono (want_eq _ (decide (hd.num = 1) || decide (hd.num = 2)) (by rw [decide_eq_false g8_4]; rfl) (hw.xQ)) ?_
                rw [← hb1]
                rintro _ w ⟨rfl, hw⟩
                refine ⟨_, rfl, ?_⟩
                refine rl_nil (g_le (xS rfl (xS rfl (xS rfl (xS rfl (xS rfl (xS rfl (xS rfl (xS rfl (xS rfl (xS rfl (xS rfl (Fr.le_refl _)))))))))))) ?_)
                exact joins8 () w _ (by repeat (first | exact Fr.le_nil _ | refine Fr.le_cons rfl ?_)) (hw.xQ)
theorem openN_calls {E : Env} {w : World} {L : List As} {g : Hp} {s : ByteArray} (q : Qt) (key : Int) (hs : s.size ≤ reachBytes) (hw : Sat E w (RO g :: L)) :
    Calls Try.prog 38 #[q.v, .int .u64 key, .string s] w fun e w' => ∃ ev kv vs, e = .returned (.tuple #[.agg #[.bool (openN q key s).1.leaf, ev, kv], .int .i64 (openN q key s).2]) ∧ (openN q key s).1.fine ∧ Sat E w' (OwnSl 126 2 ev ((openN q key s).1).entries.length (enCells ((openN q key s).1).entries vs) :: eachOf VnsOf vs ((openN q key s).1).entries :: KdsAt kv ((openN q key s).1).kids :: RO g :: L) := by
  have hrq := right_iff q
  unfold openN
  refine calls_of_g (n := 29) Try.func38 rfl rfl rfl ?_
  change G _ _ _ _ _ [(0, _), (1, _), (2, _)] _
  refine g_seq ?_
  refine g_region ?_
  refine rl_k rfl (k_box hw rfl rfl rfl (fun bk0_0 w hw => ?_))
  refine rl_k rfl (k_alloc hw T.zero_48 rfl rfl (fun bk0_1 w hw => ?_))
  refine xV rfl rfl rfl (v_assign rfl) ?_
  refine rl_nil (g_le (xK (xK (xK (Fr.le_refl _)))) ?_)
  refine g_seq (g_seq ?_)
  refine g_region ?_
  refine rl_v rfl rfl rfl (by exact sat_cells hw (by (repeat first | with_reducible exact xH | apply xT); first | done | fail) ⟨rfl, rfl, rfl, rfl, rfl, rfl, rfl, trivial⟩) (v_loadAgg (vs := [_, _, _, _, _, _, _]) T.agg_23_7 rfl rfl) ?_
  refine rl_k rfl (k_callf Try.func42 rfl rfl rfl rfl ?_)
  refine Calls.mono (right_calls q (hw.xQ)) ?_
  rintro _ w ⟨rfl, hw⟩
  refine ⟨_, rfl, ?_⟩
  refine xV rfl rfl rfl (v_neq rfl rfl) ?_
  refine rl_nil (g_le (xK (xS rfl (xS rfl (Fr.le_refl _)))) ?_)
  refine g_cond rfl (fun h1 => ?_) (fun h1 => ?_)
  · try with_reducible exact ft_elim h1
    all_goals
      try replace h1 := of_decide_eq_true h1
      refine g_seq ?_
      refine g_region ?_
      refine xV rfl rfl rfl (v_build rfl (T.build_48 ..)) ?_
      refine rl_k rfl (k_storeWhole hw T.agg_48_3 rfl rfl (by simp [Value.oneCell']) rfl (by (repeat first | with_reducible exact xH | apply xT); first | done | fail) rfl (fun w hw => ?_))
      refine xV rfl rfl rfl (v_assign rfl) ?_
      refine rl_nil (g_le (xK (xS rfl (Fr.le_refl _))) ?_)
      refine g_res2 Try.func38 rfl ⟨_, rfl, holds_agg (vs := [_, _, _]) T.agg_48_3 rfl (by exact sat_cells hw (by (repeat first | with_reducible exact xH | apply xT); first | done | fail) ⟨rfl, rfl, rfl, trivial⟩)⟩ rfl ?_
      rw [if_pos (hrq.1 h1)]
      exact ⟨.slice none 0 0, .slice none 0 0, [], rfl, nd0_fine6, own_nd6 (hw.xQ)⟩
  · try with_reducible exact tf_elim h1
    all_goals
      try replace h1 := of_decide_eq_false h1
      rw [if_neg (fun h => h1 (hrq.2 h))]
      refine g_skip (g_seq ?_)
      refine g_region ?_
      refine xV rfl rfl rfl (v_move rfl) ?_
      refine xV rfl rfl rfl (v_move rfl) ?_
      refine rl_k rfl (k_callf Try.func57 rfl rfl rfl rfl ?_)
      refine Calls.mono (unpack_calls key hs (hw.xQ)) ?_
      rintro _ w ⟨g1, cs1, hg1, rfl, hrd, hw⟩
      obtain ⟨xa, xc, rfl, _⟩ := tm_shape hrd
      refine ⟨_, rfl, ?_⟩
      refine xV rfl rfl rfl (v_move rfl) ?_
      refine xV rfl rfl rfl (v_extract rfl rfl) ?_
      refine xV rfl rfl rfl (v_extract rfl rfl) ?_
      refine rl_k rfl (k_alloc hw T.zero_111 rfl rfl (fun bk3_6 w hw => ?_))
      refine rl_k rfl (k_storeWhole hw T.agg_111_4 rfl rfl (by simp [Value.oneCell']) rfl (by (repeat first | with_reducible exact xH | apply xT); first | done | fail) rfl (fun w hw => ?_))
      refine xV rfl rfl rfl (v_assign rfl) ?_
      refine rl_nil (g_le (xK (xK (xS rfl (xS rfl (xS rfl (xS rfl (xS rfl (xS rfl (Fr.le_refl _))))))))) ?_)
      refine g_seq (g_seq ?_)
      refine g_region ?_
      refine xV rfl rfl rfl (v_move rfl) ?_
      refine xV rfl rfl rfl (v_neq rfl rfl) ?_
      refine rl_nil (g_le (xK (xS rfl (Fr.le_refl _))) ?_)
      refine g_cond rfl (fun h2 => ?_) (fun h2 => ?_)
      · try with_reducible exact ft_elim h2
        all_goals
          try replace h2 := of_decide_eq_true h2
          refine g_seq ?_
          refine g_region ?_
          refine xV rfl rfl rfl (v_build rfl (T.build_48 ..)) ?_
          refine xV rfl rfl rfl (v_move rfl) ?_
          refine rl_k rfl (k_storeWhole hw T.agg_48_3 rfl rfl (by simp [Value.oneCell']) rfl (by (repeat first | with_reducible exact xH | apply xT); first | done | fail) rfl (fun w hw => ?_))
          refine xV rfl rfl rfl (v_assign rfl) ?_
          refine rl_nil (g_le (xK (xS rfl (xS rfl (Fr.le_refl _)))) ?_)
          refine g_res2 Try.func38 rfl ⟨_, rfl, holds_agg (vs := [_, _, _]) T.agg_48_3 rfl (by exact sat_cells hw (by (repeat first | with_reducible exact xH | apply xT); first | done | fail) ⟨rfl, rfl, rfl, trivial⟩)⟩ rfl ?_
          rw [if_pos h2]
          exact ⟨.slice none 0 0, .slice none 0 0, [], rfl, nd0_fine6, own_nd6 (((hw.xQ : Sat E w (RO g1 :: L))).shrink hg1)⟩
      · try with_reducible exact tf_elim h2
        all_goals
          try replace h2 := of_decide_eq_false h2
          rw [if_neg h2]
          refine g_skip (g_seq ?_)
          refine g_region ?_
          refine rl_v rfl rfl rfl (by exact sat_cells hw (by (repeat first | with_reducible exact xH | apply xT); first | done | fail) ⟨rfl, rfl, rfl, rfl, rfl, rfl, rfl, trivial⟩) (v_loadAgg (vs := [_, _, _, _, _, _, _]) T.agg_23_7 rfl rfl) ?_
          refine rl_v rfl rfl rfl (by exact sat_cells hw (by (repeat first | with_reducible exact xH | apply xT); first | done | fail) ⟨rfl, rfl, rfl, rfl, trivial⟩) (v_loadAgg (vs := [_, _, _, _]) T.agg_111_4 rfl rfl) ?_
          refine rl_k rfl (k_callf Try.func58 rfl rfl rfl rfl ?_)
          refine Calls.mono (from_calls q hrd (hw.xQ)) ?_
          rintro _ w ⟨ev, kv, vs, rfl, hfi, hw⟩
          have hz := hw
          clear hw
          obtain ⟨ea, ec, rfl, _, _, _⟩ := hz.own_shape
          obtain ⟨ka, kc, rfl, _, _, _⟩ := (hz.pick .at2).own_shape
          have hw := hz
          clear hz
          refine ⟨_, rfl, ?_⟩
          refine xV rfl rfl rfl (v_extract rfl rfl) ?_
          refine xV rfl rfl rfl (v_extract rfl rfl) ?_
          refine rl_k rfl (k_storeWhole hw T.agg_48_3 rfl rfl (by simp [Value.oneCell']) rfl (by (repeat first | with_reducible exact xH | apply xT); first | done | fail) rfl (fun w hw => ?_))
          refine xV rfl rfl rfl (v_assign rfl) ?_
          refine rl_nil (g_le (xK (xS rfl (xS rfl (xS rfl (xS rfl (xS rfl (Fr.le_refl _))))))) ?_)
          refine g_res2 Try.func38 rfl ⟨_, rfl, holds_agg (vs := [_, _, _]) T.agg_48_3 rfl (by exact sat_cells hw (by (repeat first | with_reducible exact xH | apply xT); first | done | fail) ⟨rfl, rfl, rfl, trivial⟩)⟩ rfl ?_
          exact ⟨_, _, vs, rfl, hfi, (((hw.xP (A := RO g1)).shrink hg1).xQ)⟩
end Go.Proofs.Ytlgpdglnfjndhaa
