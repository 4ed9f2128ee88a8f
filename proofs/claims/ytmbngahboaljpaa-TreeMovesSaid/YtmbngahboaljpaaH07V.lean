/-
  TreeMoves: behind Move the tree has the same secrets in the same shape; no page that was there ahead of it lies in one of the segments; as many pages were laid down as it says.
-/
import Derived.Test.YtmbngahboaljpaaH10
import Derived.Test.YtmbngahboaljpaaRows
namespace Go.Proofs.Ytmbngahboaljpaa
set_option maxRecDepth 8000
set_option linter.unusedSimpArgs false
set_option linter.unusedVariables false
open Go Xe Go.Lib Go.RowKit Go.ChangeShapes Go.WideShapes Go.ChangeAt
theorem pages_few : ∀ (h : Nat) (u : Un h), okU h u → (2 ≤ szU h u → (pagesU h u).length + 2 ≤ (entsU h u).length) ∧ (pagesU h u).length ≤ (entsU h u).length
  | 0, (es : List En), _ => ⟨fun h => by simpa [pagesU, entsU, szU] using h, by simp [pagesU]⟩
  | h + 1, (ts : List (Tn h)), hok => by
    have key : ∀ (us : List (Tn h)), (∀ t ∈ us, t ∈ ts) → (us.flatMap fun t => t.1 :: pagesU h t.2).length + us.length ≤ (us.flatMap fun t => entsU h t.2).length := by
      intro us
      induction us with
      | nil => intro _; simp
      | cons t us ih =>
        intro hm
        have hot := hok t (hm t (by simp))
        have h1 := (pages_few h t.2 hot.2.2).1 hot.1
        have h2 := ih fun t ht => hm t (by simp [ht])
        rw [List.flatMap_cons, List.flatMap_cons, List.length_append, List.length_append, List.length_cons, List.length_cons]
        omega
    have h3 := key ts fun t ht => ht
    exact ⟨fun h9 => by have h4 : 2 ≤ ts.length := h9; show (ts.flatMap fun t => t.1 :: pagesU h t.2).length + 2 ≤ (ts.flatMap fun t => entsU h t.2).length; omega, Nat.le_trans (Nat.le_add_right _ _) h3⟩
theorem seen_head : ∀ (h : Nat) (d : Int) (r : Rf) (u : Un h), ∃ rest, seenU h d r u = ⟨d, r, nodeU h u⟩ :: rest
  | 0, _, _, _ => ⟨[], rfl⟩
  | _ + 1, _, _, _ => ⟨_, rfl⟩
theorem mv_len {segs : List Int} : ∀ {a b : List Sn} {n : Nat}, mvRel segs a b n → b.length = a.length ∧ n ≤ b.length
  | [], [], n, h => by simp only [mvRel] at h; simp [h]
  | x :: xs, y :: ys, n, h => by
    simp only [mvRel] at h
    rcases h.2.2.2.2 with ⟨_, _, h7⟩ | ⟨_, m, rfl, h7⟩
    · have := mv_len h7; simp only [List.length_cons]; omega
    · have := mv_len h7; simp only [List.length_cons]; omega
  | [], _ :: _, _, h => by simp only [mvRel] at h
  | _ :: _, [], _, h => by simp only [mvRel] at h
theorem In_calls {E : Env} {w : World} {L : List As} {g : Hp} {sa : Option Addr} {sn sc : Nat} {segs : List Int} (v : Int) (hs : (rdSl 8 1 (rdInt .i64)) g [.slice sa sn sc] segs) (hw : Sat E w (RO g :: L)) :
    Calls Try.prog 27 #[.slice sa sn sc, .int .i64 v] w fun e w' => e = .returned (.bool (decide (v ∈ segs))) ∧ Sat E w' (RO g :: L) := by
  obtain ⟨rfl, hnb, hnc, hnm, gn⟩ := rdSl_get hs
  simp only [maxLen] at hnm
  refine calls_of_g (n := 17) Try.func27 rfl rfl rfl ?_
  change G _ _ _ _ _ [(0, _), (1, _)] _
  refine g_seq ?_
  refine g_region ?_
  refine xV rfl rfl rfl (v_assign rfl) ?_
  refine rl_nil (g_le (xK (Fr.le_refl _)) ?_)
  refine g_seq (g_seq ?_)
  refine g_region ?_
  refine xV rfl rfl rfl (v_move rfl) ?_
  refine xV rfl rfl rfl (v_lenSlice T.sl_44_3_1 rfl) ?_
  refine xV rfl rfl rfl (v_move rfl) ?_
  refine rl_nil (g_le (xK (xK (xK (Fr.le_refl _)))) ?_)
  refine g_block ?_
  refine g_loopC (σ := Nat) (fun C x => (9, .int .i64 (x : Nat)) :: C) [(1, _), (4, _), (7, _), (8, _)] (by repeat (first | exact Fr.le_nil _ | refine Fr.le_cons rfl ?_)) (fun z w => z ≤ segs.length ∧ v ∉ segs.take z ∧ Sat E w (RO g :: L)) (fun z => segs.length - z) ?_ 0 (by repeat (first | exact Fr.le_nil _ | refine Fr.le_cons rfl ?_)) ⟨by simp, by simp, hw.xQ⟩
  rintro i w ⟨hi1, hni, hw⟩ ih
  refine g_seq ?_
  refine g_region ?_
  refine xV rfl rfl rfl (v_lss rfl rfl) ?_
  refine rl_nil (g_le (xK (Fr.le_refl _)) ?_)
  refine g_seq ?_
  refine g_cond rfl (fun h1 => ?_) (fun h1 => ?_)
  · try with_reducible exact ft_elim h1
    all_goals
      try replace h1 := of_decide_eq_true h1
      refine g_skip (g_seq (g_block (g_seq ?_)))
      obtain ⟨b4, o1, x, ecs, rfl, hx, hat1, hl1, hq, hxr⟩ := gn (i : Nat) (by omega) (by omega)
      subst hq
      rw [Int.toNat_natCast] at hx
      refine g_region ?_
      refine xV rfl rfl rfl (v_indexAddr T.sl_44_3_1 rfl rfl (by omega) (by omega)) ?_
      refine rl_v rfl rfl rfl (by exact ro_at0 hw (by (repeat first | with_reducible exact xH | apply xT); first | done | fail) (by assumption) rfl) (v_load T.scal_3 rfl) ?_
      refine xV rfl rfl rfl (v_assign rfl) ?_
      refine rl_nil (g_le (xK (xK (xK (Fr.le_refl _)))) ?_)
      refine g_seq ?_
      refine g_region ?_
      refine xV rfl rfl rfl (v_move rfl) ?_
      refine xV rfl rfl rfl (v_move rfl) ?_
      refine xV rfl rfl rfl (v_eql rfl rfl) ?_
      refine rl_nil (g_le (xK (xK (xK (Fr.le_refl _)))) ?_)
      refine g_cond rfl (fun h2 => ?_) (fun h2 => ?_)
      · try with_reducible exact ft_elim h2
        all_goals
          try replace h2 := of_decide_eq_true h2
          refine g_seq ?_
          refine g_region ?_
          refine xV rfl rfl rfl (v_assign rfl) ?_
          refine rl_nil (g_le (xK (Fr.le_refl _)) ?_)
          refine g_ret1 Try.func27 rfl rfl ?_
          rw [show decide (v ∈ segs) = true from decide_eq_true (h2 ▸ List.mem_of_getElem? hx)]
          exact ⟨rfl, hw.xQ⟩
      · try with_reducible exact tf_elim h2
        all_goals
          try replace h2 := of_decide_eq_false h2
          refine g_skip (g_inBlock ?_)
          refine g_region ?_
          refine xV rfl rfl rfl (v_add rfl rfl (by omega)) ?_
          refine xV rfl rfl rfl (v_move rfl) ?_
          refine rl_nil (g_le (xK (xK (Fr.le_refl _))) ?_)
          exact g_le (by repeat (first | exact Fr.le_nil _ | refine Fr.le_cons rfl ?_)) (ih (i + 1) w ⟨by omega, by rw [List.take_add_one, hx]; simp only [Option.toList_some, List.mem_append, List.mem_singleton]; rintro (h | h); exact hni h; exact h2 h.symm, hw.xQ⟩ (by omega))
  · try with_reducible exact tf_elim h1
    all_goals
      try replace h1 := of_decide_eq_false h1
      refine g_exit rfl (g_seq ?_)
      refine g_region ?_
      refine xV rfl rfl rfl (v_assign rfl) ?_
      refine rl_nil (g_le (xK (Fr.le_refl _)) ?_)
      refine g_ret1 Try.func27 rfl rfl ?_
      rw [List.take_of_length_le (by omega)] at hni
      rw [decide_eq_false hni]
      exact ⟨rfl, hw.xQ⟩
theorem ord_f5_r10_H07V : orderOfB Try.f5 10 [5, 10] (.a 0 (.a 1 (.v 2 (.v 3 (.b2 4 9 (.b2 5 9 (.a 6 (.a 7 (.a 8 (.k 9 (.k 10 (.k 11 .done)))))) (.k 5 (.k 6 (.a 7 (.a 8 (.k 10 (.k 11 .done))))))) (.k 4 (.k 5 (.k 6 (.a 7 (.a 8 (.k 10 (.k 11 .done)))))))))))) = true := by kernel_rfl
theorem ord_f5_r24_H07V : orderOfB Try.f5 24 [] (.a 0 (.a 1 (.a 2 (.a 3 (.a 5 (.a 6 (.a 7 (.a 8 (.v 4 (.k 9 (.k 10 (.k 11 .done)))))))))))) = true := by kernel_rfl
theorem ord_f5_r25_H07V : orderOfB Try.f5 25 [] (.k 0 (.k 1 (.a 2 (.a 3 (.k 4 (.k 5 (.k 6 (.k 7 (.k 8 (.k 9 (.k 10 (.k 11 (.a 12 (.a 13 (.a 14 (.a 15 (.a 17 (.a 18 (.a 19 (.a 20 (.v 16 (.k 21 (.k 22 (.k 23 (.k 24 (.a 25 (.a 26 (.a 27 (.a 28 (.a 29 (.a 31 (.a 32 (.a 33 (.a 34 (.a 35 (.v 30 (.k 36 (.k 37 (.k 38 (.k 39 (.a 40 (.a 41 (.a 42 (.a 43 (.a 44 (.a 46 (.a 47 (.a 48 (.a 49 (.a 50 (.v 45 (.k 51 (.k 52 (.k 53 (.k 54 (.k 55 (.a 56 (.a 57 (.a 58 (.a 59 (.a 60 (.a 63 (.a 64 (.a 65 (.a 66 (.a 67 (.v 61 (.a 62 (.k 68 (.k 69 (.k 70 (.k 71 .done)))))))))))))))))))))))))))))))))))))))))))))))))))))))))))))))))))))))) = true := by kernel_rfl
theorem ord_f5_r32_H07V : orderOfB Try.f5 32 [] (.a 0 (.a 1 (.a 2 (.a 3 (.a 4 (.a 6 (.a 10 (.a 11 (.a 12 (.a 13 (.a 14 (.a 16 (.v 5 (.a 7 (.a 8 (.v 9 (.k 15 (.k 17 (.k 18 (.k 19 (.k 20 .done))))))))))))))))))))) = true := by kernel_rfl
set_option maxHeartbeats 4000000 in
theorem TreeMoves_law {w : World} {a : Option Addr} {len cap : Nat} {xs : List Op7} {sa : Option Addr} {sn sc : Nat} {segs : List Int} (hr : rdArg (rdSl 72 5 rdOp7) w (.slice a len cap) xs) (hrs : rdArg (rdSl 8 1 (rdInt .i64)) w (.slice sa sn sc) segs) :
    Law Try.prog 5 [.slice a len cap, .slice sa sn sc] w := by
  unfold Law
  have hw := Sat.old w
  generalize w = W at hr hrs hw ⊢
  have hr : (rdSl 72 5 rdOp7) (hpOf W) [.slice a len cap] xs := hr
  have hrs : (rdSl 8 1 (rdInt .i64)) (hpOf W) [.slice sa sn sc] segs := hrs
  obtain ⟨rfl, hlb, hlc, hlm, _⟩ := rdSl_get hr
  simp only [reachBytes] at hlb
  refine calls_of_g (n := 236) Try.func5 rfl rfl rfl ?_
  change G _ _ _ _ _ [(0, _), (1, _)] _
  refine g_seq ?_
  refine g_region ?_
  refine xV rfl rfl rfl (v_assign rfl) ?_
  refine rl_nil (g_le (xK (Fr.le_refl _)) ?_)
  refine g_seq ?_
  refine g_region ?_
  refine rl_k rfl (k_callf Try.func12 rfl rfl rfl rfl ?_)
  refine Calls.mono (tnew_calls (g := hpOf W) (hw.xQ)) ?_
  rintro _ w ⟨h, A, rfl, hI, hw⟩
  refine ⟨_, rfl, ?_⟩
  refine xV rfl rfl rfl (v_assign rfl) ?_
  refine rl_nil (g_le (xK (xS rfl (Fr.le_refl _))) ?_)
  refine g_seq (g_seq ?_)
  refine g_region ?_
  refine xV rfl rfl rfl (v_move rfl) ?_
  refine xV rfl rfl rfl (v_eqlNil T.ptr_26 rfl rfl) ?_
  refine rl_nil (g_le (xK (xS rfl (Fr.le_refl _))) ?_)
  refine g_cond_false rfl ?_
  refine g_skip (g_seq ?_)
  refine g_region ?_
  refine xV rfl rfl rfl (v_move rfl) ?_
  refine xV rfl rfl rfl (v_mkIface T.ptr_26 rfl) ?_
  refine rl_k rfl (k_callf Try.func17 rfl rfl rfl rfl ?_)
  refine Calls.mono (tempty_calls hI (hw.xQ)) ?_
  rintro _ w ⟨g1, A1, hg1, hI1, rfl, ht1, hok1, hw⟩
  refine ⟨_, rfl, ?_⟩
  refine xV rfl rfl rfl (v_move rfl) ?_
  refine xV rfl rfl rfl (v_extract rfl rfl) ?_
  refine xV rfl rfl rfl (v_extract rfl rfl) ?_
  refine rl_k rfl (k_alloc hw T.zero_25 rfl rfl (fun bk4_6 w hw => ?_))
  refine rl_k rfl (k_storeWhole hw T.agg_25_4 rfl rfl (by simp [Value.oneCell']) rfl (by (repeat first | with_reducible exact xH | apply xT); first | done | fail) rfl (fun w hw => ?_))
  refine xV rfl rfl rfl (v_assign rfl) ?_
  refine rl_nil (g_le (xK (xK (xS rfl (xS rfl (xS rfl (xS rfl (xS rfl (xS rfl (Fr.le_refl _))))))))) ?_)
  refine g_seq (g_seq ?_)
  refine g_region ?_
  refine xV rfl rfl rfl (v_move rfl) ?_
  refine xV rfl rfl rfl (v_neqF rfl rfl (by omega)) ?_
  refine rl_nil (g_le (xK (xS rfl (Fr.le_refl _))) ?_)
  refine g_cond_false rfl ?_
  refine g_skip (g_seq (g_seq ?_))
  refine g_region ?_
  refine xV rfl rfl rfl (v_move rfl) ?_
  refine rl_k rfl (k_callf Try.func18 rfl rfl rfl rfl ?_)
  refine Calls.mono (short7_calls a xs.length cap 40 (by omega) (by omega) hw) ?_
  rintro _ w ⟨rfl, hw⟩
  refine ⟨_, rfl, ?_⟩
  refine xV rfl rfl rfl (v_lenSlice T.sl_41_46_5 rfl) ?_
  refine xV rfl rfl rfl (v_move rfl) ?_
  refine rl_nil (g_le (xK (xK (xK (xS rfl (Fr.le_refl _))))) ?_)
  refine g_block ?_
  refine g_loopC (σ := Int × Hp × List Nd × As × Rf) (fun C x => (37, .int .i64 x.1) :: C) [(1, _), (4, _), (5, _), (6, _), (35, _), (36, _)] (by repeat (first | exact Fr.le_nil _ | refine Fr.le_cons rfl ?_)) (fun z w => 0 ≤ z.1 ∧ z.1 ≤ min xs.length 40 ∧ (hpOf W).le z.2.1 ∧ HeapI h z.2.1 z.2.2.1 z.2.2.2.1 ∧ z.2.2.2.2.ok ∧ (∃ hh u, TreeAt z.2.2.1 z.2.2.2.2 hh u ∧ ((entsU hh u).length : Int) ≤ z.1) ∧ (z.2.2.1.length : Int) ≤ 1 + 17 * z.1 ∧ Sat (envOf W) w (z.2.2.2.1 :: pt bk4_6 (.cells z.2.2.2.2.cells.toArray 25 (0, 0)) :: RO z.2.1 :: [])) (fun z => (xs.length - z.1).toNat) ?_ (0, g1, [nodeU 0 ([] : List En)], A1, refO 0) (by repeat (first | exact Fr.le_nil _ | refine Fr.le_cons rfl ?_)) ⟨by simp, by simp only; omega, hg1, hI1, hok1, ⟨0, _, ht1, by simp [entsU]⟩, by simp, hw.xQ⟩
  rintro ⟨i, g, s, A, root⟩ w ⟨hi0, hi1, hg, hI, hrk, ⟨hh, u, ht, hes⟩, hsl, hw⟩ ih
  dsimp only at hi0 hi1 hg hI hrk ht hes hsl hw ih ⊢
  have h7 := ht.low (by omega)
  refine g_seq ?_
  refine g_region ?_
  refine xV rfl rfl rfl (v_lss rfl rfl) ?_
  refine rl_nil (g_le (xK (Fr.le_refl _)) ?_)
  refine g_seq ?_
  refine g_cond rfl (fun h3 => ?_) (fun h3 => ?_)
  · try with_reducible exact ft_elim h3
    all_goals
      try replace h3 := of_decide_eq_true h3
      refine g_skip (g_seq (g_block (g_seq ?_)))
      have hz := hw
      clear hw
      obtain ⟨_, _, _, _, gl⟩ := rdSl_get (mono_sl mono_Op7 hg hr)
      obtain ⟨b4, o1, o, ecs, rfl, ho, hat1, hl1, hrd⟩ := gl i hi0 (by omega)
      obtain ⟨osa, osn, osc, rfl, hns, hvs, hsegs, hdw, hbw⟩ := op7_told hrd
      have hw := hz
      refine g_region ?_
      refine xV rfl rfl rfl (v_indexAddr T.sl_41_46_5 rfl rfl (by omega) (by omega)) ?_
      refine rl_v rfl rfl rfl (by exact ro_ats hw (by (repeat first | with_reducible exact xH | apply xT); first | done | fail) (by assumption)) (v_loadAgg (vs := [_, _, _, _, _]) T.agg_46_5 rfl rfl) ?_
      refine rl_k rfl (k_alloc hw T.zero_46 rfl rfl (fun bk9_2 w hw => ?_))
      refine rl_k rfl (k_storeWhole hw T.agg_46_5 rfl rfl (by simp [Value.oneCell']) rfl (by (repeat first | with_reducible exact xH | apply xT); first | done | fail) rfl (fun w hw => ?_))
      refine rl_nil (g_le (xK (xK (xK (Fr.le_refl _)))) ?_)
      refine g_seq ?_
      have hw := (hw.xP (A := RO g)).xP (A := A)
      refine g_drawB ord_f5_r10_H07V (by kernel_rfl) T.mixed (fun w hw => ((hw.pick .at0).drop.pick .at0).drop) hw (fun w hw => ?_)
      refine rs_a 0 rfl rfl rfl rfl (v_move rfl) ?_
      refine rs_a 1 rfl rfl rfl rfl (v_mkIface T.ptr_26 rfl) ?_
      refine rs_v 2 rfl rfl rfl rfl (OpV.mono (v_loadAgg (vs := [_, _, _, _]) T.agg_25_4 rfl rfl) (fun w hw => by exact sat_cells hw (by (repeat first | with_reducible exact xH | apply xT); first | done | fail) ⟨rfl, rfl, rfl, rfl, trivial⟩)) (by exact Sat.sub hw (by (repeat (first | with_reducible exact Sub.refl _ | exact Sub.nil _ | (apply Sub.cons; focus ((repeat (first | with_reducible exact Pick.here _ | apply Pick.there)); (first | done | fail))) | with_reducible apply Sub.drop)); first | done | fail)) ?_
      refine rs_v 3 rfl rfl rfl rfl (OpV.mono (v_loadAgg (vs := [_, _, _, _, _]) T.agg_46_5 rfl rfl) (fun w hw => by exact sat_cells hw (by (repeat first | with_reducible exact xH | apply xT); first | done | fail) ⟨rfl, rfl, rfl, rfl, rfl, trivial⟩)) (by exact Sat.sub hw (by (repeat (first | with_reducible exact Sub.refl _ | exact Sub.nil _ | (apply Sub.cons; focus ((repeat (first | with_reducible exact Pick.here _ | apply Pick.there)); (first | done | fail))) | with_reducible apply Sub.drop)); first | done | fail)) ?_
      refine rs_b2 4 9 rfl rfl rfl rfl ?_ ?_ 
      · skip
        refine (k_callf Try.func19 rfl rfl rfl rfl ?_)
        refine Calls.mono (secret_calls (hw.xQ) rfl) ?_
        rintro _ w ⟨vb, rfl, hw⟩
        refine ⟨_, rfl, ?_⟩
        refine ⟨fun _ => (by exact Sat.sub hw (by (repeat (first | with_reducible exact Sub.refl _ | exact Sub.nil _ | (apply Sub.cons; focus ((repeat (first | with_reducible exact Pick.here _ | apply Pick.there)); (first | done | fail))) | with_reducible apply Sub.drop)); first | done | fail)), ?_⟩
        refine rs_b2 5 9 rfl rfl rfl rfl ?_ ?_ 
        · skip
          refine (k_callf Try.func20 rfl rfl rfl rfl ?_)
          obtain ⟨g3, hg3, hvn, hw⟩ := ((hw.xP (A := pt vb (.cells (⟨1, o.value, ByteArray.empty⟩ : Vn).cells.toArray 53 (0, 0)))).xP (A := RO g)).freeze_lit (R := rdVn) (sz := 3) (bytes := 40) mono_Vn (xs := [⟨1, o.value, ByteArray.empty⟩]) (Els.one rfl ⟨rfl, sec_ok hvs⟩) rfl (by simp [maxLen]) (by simp [reachBytes])
          have hen : rdEn g3 [.string o.name, .slice (some ⟨vb, 0, none⟩) 1 1] (secO o) := ⟨_, _, rfl, ⟨rfl, hns⟩, hvn⟩
          refine Calls.mono (tput_calls hen ht (by omega) (by omega) hrk (HeapI.mono hg3 hI) (hw.xQ)) ?_
          rintro _ w ⟨g4, A4, s4, root4, h4, u4, hg4, hI4, rfl, hok4, hst, hlv, _, hw⟩
          refine ⟨_, rfl, ?_⟩
          refine ⟨fun hn => absurd (by decide) hn, ?_⟩
          refine rs_a 6 rfl rfl rfl rfl (v_move rfl) ?_
          refine rs_a 7 rfl rfl rfl rfl (v_extract rfl rfl) ?_
          refine rs_a 8 rfl rfl rfl rfl (v_extract rfl rfl) ?_
          refine rs_k 9 rfl rfl (k_alloc hw T.zero_25 rfl rfl (fun bk10_9 w hw => ?_))
          refine ⟨fun _ => (by exact Sat.sub hw (by (repeat (first | with_reducible exact Sub.refl _ | exact Sub.nil _ | (apply Sub.cons; focus ((repeat (first | with_reducible exact Pick.here _ | apply Pick.there)); (first | done | fail))) | with_reducible apply Sub.drop)); first | done | fail)), ?_⟩
          refine rs_k 10 rfl rfl (k_storeWhole hw T.agg_25_4 rfl rfl (by simp [Value.oneCell']) rfl (by (repeat first | with_reducible exact xH | apply xT); first | done | fail) rfl (fun w hw => ?_))
          refine ⟨fun hn => absurd (by decide) hn, ?_⟩
          refine rs_kv 11 rfl rfl rfl rfl (S' := fun _ => True) trivial (v_assign rfl) ?_
          refine rs_done (g_le (xK (xK (xK (xK (xK (xK (xK (xK (xK (xK (xK (Fr.le_refl _)))))))))))) ?_)
          refine g_seq (g_seq ?_)
          refine g_region ?_
          refine xV rfl rfl rfl (v_move rfl) ?_
          refine xV rfl rfl rfl (v_neqF rfl rfl (by omega)) ?_
          refine rl_nil (g_le (xK (xK (Fr.le_refl _))) ?_)
          refine g_cond_false rfl ?_
          refine g_skip ?_
          refine g_region ?_
          refine rl_v rfl rfl rfl (by exact sat_cells hw (by (repeat first | with_reducible exact xH | apply xT); first | done | fail) ⟨rfl, rfl, rfl, rfl, trivial⟩) (v_loadAgg (vs := [_, _, _, _]) T.agg_25_4 rfl rfl) ?_
          refine rl_k rfl (k_storeWhole hw T.agg_25_4 rfl rfl (by simp [Value.oneCell']) rfl (by (repeat first | with_reducible exact xH | apply xT); first | done | fail) rfl (fun w hw => ?_))
          refine rl_nil (g_le (xK (Fr.le_refl _)) ?_)
          refine g_inBlock ?_
          refine g_region ?_
          refine xV rfl rfl rfl (v_add rfl rfl (by omega)) ?_
          refine xV rfl rfl rfl (v_move rfl) ?_
          refine rl_nil (g_le (xK (xK (Fr.le_refl _))) ?_)
          have hsl3 := hst.len
          exact g_le (by repeat (first | exact Fr.le_nil _ | refine Fr.le_cons rfl ?_)) (ih (i + 1, g4, s4, A4, root4) w ⟨by simp only; omega, by simp only; omega, hg.trans (hg3.trans hg4), hI4, hok4, ⟨h4, u4, hst.tree, by rw [hst.ents]; have := (insE_len ht.srt (secO o)).2; simp only; omega⟩, by simp only; omega, hw.xQ⟩ (by simp only; omega))
        · skip
          refine (k_alloc hw T.zero_25 rfl rfl (fun bk10_9 w hw => ?_))
          refine ⟨fun _ => (by exact Sat.sub hw (by (repeat (first | with_reducible exact Sub.refl _ | exact Sub.nil _ | (apply Sub.cons; focus ((repeat (first | with_reducible exact Pick.here _ | apply Pick.there)); (first | done | fail))) | with_reducible apply Sub.drop)); first | done | fail)), ?_⟩
          refine rs_k 5 rfl rfl (k_callf Try.func20 rfl rfl rfl rfl ?_)
          obtain ⟨g3, hg3, hvn, hw⟩ := ((hw.xP (A := pt vb (.cells (⟨1, o.value, ByteArray.empty⟩ : Vn).cells.toArray 53 (0, 0)))).xP (A := RO g)).freeze_lit (R := rdVn) (sz := 3) (bytes := 40) mono_Vn (xs := [⟨1, o.value, ByteArray.empty⟩]) (Els.one rfl ⟨rfl, sec_ok hvs⟩) rfl (by simp [maxLen]) (by simp [reachBytes])
          have hen : rdEn g3 [.string o.name, .slice (some ⟨vb, 0, none⟩) 1 1] (secO o) := ⟨_, _, rfl, ⟨rfl, hns⟩, hvn⟩
          refine Calls.mono (tput_calls hen ht (by omega) (by omega) hrk (HeapI.mono hg3 hI) (hw.xQ)) ?_
          rintro _ w ⟨g4, A4, s4, root4, h4, u4, hg4, hI4, rfl, hok4, hst, hlv, _, hw⟩
          refine ⟨_, rfl, ?_⟩
          refine ⟨fun hn => absurd (by decide) hn, ?_⟩
          refine rs_kv 6 rfl rfl rfl rfl (S' := fun _ => True) trivial (v_move rfl) ?_
          refine rs_a 7 rfl rfl rfl rfl (v_extract rfl rfl) ?_
          refine rs_a 8 rfl rfl rfl rfl (v_extract rfl rfl) ?_
          refine rs_k 10 rfl rfl (k_storeWhole hw T.agg_25_4 rfl rfl (by simp [Value.oneCell']) rfl (by (repeat first | with_reducible exact xH | apply xT); first | done | fail) rfl (fun w hw => ?_))
          refine ⟨fun hn => absurd (by decide) hn, ?_⟩
          refine rs_kv 11 rfl rfl rfl rfl (S' := fun _ => True) trivial (v_assign rfl) ?_
          refine rs_done (g_le (xK (xK (xK (xK (xK (xK (xK (xK (xK (xK (xK (Fr.le_refl _)))))))))))) ?_)
          refine g_seq (g_seq ?_)
          refine g_region ?_
          refine xV rfl rfl rfl (v_move rfl) ?_
          refine xV rfl rfl rfl (v_neqF rfl rfl (by omega)) ?_
          refine rl_nil (g_le (xK (xK (Fr.le_refl _))) ?_)
          refine g_cond_false rfl ?_
          refine g_skip ?_
          refine g_region ?_
          refine rl_v rfl rfl rfl (by exact sat_cells hw (by (repeat first | with_reducible exact xH | apply xT); first | done | fail) ⟨rfl, rfl, rfl, rfl, trivial⟩) (v_loadAgg (vs := [_, _, _, _]) T.agg_25_4 rfl rfl) ?_
          refine rl_k rfl (k_storeWhole hw T.agg_25_4 rfl rfl (by simp [Value.oneCell']) rfl (by (repeat first | with_reducible exact xH | apply xT); first | done | fail) rfl (fun w hw => ?_))
          refine rl_nil (g_le (xK (Fr.le_refl _)) ?_)
          refine g_inBlock ?_
          refine g_region ?_
          refine xV rfl rfl rfl (v_add rfl rfl (by omega)) ?_
          refine xV rfl rfl rfl (v_move rfl) ?_
          refine rl_nil (g_le (xK (xK (Fr.le_refl _))) ?_)
          have hsl3 := hst.len
          exact g_le (by repeat (first | exact Fr.le_nil _ | refine Fr.le_cons rfl ?_)) (ih (i + 1, g4, s4, A4, root4) w ⟨by simp only; omega, by simp only; omega, hg.trans (hg3.trans hg4), hI4, hok4, ⟨h4, u4, hst.tree, by rw [hst.ents]; have := (insE_len ht.srt (secO o)).2; simp only; omega⟩, by simp only; omega, hw.xQ⟩ (by simp only; omega))
      · skip
        refine (k_alloc hw T.zero_25 rfl rfl (fun bk10_9 w hw => ?_))
        refine ⟨fun _ => (by exact Sat.sub hw (by (repeat (first | with_reducible exact Sub.refl _ | exact Sub.nil _ | (apply Sub.cons; focus ((repeat (first | with_reducible exact Pick.here _ | apply Pick.there)); (first | done | fail))) | with_reducible apply Sub.drop)); first | done | fail)), ?_⟩
        refine rs_k 4 rfl rfl (k_callf Try.func19 rfl rfl rfl rfl ?_)
        refine Calls.mono (secret_calls (hw.xQ) rfl) ?_
        rintro _ w ⟨vb, rfl, hw⟩
        refine ⟨_, rfl, ?_⟩
        refine ⟨fun _ => (by exact Sat.sub hw (by (repeat (first | with_reducible exact Sub.refl _ | exact Sub.nil _ | (apply Sub.cons; focus ((repeat (first | with_reducible exact Pick.here _ | apply Pick.there)); (first | done | fail))) | with_reducible apply Sub.drop)); first | done | fail)), ?_⟩
        refine rs_k 5 rfl rfl (k_callf Try.func20 rfl rfl rfl rfl ?_)
        obtain ⟨g3, hg3, hvn, hw⟩ := ((hw.xP (A := pt vb (.cells (⟨1, o.value, ByteArray.empty⟩ : Vn).cells.toArray 53 (0, 0)))).xP (A := RO g)).freeze_lit (R := rdVn) (sz := 3) (bytes := 40) mono_Vn (xs := [⟨1, o.value, ByteArray.empty⟩]) (Els.one rfl ⟨rfl, sec_ok hvs⟩) rfl (by simp [maxLen]) (by simp [reachBytes])
        have hen : rdEn g3 [.string o.name, .slice (some ⟨vb, 0, none⟩) 1 1] (secO o) := ⟨_, _, rfl, ⟨rfl, hns⟩, hvn⟩
        refine Calls.mono (tput_calls hen ht (by omega) (by omega) hrk (HeapI.mono hg3 hI) (hw.xQ)) ?_
        rintro _ w ⟨g4, A4, s4, root4, h4, u4, hg4, hI4, rfl, hok4, hst, hlv, _, hw⟩
        refine ⟨_, rfl, ?_⟩
        refine ⟨fun hn => absurd (by decide) hn, ?_⟩
        refine rs_kv 6 rfl rfl rfl rfl (S' := fun _ => True) trivial (v_move rfl) ?_
        refine rs_a 7 rfl rfl rfl rfl (v_extract rfl rfl) ?_
        refine rs_a 8 rfl rfl rfl rfl (v_extract rfl rfl) ?_
        refine rs_k 10 rfl rfl (k_storeWhole hw T.agg_25_4 rfl rfl (by simp [Value.oneCell']) rfl (by (repeat first | with_reducible exact xH | apply xT); first | done | fail) rfl (fun w hw => ?_))
        refine ⟨fun hn => absurd (by decide) hn, ?_⟩
        refine rs_kv 11 rfl rfl rfl rfl (S' := fun _ => True) trivial (v_assign rfl) ?_
        refine rs_done (g_le (xK (xK (xK (xK (xK (xK (xK (xK (xK (xK (xK (Fr.le_refl _)))))))))))) ?_)
        refine g_seq (g_seq ?_)
        refine g_region ?_
        refine xV rfl rfl rfl (v_move rfl) ?_
        refine xV rfl rfl rfl (v_neqF rfl rfl (by omega)) ?_
        refine rl_nil (g_le (xK (xK (Fr.le_refl _))) ?_)
        refine g_cond_false rfl ?_
        refine g_skip ?_
        refine g_region ?_
        refine rl_v rfl rfl rfl (by exact sat_cells hw (by (repeat first | with_reducible exact xH | apply xT); first | done | fail) ⟨rfl, rfl, rfl, rfl, trivial⟩) (v_loadAgg (vs := [_, _, _, _]) T.agg_25_4 rfl rfl) ?_
        refine rl_k rfl (k_storeWhole hw T.agg_25_4 rfl rfl (by simp [Value.oneCell']) rfl (by (repeat first | with_reducible exact xH | apply xT); first | done | fail) rfl (fun w hw => ?_))
        refine rl_nil (g_le (xK (Fr.le_refl _)) ?_)
        refine g_inBlock ?_
        refine g_region ?_
        refine xV rfl rfl rfl (v_add rfl rfl (by omega)) ?_
        refine xV rfl rfl rfl (v_move rfl) ?_
        refine rl_nil (g_le (xK (xK (Fr.le_refl _))) ?_)
        have hsl3 := hst.len
        exact g_le (by repeat (first | exact Fr.le_nil _ | refine Fr.le_cons rfl ?_)) (ih (i + 1, g4, s4, A4, root4) w ⟨by simp only; omega, by simp only; omega, hg.trans (hg3.trans hg4), hI4, hok4, ⟨h4, u4, hst.tree, by rw [hst.ents]; have := (insE_len ht.srt (secO o)).2; simp only; omega⟩, by simp only; omega, hw.xQ⟩ (by simp only; omega))
  · try with_reducible exact tf_elim h3
    all_goals
      try replace h3 := of_decide_eq_false h3
      refine g_exit rfl (g_seq ?_)
      refine g_region ?_
      refine xV rfl rfl rfl (v_move rfl) ?_
      refine xV rfl rfl rfl (v_mkIface T.ptr_26 rfl) ?_
      refine rl_v rfl rfl rfl (by exact sat_cells hw (by (repeat first | with_reducible exact xH | apply xT); first | done | fail) ⟨rfl, rfl, rfl, rfl, trivial⟩) (v_loadAgg (vs := [_, _, _, _]) T.agg_25_4 rfl rfl) ?_
      refine rl_k rfl (k_callf Try.func23 rfl rfl rfl rfl ?_)
      refine Calls.mono (tall_calls ht (by omega) hrk hI (hw.xQ)) ?_
      rintro _ w ⟨g2, A2, la, lc, hg2, hI2, rfl, hold, hw⟩
      refine ⟨_, rfl, ?_⟩
      refine xV rfl rfl rfl (v_move rfl) ?_
      refine xV rfl rfl rfl (v_extract rfl rfl) ?_
      refine xV rfl rfl rfl (v_extract rfl rfl) ?_
      refine xV rfl rfl rfl (v_assign rfl) ?_
      refine xV rfl rfl rfl (v_assign rfl) ?_
      refine rl_nil (g_le (xK (xK (xS rfl (xS rfl (xS rfl (xS rfl (xS rfl (xS rfl (xS rfl (Fr.le_refl _)))))))))) ?_)
      refine g_seq ?_
      refine g_region ?_
      refine xV rfl rfl rfl (v_move rfl) ?_
      refine rl_k rfl (k_callf Try.func14 rfl rfl rfl rfl ?_)
      refine Calls.mono (tlen_calls hI2 (hw.xQ)) ?_
      rintro _ w ⟨rfl, hw⟩
      refine ⟨_, rfl, ?_⟩
      refine xV rfl rfl rfl (v_assign rfl) ?_
      refine rl_nil (g_le (xK (xS rfl (xS rfl (Fr.le_refl _)))) ?_)
      refine g_seq ?_
      refine g_region ?_
      refine xV rfl rfl rfl (v_move rfl) ?_
      refine xV rfl rfl rfl (v_mkIface T.ptr_26 rfl) ?_
      refine rl_v rfl rfl rfl (by exact sat_cells hw (by (repeat first | with_reducible exact xH | apply xT); first | done | fail) ⟨rfl, rfl, rfl, rfl, trivial⟩) (v_loadAgg (vs := [_, _, _, _]) T.agg_25_4 rfl rfl) ?_
      refine xV rfl rfl rfl (v_move rfl) ?_
      refine rl_k rfl (k_callf Try.func26 rfl rfl rfl rfl ?_)
      have hpf := (pages_few hh u ht.ok).2
      refine Calls.mono (tmove_calls (mono_sl mono_int (hg.trans hg2) hrs) ht (by omega) (by omega) hrk hI2 (hw.xQ)) ?_
      rintro _ w ⟨g3, A3, s3, root3, n3, u3, hg3, hI3, rfl, hok3, hmv, ht3, hw⟩
      refine ⟨_, rfl, ?_⟩
      refine xV rfl rfl rfl (v_move rfl) ?_
      refine xV rfl rfl rfl (v_extract rfl rfl) ?_
      refine xV rfl rfl rfl (v_extract rfl rfl) ?_
      refine xV rfl rfl rfl (v_extract rfl rfl) ?_
      refine rl_k rfl (k_alloc hw T.zero_25 rfl rfl (fun bk17_9 w hw => ?_))
      refine rl_k rfl (k_storeWhole hw T.agg_25_4 rfl rfl (by simp [Value.oneCell']) rfl (by (repeat first | with_reducible exact xH | apply xT); first | done | fail) rfl (fun w hw => ?_))
      refine xV rfl rfl rfl (v_assign rfl) ?_
      refine xV rfl rfl rfl (v_assign rfl) ?_
      refine rl_nil (g_le (xK (xK (xK (xS rfl (xS rfl (xS rfl (xS rfl (xS rfl (xS rfl (xS rfl (xS rfl (xS rfl (Fr.le_refl _))))))))))))) ?_)
      refine g_seq ?_
      refine g_region ?_
      refine xV rfl rfl rfl (v_move rfl) ?_
      refine xV rfl rfl rfl (v_mkIface T.ptr_26 rfl) ?_
      refine rl_v rfl rfl rfl (by exact sat_cells hw (by (repeat first | with_reducible exact xH | apply xT); first | done | fail) ⟨rfl, rfl, rfl, rfl, trivial⟩) (v_loadAgg (vs := [_, _, _, _]) T.agg_25_4 rfl rfl) ?_
      refine rl_k rfl (k_callf Try.func23 rfl rfl rfl rfl ?_)
      refine Calls.mono (tall_calls ht3 (by omega) hok3 hI3 (hw.xQ)) ?_
      rintro _ w ⟨g4, A4, lb, ld, hg4, hI4, rfl, hnow, hw⟩
      refine ⟨_, rfl, ?_⟩
      refine xV rfl rfl rfl (v_move rfl) ?_
      refine xV rfl rfl rfl (v_extract rfl rfl) ?_
      refine xV rfl rfl rfl (v_extract rfl rfl) ?_
      refine xV rfl rfl rfl (v_assign rfl) ?_
      refine xV rfl rfl rfl (v_assign rfl) ?_
      refine rl_nil (g_le (xK (xK (xS rfl (xS rfl (xS rfl (xS rfl (xS rfl (xS rfl (xS rfl (Fr.le_refl _)))))))))) ?_)
      refine g_seq (g_seq ?_)
      have hrel := hmv.seen 1
      have hcnt := hmv.cnt
      obtain ⟨orest, horest⟩ := seen_head hh 1 root u
      generalize hod : seenU hh 1 root u = old at hold hrel horest
      generalize hnw : seenU hh 1 root3 u3 = now at hnow hrel
      have hold4 := mono_sl mono_Sn (hg3.trans hg4) hold
      have hrs4 := mono_sl mono_int (hg.trans (hg2.trans (hg3.trans hg4))) hrs
      obtain ⟨_, hob, _, _, go⟩ := rdSl_get hold4
      obtain ⟨_, hnb, _, _, gn⟩ := rdSl_get hnow
      simp only [reachBytes] at hob hnb
      obtain ⟨hln, hlm3⟩ := mv_len hrel
      have hop : 0 < old.length := by rw [horest]; simp
      refine g_region ?_
      refine xV rfl rfl rfl (v_move rfl) ?_
      refine xV rfl rfl rfl (v_neqF rfl rfl (by omega)) ?_
      refine xV rfl rfl rfl (v_move rfl) ?_
      refine rl_vg (met_on rfl rfl rfl rfl) rfl rfl (S := fun _ => True) trivial (v_move rfl) ?_
      refine rl_vg (met_on rfl rfl rfl rfl) rfl rfl (S := fun _ => True) trivial (v_neqF rfl rfl (by omega)) ?_
      refine xV rfl rfl rfl (v_pick_false rfl rfl) ?_
      refine xV rfl rfl rfl (v_move rfl) ?_
      refine rl_vg (met_on rfl rfl rfl rfl) rfl rfl (S := fun _ => True) trivial (v_move rfl) ?_
      refine rl_vg (met_on rfl rfl rfl rfl) rfl rfl (S := fun _ => True) trivial (v_neqF rfl rfl (by omega)) ?_
      refine xV rfl rfl rfl (v_pick_false rfl rfl) ?_
      refine xV rfl rfl rfl (v_move rfl) ?_
      refine rl_vg (met_on rfl rfl rfl rfl) rfl rfl (S := fun _ => True) trivial (v_move rfl) ?_
      refine rl_vg (met_on rfl rfl rfl rfl) rfl rfl (S := fun _ => True) trivial (v_lenSlice T.sl_57_61_8 rfl) ?_
      refine rl_vg (met_on rfl rfl rfl rfl) rfl rfl (S := fun _ => True) trivial (v_move rfl) ?_
      refine rl_vg (met_on rfl rfl rfl rfl) rfl rfl (S := fun _ => True) trivial (v_lenSlice T.sl_57_61_8 rfl) ?_
      refine rl_vg (met_on rfl rfl rfl rfl) rfl rfl (S := fun _ => True) trivial (v_neqF rfl rfl (by omega)) ?_
      refine xV rfl rfl rfl (v_pick_false rfl rfl) ?_
      refine xV rfl rfl rfl (v_move rfl) ?_
      refine rl_vg (met_on rfl rfl rfl rfl) rfl rfl (S := fun _ => True) trivial (v_move rfl) ?_
      refine rl_vg (met_on rfl rfl rfl rfl) rfl rfl (S := fun _ => True) trivial (v_lenSlice T.sl_57_61_8 rfl) ?_
      refine rl_vg (met_on rfl rfl rfl rfl) rfl rfl (S := fun _ => True) trivial (v_lssF rfl rfl (by omega)) ?_
      refine xV rfl rfl rfl (v_pick_false rfl rfl) ?_
      refine xV rfl rfl rfl (v_move rfl) ?_
      refine rl_vg (met_on rfl rfl rfl rfl) rfl rfl (S := fun _ => True) trivial (v_move rfl) ?_
      refine rl_kg (met_on rfl rfl rfl rfl) (k_callf Try.func14 rfl rfl rfl rfl ?_); refine Calls.mono (tlen_calls hI4 (hw.xQ)) ?_; rintro _ w ⟨rfl, hw⟩; refine ⟨_, rfl, ?_⟩
      refine rl_vg (met_on rfl rfl rfl rfl) rfl rfl (S := fun _ => True) trivial (v_move rfl) ?_
      refine rl_vg (met_on rfl rfl rfl rfl) rfl rfl (S := fun _ => True) trivial (v_move rfl) ?_
      refine rl_vg (met_on rfl rfl rfl rfl) rfl rfl (S := fun _ => True) trivial (v_add rfl rfl (by omega)) ?_
      refine rl_vg (met_on rfl rfl rfl rfl) rfl rfl (S := fun _ => True) trivial (v_neqF rfl rfl (by omega)) ?_
      refine xV rfl rfl rfl (v_pick_false rfl rfl) ?_
      refine rl_nil (g_le (xK (xS rfl (xS rfl (xS rfl (xS rfl (xS rfl (xS rfl (xS rfl (xS rfl (xS rfl (xS rfl (xS rfl (xS rfl (xS rfl (xS rfl (xS rfl (xS rfl (xS rfl (xS rfl (xS rfl (xS rfl (xS rfl (xS rfl (xS rfl (xS rfl (xS rfl (xS rfl (xS rfl (xS rfl (xS rfl (Fr.le_refl _))))))))))))))))))))))))))))))) ?_)
      refine g_cond_false rfl ?_
      refine g_skip (g_seq (g_seq ?_))
      refine g_region ?_
      refine xV rfl rfl rfl (v_move rfl) ?_
      refine xV rfl rfl rfl (v_lenSlice T.sl_57_61_8 rfl) ?_
      refine xV rfl rfl rfl (v_move rfl) ?_
      refine rl_nil (g_le (xK (xK (xS rfl (Fr.le_refl _)))) ?_)
      refine g_block ?_
      refine g_loopC (σ := Nat × Nat) (fun C x => (111, .int .i64 (x.1 : Nat)) :: (16, .int .i64 (x.2 : Nat)) :: C) [(1, _), (4, _), (12, _), (18, _), (110, _)] (by repeat (first | exact Fr.le_nil _ | refine Fr.le_cons rfl ?_)) (fun z w => z.1 ≤ now.length ∧ mvRel segs (old.drop z.1) (now.drop z.1) z.2 ∧ Sat (envOf W) w (A4 :: RO g4 :: [])) (fun z => now.length - z.1) ?_ (0, n3) (by repeat (first | exact Fr.le_nil _ | refine Fr.le_cons rfl ?_)) ⟨by simp, by simpa using hrel, hw.xQ⟩
      rintro ⟨k, n⟩ w ⟨hk1, hrk2, hw⟩ ih2
      dsimp only at hk1 hrk2 hw ih2 ⊢
      have hnle := (mv_len hrk2).2
      rw [List.length_drop] at hnle
      refine g_seq ?_
      refine g_region ?_
      refine xV rfl rfl rfl (v_lss rfl rfl) ?_
      refine rl_nil (g_le (xK (Fr.le_refl _)) ?_)
      refine g_seq ?_
      refine g_cond rfl (fun h6 => ?_) (fun h6 => ?_)
      · try with_reducible exact ft_elim h6
        all_goals
          try replace h6 := of_decide_eq_true h6
          refine g_skip (g_seq (g_block (g_seq ?_)))
          refine g_region ?_
          refine xV rfl rfl rfl (v_move rfl) ?_
          refine xV rfl rfl rfl (v_assign rfl) ?_
          refine rl_nil (g_le (xK (xK (Fr.le_refl _))) ?_)
          refine g_seq ?_
          have hz := hw
          clear hw
          obtain ⟨b5, o5, y, ycs, rfl, hy, hat5, hl5, hrdy⟩ := gn (k : Nat) (by omega) (by omega)
          obtain ⟨b6, o6, x, xcs, rfl, hx, hat6, hl6, hrdx⟩ := go (k : Nat) (by omega) (by omega)
          rw [Int.toNat_natCast] at hx hat6 hy hat5
          obtain ⟨hy1, hy2⟩ := List.getElem?_eq_some_iff.1 hy
          obtain ⟨hx1, hx2⟩ := List.getElem?_eq_some_iff.1 hx
          rw [List.drop_eq_getElem_cons hy1, List.drop_eq_getElem_cons hx1, hy2, hx2] at hrk2
          simp only [mvRel] at hrk2
          obtain ⟨hdp, hlf, hen, hkd, hrest⟩ := hrk2
          obtain ⟨ya, yn, yc, yk, ykn, ykc, rfl, hndy⟩ := sn_told hrdy
          obtain ⟨xa, xn, xc, xk, xkn, xkc, rfl, hndx⟩ := sn_told hrdx
          obtain ⟨n0, n1, n2, hq9, _, hqe, hqk⟩ := id hndy
          simp only [List.cons.injEq, and_true] at hq9
          obtain ⟨_, rfl, rfl⟩ := hq9
          obtain ⟨m0, m1, m2, hq8, _, hpe, hpk⟩ := id hndx
          simp only [List.cons.injEq, and_true] at hq8
          obtain ⟨_, rfl, rfl⟩ := hq8
          obtain ⟨rfl, hykb, _, _, gyk⟩ := rdSl_get hqk
          obtain ⟨rfl, hxkb, _, _, gxk⟩ := rdSl_get hpk
          simp only [reachBytes] at hykb hxkb
          have hkl : y.node.kids.length = x.node.kids.length := by have := congrArg List.length hkd; simpa using this
          have hatY : HAt g4 b5 (o5 + k * 8 + 1) [.int .u64 y.ref.key, .int .i64 y.ref.seg, .int .i64 y.ref.off, .int .i64 y.ref.len] := hat5.sub 1 4
          have hatYn : HAt g4 b5 (o5 + k * 8 + 5) [.bool y.node.leaf, .slice ya yn yc, .slice yk y.node.kids.length ykc] := hat5.sub 5 3
          have hatXn : HAt g4 b6 (o6 + k * 8 + 5) [.bool x.node.leaf, .slice xa xn xc, .slice xk x.node.kids.length xkc] := hat6.sub 5 3
          have hatX : HAt g4 b6 (o6 + k * 8 + 1) [.int .u64 x.ref.key, .int .i64 x.ref.seg, .int .i64 x.ref.off, .int .i64 x.ref.len] := hat6.sub 1 4
          have hw := hz
          refine g_drawR ord_f5_r24_H07V (by kernel_rfl) T.mixed hw (fun w hw => ?_)
          refine rs_a 0 rfl rfl rfl rfl (v_move rfl) ?_
          refine rs_a 1 rfl rfl rfl rfl (v_move rfl) ?_
          refine rs_a 2 rfl rfl rfl rfl (v_indexAddr T.sl_57_61_8 rfl rfl (by omega) (by omega)) ?_
          refine rs_a 3 rfl rfl rfl rfl (v_fieldAddr T.fld_61_1_1 rfl) ?_
          refine rs_a 5 rfl rfl rfl rfl (v_move rfl) ?_
          refine rs_a 6 rfl rfl rfl rfl (v_move rfl) ?_
          refine rs_a 7 rfl rfl rfl rfl (v_indexAddr T.sl_57_61_8 rfl rfl (by omega) (by omega)) ?_
          refine rs_a 8 rfl rfl rfl rfl (v_fieldAddr T.fld_61_1_1 rfl) ?_
          refine rs_v 4 rfl rfl rfl rfl (OpV.mono (v_loadAgg (vs := [_, _, _, _]) T.agg_25_4 rfl rfl) (fun w hw => by exact ro_ats hw (by (repeat first | with_reducible exact xH | apply xT); first | done | fail) (by assumption))) (by exact hw) ?_
          refine rs_kv 9 rfl rfl rfl rfl (by exact ro_ats hw (by (repeat first | with_reducible exact xH | apply xT); first | done | fail) (by assumption)) (v_loadAgg (vs := [_, _, _, _]) T.agg_25_4 rfl rfl) ?_
          refine rs_kv 10 rfl rfl rfl rfl (S' := fun _ => True) trivial (v_eqlAgg T.cmp_25_iiii rfl rfl rfl rfl (by exact eq_Rf _ _)) ?_
          refine rs_kv 11 rfl rfl rfl rfl (S' := fun _ => True) trivial (v_assign rfl) ?_
          refine rs_done (g_le (xK (xK (xK (xK (xK (xK (xK (xK (xK (xK (xK (xK (Fr.le_refl _))))))))))))) ?_)
          refine g_seq (g_seq ?_)
          refine g_drawR ord_f5_r25_H07V (by kernel_rfl) T.mixed hw (fun w hw => ?_)
          refine rs_kv 0 rfl rfl rfl rfl (S' := fun _ => True) trivial (v_move rfl) ?_
          refine rs_kv 1 rfl rfl rfl rfl (S' := fun _ => True) trivial (v_move rfl) ?_
          refine rs_split (s := 126) rfl (fun g25_1 => ?_) (fun g25_1 => ?_)
          · try with_reducible exact ft_elim g25_1
            all_goals
              try replace g25_1 := of_decide_eq_true g25_1
              refine rs_ag 2 rfl (met_on rfl rfl rfl rfl) rfl rfl (v_move rfl) ?_
              refine rs_ag 3 rfl (met_on rfl rfl rfl rfl) rfl rfl (v_move rfl) ?_
              refine rs_kvg 4 rfl (met_on rfl rfl rfl rfl) rfl rfl (S' := fun _ => True) trivial (v_move rfl) ?_
              refine rs_kvg 5 rfl (met_on rfl rfl rfl rfl) rfl rfl (S' := fun _ => True) trivial (v_indexAddr T.sl_57_61_8 rfl rfl (by omega) (by omega)) ?_
              refine rs_kvg 6 rfl (met_on rfl rfl rfl rfl) rfl rfl (S' := fun _ => True) trivial (v_fieldAddr T.fld_61_1_1 rfl) ?_
              refine rs_kvg 7 rfl (met_on rfl rfl rfl rfl) rfl rfl (S' := fun _ => True) trivial (v_fieldAddr T.fld_25_1_1 rfl) ?_
              refine rs_kvg 8 rfl (met_on rfl rfl rfl rfl) rfl rfl (by exact ro_at hw (by (repeat first | with_reducible exact xH | apply xT); first | done | fail) (by assumption) rfl) (v_load T.scal_3 rfl) ?_
              refine rs_kg 9 rfl (met_on rfl rfl rfl rfl) (k_callf Try.func27 rfl rfl rfl rfl ?_)
              refine Calls.mono (In_calls y.ref.seg hrs4 (hw.xQ)) ?_
              (have hns : y.ref.seg ∉ segs := by (rcases hrest with ⟨_, hns, _⟩ | ⟨hne, _⟩; (rw [g25_1]; exact hns); exact absurd g25_1 hne))
              rw [decide_eq_false hns]
              rintro _ w ⟨rfl, hw⟩
              refine ⟨_, rfl, ?_⟩
              refine ⟨fun _ => (by exact Sat.sub hw (by (repeat (first | with_reducible exact Sub.refl _ | exact Sub.nil _ | (apply Sub.cons; focus ((repeat (first | with_reducible exact Pick.here _ | apply Pick.there)); (first | done | fail))) | with_reducible apply Sub.drop)); first | done | fail)), ?_⟩
              refine rs_kv 10 rfl rfl rfl rfl (S' := fun _ => True) trivial (v_pick_true rfl rfl) ?_
              refine rs_kv 11 rfl rfl rfl rfl (S' := fun _ => True) trivial (v_move rfl) ?_
              refine rs_split (s := 136) rfl (fun g25_11 => ?_) (fun g25_11 => ?_)
              · try with_reducible exact ft_elim g25_11
                all_goals
                  try replace g25_11 := of_decide_eq_true g25_11
                  refine rs_aoff 12 rfl (met_off rfl rfl rfl rfl rfl) rfl rfl ?_
                  refine rs_aoff 13 rfl (met_off rfl rfl rfl rfl rfl) rfl rfl ?_
                  refine rs_aoff 14 rfl (met_off rfl rfl rfl rfl rfl) rfl rfl ?_
                  refine rs_aoff 15 rfl (met_off rfl rfl rfl rfl rfl) rfl rfl ?_
                  refine rs_aoff 17 rfl (met_off rfl rfl rfl rfl rfl) rfl rfl ?_
                  refine rs_aoff 18 rfl (met_off rfl rfl rfl rfl rfl) rfl rfl ?_
                  refine rs_aoff 19 rfl (met_off rfl rfl rfl rfl rfl) rfl rfl ?_
                  refine rs_aoff 20 rfl (met_off rfl rfl rfl rfl rfl) rfl rfl ?_
                  refine rs_voff 16 rfl (met_off rfl rfl rfl rfl rfl) rfl rfl (by first | exact hw | exact Sat.sub hw (by (repeat (first | with_reducible exact Sub.refl _ | exact Sub.nil _ | (apply Sub.cons; focus ((repeat (first | with_reducible exact Pick.here _ | apply Pick.there)); (first | done | fail))) | with_reducible apply Sub.drop)); first | done | fail)) ?_
                  refine rs_koff 21 rfl (met_off rfl rfl rfl rfl rfl) rfl rfl ?_
                  refine rs_koff 22 rfl (met_off rfl rfl rfl rfl rfl) rfl rfl ?_
                  first | (refine rs_kv 23 rfl rfl rfl rfl (S' := fun _ => True) trivial (v_pick_true rfl rfl) ?_) | (refine rs_kv 23 rfl rfl rfl rfl (S' := fun _ => True) trivial (v_pick_false rfl rfl) ?_) | (refine rs_kv 23 rfl rfl rfl rfl (S' := fun _ => True) trivial (v_pick rfl rfl rfl) ?_)
                  refine rs_kv 24 rfl rfl rfl rfl (S' := fun _ => True) trivial (v_move rfl) ?_
                  refine rs_aoff 25 rfl (met_off rfl rfl rfl rfl rfl) rfl rfl ?_
                  refine rs_aoff 26 rfl (met_off rfl rfl rfl rfl rfl) rfl rfl ?_
                  refine rs_aoff 27 rfl (met_off rfl rfl rfl rfl rfl) rfl rfl ?_
                  refine rs_aoff 28 rfl (met_off rfl rfl rfl rfl rfl) rfl rfl ?_
                  refine rs_aoff 29 rfl (met_off rfl rfl rfl rfl rfl) rfl rfl ?_
                  refine rs_aoff 31 rfl (met_off rfl rfl rfl rfl rfl) rfl rfl ?_
                  refine rs_aoff 32 rfl (met_off rfl rfl rfl rfl rfl) rfl rfl ?_
                  refine rs_aoff 33 rfl (met_off rfl rfl rfl rfl rfl) rfl rfl ?_
                  refine rs_aoff 34 rfl (met_off rfl rfl rfl rfl rfl) rfl rfl ?_
                  refine rs_aoff 35 rfl (met_off rfl rfl rfl rfl rfl) rfl rfl ?_
                  refine rs_voff 30 rfl (met_off rfl rfl rfl rfl rfl) rfl rfl (by first | exact hw | exact Sat.sub hw (by (repeat (first | with_reducible exact Sub.refl _ | exact Sub.nil _ | (apply Sub.cons; focus ((repeat (first | with_reducible exact Pick.here _ | apply Pick.there)); (first | done | fail))) | with_reducible apply Sub.drop)); first | done | fail)) ?_
                  refine rs_koff 36 rfl (met_off rfl rfl rfl rfl rfl) rfl rfl ?_
                  refine rs_koff 37 rfl (met_off rfl rfl rfl rfl rfl) rfl rfl ?_
                  first | (refine rs_kv 38 rfl rfl rfl rfl (S' := fun _ => True) trivial (v_pick_true rfl rfl) ?_) | (refine rs_kv 38 rfl rfl rfl rfl (S' := fun _ => True) trivial (v_pick_false rfl rfl) ?_) | (refine rs_kv 38 rfl rfl rfl rfl (S' := fun _ => True) trivial (v_pick rfl rfl rfl) ?_)
                  refine rs_kv 39 rfl rfl rfl rfl (S' := fun _ => True) trivial (v_move rfl) ?_
                  refine rs_aoff 40 rfl (met_off rfl rfl rfl rfl rfl) rfl rfl ?_
                  refine rs_aoff 41 rfl (met_off rfl rfl rfl rfl rfl) rfl rfl ?_
                  refine rs_aoff 42 rfl (met_off rfl rfl rfl rfl rfl) rfl rfl ?_
                  refine rs_aoff 43 rfl (met_off rfl rfl rfl rfl rfl) rfl rfl ?_
                  refine rs_aoff 44 rfl (met_off rfl rfl rfl rfl rfl) rfl rfl ?_
                  refine rs_aoff 46 rfl (met_off rfl rfl rfl rfl rfl) rfl rfl ?_
                  refine rs_aoff 47 rfl (met_off rfl rfl rfl rfl rfl) rfl rfl ?_
                  refine rs_aoff 48 rfl (met_off rfl rfl rfl rfl rfl) rfl rfl ?_
                  refine rs_aoff 49 rfl (met_off rfl rfl rfl rfl rfl) rfl rfl ?_
                  refine rs_aoff 50 rfl (met_off rfl rfl rfl rfl rfl) rfl rfl ?_
                  refine rs_voff 45 rfl (met_off rfl rfl rfl rfl rfl) rfl rfl (by first | exact hw | exact Sat.sub hw (by (repeat (first | with_reducible exact Sub.refl _ | exact Sub.nil _ | (apply Sub.cons; focus ((repeat (first | with_reducible exact Pick.here _ | apply Pick.there)); (first | done | fail))) | with_reducible apply Sub.drop)); first | done | fail)) ?_
                  refine rs_koff 51 rfl (met_off rfl rfl rfl rfl rfl) rfl rfl ?_
                  refine rs_koff 52 rfl (met_off rfl rfl rfl rfl rfl) rfl rfl ?_
                  refine rs_koff 53 rfl (met_off rfl rfl rfl rfl rfl) rfl rfl ?_
                  first | (refine rs_kv 54 rfl rfl rfl rfl (S' := fun _ => True) trivial (v_pick_true rfl rfl) ?_) | (refine rs_kv 54 rfl rfl rfl rfl (S' := fun _ => True) trivial (v_pick_false rfl rfl) ?_) | (refine rs_kv 54 rfl rfl rfl rfl (S' := fun _ => True) trivial (v_pick rfl rfl rfl) ?_)
                  refine rs_kv 55 rfl rfl rfl rfl (S' := fun _ => True) trivial (v_move rfl) ?_
                  refine rs_aoff 56 rfl (met_off rfl rfl rfl rfl rfl) rfl rfl ?_
                  refine rs_aoff 57 rfl (met_off rfl rfl rfl rfl rfl) rfl rfl ?_
                  refine rs_aoff 58 rfl (met_off rfl rfl rfl rfl rfl) rfl rfl ?_
                  refine rs_aoff 59 rfl (met_off rfl rfl rfl rfl rfl) rfl rfl ?_
                  refine rs_aoff 60 rfl (met_off rfl rfl rfl rfl rfl) rfl rfl ?_
                  refine rs_aoff 63 rfl (met_off rfl rfl rfl rfl rfl) rfl rfl ?_
                  refine rs_aoff 64 rfl (met_off rfl rfl rfl rfl rfl) rfl rfl ?_
                  refine rs_aoff 65 rfl (met_off rfl rfl rfl rfl rfl) rfl rfl ?_
                  refine rs_aoff 66 rfl (met_off rfl rfl rfl rfl rfl) rfl rfl ?_
                  refine rs_aoff 67 rfl (met_off rfl rfl rfl rfl rfl) rfl rfl ?_
                  refine rs_voff 61 rfl (met_off rfl rfl rfl rfl rfl) rfl rfl (by first | exact hw | exact Sat.sub hw (by (repeat (first | with_reducible exact Sub.refl _ | exact Sub.nil _ | (apply Sub.cons; focus ((repeat (first | with_reducible exact Pick.here _ | apply Pick.there)); (first | done | fail))) | with_reducible apply Sub.drop)); first | done | fail)) ?_
                  refine rs_aoff 62 rfl (met_off rfl rfl rfl rfl rfl) rfl rfl ?_
                  refine rs_koff 68 rfl (met_off rfl rfl rfl rfl rfl) rfl rfl ?_
                  refine rs_koff 69 rfl (met_off rfl rfl rfl rfl rfl) rfl rfl ?_
                  refine rs_koff 70 rfl (met_off rfl rfl rfl rfl rfl) rfl rfl ?_
                  first | (refine rs_kv 71 rfl rfl rfl rfl (S' := fun _ => True) trivial (v_pick_true rfl rfl) ?_) | (refine rs_kv 71 rfl rfl rfl rfl (S' := fun _ => True) trivial (v_pick_false rfl rfl) ?_) | (refine rs_kv 71 rfl rfl rfl rfl (S' := fun _ => True) trivial (v_pick rfl rfl rfl) ?_)
                  refine rs_done (g_le (xK (xK (xK (xK (xK (xK (xK (xK (xK (xK (xK (xK (xK (xK (xK (xK (xK (xK (xK (xK (xK (xK (xK (xK (xK (xK (xK (xK (xK (xK (xK (xK (xK (xK (xK (xK (xK (xK (xK (xK (xK (xK (xK (xK (xK (xK (xK (xK (xK (xK (xK (xK (xK (xK (xK (xK (xK (xK (xK (xK (xK (xK (xK (xK (xK (xK (xK (xK (xK (xK (xK (xK (xK (xK (Fr.le_refl _))))))))))))))))))))))))))))))))))))))))))))))))))))))))))))))))))))))))))) ?_)
                  refine g_cond_false rfl ?_
                  refine g_skip (g_seq (g_seq ?_))
                  refine g_region ?_
                  refine xV rfl rfl rfl (v_move rfl) ?_
                  refine xV rfl rfl rfl (v_not rfl) ?_
                  refine rl_nil (g_le (xK (xK (Fr.le_refl _))) ?_)
                  refine g_cutc (σ := Nat) (fun C x => (16, .int .i64 (x : Nat)) :: C) [(1, _), (4, _), (12, _), (18, _), (20, _), (21, _), (110, _), (111, _), (112, _), (113, _), (114, _), (115, _), (116, _), (117, _), (118, _), (119, _), (120, _), (121, _), (122, _), (123, _), (124, _), (125, _), (126, _), (127, _), (128, _), (129, _), (130, _), (131, _), (132, _), (133, _), (134, _), (135, _), (136, _), (137, _), (138, _), (139, _), (140, _), (141, _), (142, _), (143, _), (144, _), (145, _), (146, _), (147, _), (148, _), (149, _), (150, _), (151, _), (152, _), (153, _), (154, _), (155, _), (156, _), (157, _), (158, _), (159, _), (160, _), (161, _), (162, _), (163, _), (164, _), (165, _), (166, _), (167, _), (168, _), (169, _), (170, _), (171, _), (172, _), (173, _), (174, _), (175, _), (176, _), (177, _), (178, _), (179, _), (180, _), (181, _), (182, _), (183, _), (184, _), (185, _), (186, _), (187, _), (188, _), (189, _), (190, _), (191, _), (192, _), (193, _), (194, _), (195, _), (196, _), (197, _), (198, _)] (by repeat (first | exact Fr.le_nil _ | refine Fr.le_cons rfl ?_)) (fun z w => mvRel segs (old.drop (k + 1)) (now.drop (k + 1)) z ∧ Sat (envOf W) w (A4 :: RO g4 :: [])) ?_ ?_
                  · skip
                    rintro n4 w ⟨hrel4, hw⟩
                    all_goals
                      refine g_seq ?_
                      refine g_region ?_
                      refine xV rfl rfl rfl (v_move rfl) ?_
                      refine xV rfl rfl rfl (v_move rfl) ?_
                      refine xV rfl rfl rfl (v_indexAddr T.sl_57_61_8 rfl rfl (by omega) (by omega)) ?_
                      first | (refine xV rfl rfl rfl (v_fieldAddr0 T.fld_61_2_5 rfl) ?_) | (refine xV rfl rfl rfl (v_fieldAddr T.fld_61_2_5 rfl) ?_)
                      first | (refine xV rfl rfl rfl (v_fieldAddr0 T.fld_32_2_2 rfl) ?_) | (refine xV rfl rfl rfl (v_fieldAddr T.fld_32_2_2 rfl) ?_)
                      refine rl_v rfl rfl rfl (by first | exact sat_cell hw (by (repeat first | with_reducible exact xH | apply xT); first | done | fail) rfl | exact own_cell hw (by (repeat first | with_reducible exact xH | apply xT); first | done | fail) (by first | rfl | assumption) | exact ro_at0 hw (by (repeat first | with_reducible exact xH | apply xT); first | done | fail) (by assumption) rfl | exact ro_at hw (by (repeat first | with_reducible exact xH | apply xT); first | done | fail) (by assumption) rfl | exact own_at0 hw (by (repeat first | with_reducible exact xH | apply xT); first | done | fail) (by assumption) rfl | exact own_at hw (by (repeat first | with_reducible exact xH | apply xT); first | done | fail) (by assumption) rfl | exact old_cell hw (by (repeat first | with_reducible exact xH | apply xT); first | done | fail) (by assumption) | assumption) (v_load T.scal_30 rfl) ?_
                      refine xV rfl rfl rfl (v_lenSlice T.sl_30_70_5 rfl) ?_
                      refine xV rfl rfl rfl (v_move rfl) ?_
                      refine rl_nil (g_le (xK (xK (xK (xK (xK (xK (xK (xK (Fr.le_refl _))))))))) ?_)
                      refine g_block ?_
                      refine g_loopC (σ := Nat) (fun C x => (208, .int .i64 (x : Nat)) :: C) [(1, _), (4, _), (12, _), (16, _), (18, _), (20, _), (21, _), (110, _), (111, _), (112, _), (113, _), (114, _), (115, _), (116, _), (117, _), (118, _), (119, _), (120, _), (121, _), (122, _), (123, _), (124, _), (125, _), (126, _), (127, _), (128, _), (129, _), (130, _), (131, _), (132, _), (133, _), (134, _), (135, _), (136, _), (137, _), (138, _), (139, _), (140, _), (141, _), (142, _), (143, _), (144, _), (145, _), (146, _), (147, _), (148, _), (149, _), (150, _), (151, _), (152, _), (153, _), (154, _), (155, _), (156, _), (157, _), (158, _), (159, _), (160, _), (161, _), (162, _), (163, _), (164, _), (165, _), (166, _), (167, _), (168, _), (169, _), (170, _), (171, _), (172, _), (173, _), (174, _), (175, _), (176, _), (177, _), (178, _), (179, _), (180, _), (181, _), (182, _), (183, _), (184, _), (185, _), (186, _), (187, _), (188, _), (189, _), (190, _), (191, _), (192, _), (193, _), (194, _), (195, _), (196, _), (197, _), (198, _), (201, _), (202, _), (203, _), (204, _), (205, _), (206, _), (207, _)] (by repeat (first | exact Fr.le_nil _ | refine Fr.le_cons rfl ?_)) (fun z w => z ≤ y.node.kids.length ∧ Sat (envOf W) w (A4 :: RO g4 :: [])) (fun z => y.node.kids.length - z) ?_ 0 (by repeat (first | exact Fr.le_nil _ | refine Fr.le_cons rfl ?_)) ⟨by simp, hw.xQ⟩
                      rintro j w ⟨hj1, hw⟩ ih3
                      refine g_seq ?_
                      refine g_region ?_
                      first | (refine xV rfl rfl rfl (v_lssT rfl rfl (by omega)) ?_) | (refine xV rfl rfl rfl (v_lssF rfl rfl (by omega)) ?_) | (refine xV rfl rfl rfl (v_lss rfl rfl) ?_)
                      refine rl_nil (g_le (xK (Fr.le_refl _)) ?_)
                      refine g_seq ?_
                      refine g_cond rfl (fun h9 => ?_) (fun h9 => ?_)
                      · try with_reducible exact ft_elim h9
                        all_goals
                          try replace h9 := of_decide_eq_true h9
                          refine g_skip (g_seq (g_block (g_seq ?_)))
                          refine g_region ?_
                          refine xV rfl rfl rfl (v_move rfl) ?_
                          refine xV rfl rfl rfl (v_assign rfl) ?_
                          refine rl_nil (g_le (xK (xK (Fr.le_refl _))) ?_)
                          refine g_seq ?_
                          have hz := hw
                          clear hw
                          obtain ⟨b7, o7, yd, ecs7, rfl, hyd, hat7, hl7, rfl, _⟩ := gyk (j : Nat) (by omega) (by omega)
                          obtain ⟨b8, o8, xd, ecs8, rfl, hxd, hat8, hl8, rfl, _⟩ := gxk (j : Nat) (by omega) (by omega)
                          rw [Int.toNat_natCast] at hyd hat7 hxd hat8
                          have hlows : yd.low = xd.low := by have := congrArg (fun l => l[j]?) hkd; simpa [hyd, hxd] using this
                          have hw := hz
                          refine g_drawR ord_f5_r32_H07V (by kernel_rfl) T.mixed hw (fun w hw => ?_)
                          refine rs_a 0 rfl rfl rfl rfl (v_move rfl) ?_
                          refine rs_a 1 rfl rfl rfl rfl (v_move rfl) ?_
                          refine rs_a 2 rfl rfl rfl rfl (v_indexAddr T.sl_57_61_8 rfl rfl (by omega) (by omega)) ?_
                          first | (refine rs_a 3 rfl rfl rfl rfl (v_fieldAddr0 T.fld_61_2_5 rfl) ?_) | (refine rs_a 3 rfl rfl rfl rfl (v_fieldAddr T.fld_61_2_5 rfl) ?_)
                          first | (refine rs_a 4 rfl rfl rfl rfl (v_fieldAddr0 T.fld_32_2_2 rfl) ?_) | (refine rs_a 4 rfl rfl rfl rfl (v_fieldAddr T.fld_32_2_2 rfl) ?_)
                          refine rs_a 6 rfl rfl rfl rfl (v_move rfl) ?_
                          refine rs_a 10 rfl rfl rfl rfl (v_move rfl) ?_
                          refine rs_a 11 rfl rfl rfl rfl (v_move rfl) ?_
                          refine rs_a 12 rfl rfl rfl rfl (v_indexAddr T.sl_57_61_8 rfl rfl (by omega) (by omega)) ?_
                          first | (refine rs_a 13 rfl rfl rfl rfl (v_fieldAddr0 T.fld_61_2_5 rfl) ?_) | (refine rs_a 13 rfl rfl rfl rfl (v_fieldAddr T.fld_61_2_5 rfl) ?_)
                          first | (refine rs_a 14 rfl rfl rfl rfl (v_fieldAddr0 T.fld_32_2_2 rfl) ?_) | (refine rs_a 14 rfl rfl rfl rfl (v_fieldAddr T.fld_32_2_2 rfl) ?_)
                          refine rs_a 16 rfl rfl rfl rfl (v_move rfl) ?_
                          refine rs_v 5 rfl rfl rfl rfl (OpV.mono (v_load T.scal_30 rfl) (fun w hw => by first | exact sat_cell hw (by (repeat first | with_reducible exact xH | apply xT); first | done | fail) rfl | exact own_cell hw (by (repeat first | with_reducible exact xH | apply xT); first | done | fail) (by first | rfl | assumption) | exact ro_at0 hw (by (repeat first | with_reducible exact xH | apply xT); first | done | fail) (by assumption) rfl | exact ro_at hw (by (repeat first | with_reducible exact xH | apply xT); first | done | fail) (by assumption) rfl | exact own_at0 hw (by (repeat first | with_reducible exact xH | apply xT); first | done | fail) (by assumption) rfl | exact own_at hw (by (repeat first | with_reducible exact xH | apply xT); first | done | fail) (by assumption) rfl | exact old_cell hw (by (repeat first | with_reducible exact xH | apply xT); first | done | fail) (by assumption) | assumption)) (by first | exact hw | exact Sat.sub hw (by (repeat (first | with_reducible exact Sub.refl _ | exact Sub.nil _ | (apply Sub.cons; focus ((repeat (first | with_reducible exact Pick.here _ | apply Pick.there)); (first | done | fail))) | with_reducible apply Sub.drop)); first | done | fail)) ?_
                          refine rs_a 7 rfl rfl rfl rfl (v_indexAddr T.sl_30_70_5 rfl rfl (by omega) (by omega)) ?_
                          first | (refine rs_a 8 rfl rfl rfl rfl (v_fieldAddr0 T.fld_70_0_0 rfl) ?_) | (refine rs_a 8 rfl rfl rfl rfl (v_fieldAddr T.fld_70_0_0 rfl) ?_)
                          refine rs_v 9 rfl rfl rfl rfl (OpV.mono (v_load T.scal_9 rfl) (fun w hw => by first | exact sat_cell hw (by (repeat first | with_reducible exact xH | apply xT); first | done | fail) rfl | exact own_cell hw (by (repeat first | with_reducible exact xH | apply xT); first | done | fail) (by first | rfl | assumption) | exact ro_at0 hw (by (repeat first | with_reducible exact xH | apply xT); first | done | fail) (by assumption) rfl | exact ro_at hw (by (repeat first | with_reducible exact xH | apply xT); first | done | fail) (by assumption) rfl | exact own_at0 hw (by (repeat first | with_reducible exact xH | apply xT); first | done | fail) (by assumption) rfl | exact own_at hw (by (repeat first | with_reducible exact xH | apply xT); first | done | fail) (by assumption) rfl | exact old_cell hw (by (repeat first | with_reducible exact xH | apply xT); first | done | fail) (by assumption) | assumption)) (by first | exact hw | exact Sat.sub hw (by (repeat (first | with_reducible exact Sub.refl _ | exact Sub.nil _ | (apply Sub.cons; focus ((repeat (first | with_reducible exact Pick.here _ | apply Pick.there)); (first | done | fail))) | with_reducible apply Sub.drop)); first | done | fail)) ?_
                          refine rs_kv 15 rfl rfl rfl rfl (by first | exact sat_cell hw (by (repeat first | with_reducible exact xH | apply xT); first | done | fail) rfl | exact own_cell hw (by (repeat first | with_reducible exact xH | apply xT); first | done | fail) (by first | rfl | assumption) | exact ro_at0 hw (by (repeat first | with_reducible exact xH | apply xT); first | done | fail) (by assumption) rfl | exact ro_at hw (by (repeat first | with_reducible exact xH | apply xT); first | done | fail) (by assumption) rfl | exact own_at0 hw (by (repeat first | with_reducible exact xH | apply xT); first | done | fail) (by assumption) rfl | exact own_at hw (by (repeat first | with_reducible exact xH | apply xT); first | done | fail) (by assumption) rfl | exact old_cell hw (by (repeat first | with_reducible exact xH | apply xT); first | done | fail) (by assumption) | assumption) (v_load T.scal_30 rfl) ?_
                          refine rs_kv 17 rfl rfl rfl rfl (S' := fun _ => True) trivial (v_indexAddr T.sl_30_70_5 rfl rfl (by omega) (by omega)) ?_
                          first | (refine rs_kv 18 rfl rfl rfl rfl (S' := fun _ => True) trivial (v_fieldAddr0 T.fld_70_0_0 rfl) ?_) | (refine rs_kv 18 rfl rfl rfl rfl (S' := fun _ => True) trivial (v_fieldAddr T.fld_70_0_0 rfl) ?_)
                          refine rs_kv 19 rfl rfl rfl rfl (by first | exact sat_cell hw (by (repeat first | with_reducible exact xH | apply xT); first | done | fail) rfl | exact own_cell hw (by (repeat first | with_reducible exact xH | apply xT); first | done | fail) (by first | rfl | assumption) | exact ro_at0 hw (by (repeat first | with_reducible exact xH | apply xT); first | done | fail) (by assumption) rfl | exact ro_at hw (by (repeat first | with_reducible exact xH | apply xT); first | done | fail) (by assumption) rfl | exact own_at0 hw (by (repeat first | with_reducible exact xH | apply xT); first | done | fail) (by assumption) rfl | exact own_at hw (by (repeat first | with_reducible exact xH | apply xT); first | done | fail) (by assumption) rfl | exact old_cell hw (by (repeat first | with_reducible exact xH | apply xT); first | done | fail) (by assumption) | assumption) (v_load T.scal_9 rfl) ?_
                          first | (refine rs_kv 20 rfl rfl rfl rfl (S' := fun _ => True) trivial (v_neqStrF rfl rfl (by first | rfl | assumption)) ?_) | (refine rs_kv 20 rfl rfl rfl rfl (S' := fun _ => True) trivial (v_neqStrT rfl rfl (by first | assumption | decide)) ?_) | (refine rs_kv 20 rfl rfl rfl rfl (S' := fun _ => True) trivial (v_neqStr rfl rfl) ?_)
                          refine rs_done (g_le (xK (xK (xK (xK (xK (xK (xK (xK (xK (xK (xK (xK (xK (xK (xK (xK (xK (xK (xK (xK (xK (Fr.le_refl _)))))))))))))))))))))) ?_)
                          refine g_cond_false rfl ?_
                          refine g_skip (g_inBlock ?_)
                          refine g_region ?_
                          first | (refine xV rfl rfl rfl (v_add rfl rfl (by omega)) ?_) | (refine xV rfl rfl rfl (v_addW rfl rfl) ?_)
                          refine xV rfl rfl rfl (v_move rfl) ?_
                          refine rl_nil (g_le (xK (xK (Fr.le_refl _))) ?_)
                          exact g_le (by repeat (first | exact Fr.le_nil _ | refine Fr.le_cons rfl ?_)) (ih3 (j + 1) w ⟨by omega, hw.xQ⟩ (by omega))
                      · try with_reducible exact tf_elim h9
                        all_goals
                          try replace h9 := of_decide_eq_false h9
                          refine g_exit rfl (g_inBlock ?_)
                          refine g_region ?_
                          first | (refine xV rfl rfl rfl (v_add rfl rfl (by omega)) ?_) | (refine xV rfl rfl rfl (v_addW rfl rfl) ?_)
                          refine xV rfl rfl rfl (v_move rfl) ?_
                          refine rl_nil (g_le (xK (xK (Fr.le_refl _))) ?_)
                          exact g_le (by repeat (first | exact Fr.le_nil _ | refine Fr.le_cons rfl ?_)) (ih2 (k + 1, n4) w ⟨by simp only; omega, hrel4, hw.xQ⟩ (by simp only; omega))
                  · intro joinc8
                    refine g_cond rfl (fun h8 => ?_) (fun h8 => ?_)
                    · try with_reducible exact ft_elim h8
                      all_goals
                        try replace h8 := of_decide_eq_true h8
                        refine g_region ?_
                        refine xV rfl rfl rfl (v_move rfl) ?_
                        first | (refine xV rfl rfl rfl (v_sub rfl rfl (by omega)) ?_) | (refine xV rfl rfl rfl (v_subW rfl rfl) ?_)
                        refine xV rfl rfl rfl (v_assign rfl) ?_
                        refine rl_nil (g_le (xK (xK (xK (Fr.le_refl _)))) ?_)
                        rcases hrest with ⟨he, _⟩ | ⟨_, m, rfl, hrel4⟩
                        exact absurd he (by simpa using h8)
                        rw [show ((m + 1 : Nat) : Int) - 1 = (m : Nat) by omega]
                        exact joinc8 m w _ (by repeat (first | exact Fr.le_nil _ | refine Fr.le_cons rfl ?_)) ⟨hrel4, hw.xQ⟩
                    · try with_reducible exact tf_elim h8
                      all_goals
                        try replace h8 := of_decide_eq_false h8
                        refine g_skip ?_
                        rcases hrest with ⟨_, _, hrel4⟩ | ⟨hne, _⟩
                        exact joinc8 n w _ (by repeat (first | exact Fr.le_nil _ | refine Fr.le_cons rfl ?_)) ⟨hrel4, hw.xQ⟩
                        exact absurd (by simpa using h8) hne
              · try with_reducible exact tf_elim g25_11
                all_goals
                  try replace g25_11 := of_decide_eq_false g25_11
                  refine rs_ag 12 rfl (met_on rfl rfl rfl rfl) rfl rfl (v_move rfl) ?_
                  refine rs_ag 13 rfl (met_on rfl rfl rfl rfl) rfl rfl (v_move rfl) ?_
                  refine rs_ag 14 rfl (met_on rfl rfl rfl rfl) rfl rfl (v_indexAddr T.sl_57_61_8 rfl rfl (by omega) (by omega)) ?_
                  refine rs_ag 15 rfl (met_on rfl rfl rfl rfl) rfl rfl (v_fieldAddr T.fld_61_0_0 rfl) ?_
                  refine rs_ag 17 rfl (met_on rfl rfl rfl rfl) rfl rfl (v_move rfl) ?_
                  refine rs_ag 18 rfl (met_on rfl rfl rfl rfl) rfl rfl (v_move rfl) ?_
                  refine rs_ag 19 rfl (met_on rfl rfl rfl rfl) rfl rfl (v_indexAddr T.sl_57_61_8 rfl rfl (by omega) (by omega)) ?_
                  refine rs_ag 20 rfl (met_on rfl rfl rfl rfl) rfl rfl (v_fieldAddr T.fld_61_0_0 rfl) ?_
                  refine rs_vg 16 rfl (met_on rfl rfl rfl rfl) rfl rfl (OpV.mono (v_load T.scal_3 rfl) (fun w hw => by exact ro_at0 hw (by (repeat first | with_reducible exact xH | apply xT); first | done | fail) (by assumption) rfl)) (by exact Sat.sub hw (by (repeat (first | with_reducible exact Sub.refl _ | exact Sub.nil _ | (apply Sub.cons; focus ((repeat (first | with_reducible exact Pick.here _ | apply Pick.there)); (first | done | fail))) | with_reducible apply Sub.drop)); first | done | fail)) ?_
                  refine rs_kvg 21 rfl (met_on rfl rfl rfl rfl) rfl rfl (by exact ro_at0 hw (by (repeat first | with_reducible exact xH | apply xT); first | done | fail) (by assumption) rfl) (v_load T.scal_3 rfl) ?_
                  refine rs_kvg 22 rfl (met_on rfl rfl rfl rfl) rfl rfl (S' := fun _ => True) trivial (v_neqF rfl rfl (by omega)) ?_
                  refine rs_kv 23 rfl rfl rfl rfl (S' := fun _ => True) trivial (v_pick_false rfl rfl) ?_
                  refine rs_kv 24 rfl rfl rfl rfl (S' := fun _ => True) trivial (v_move rfl) ?_
                  refine rs_split (s := 149) rfl (fun g25_24 => ?_) (fun g25_24 => ?_)
                  · try with_reducible exact ft_elim g25_24
                    all_goals
                      try replace g25_24 := of_decide_eq_true g25_24
                      refine rs_aoff 25 rfl (met_off rfl rfl rfl rfl rfl) rfl rfl ?_
                      refine rs_aoff 26 rfl (met_off rfl rfl rfl rfl rfl) rfl rfl ?_
                      refine rs_aoff 27 rfl (met_off rfl rfl rfl rfl rfl) rfl rfl ?_
                      refine rs_aoff 28 rfl (met_off rfl rfl rfl rfl rfl) rfl rfl ?_
                      refine rs_aoff 29 rfl (met_off rfl rfl rfl rfl rfl) rfl rfl ?_
                      refine rs_aoff 31 rfl (met_off rfl rfl rfl rfl rfl) rfl rfl ?_
                      refine rs_aoff 32 rfl (met_off rfl rfl rfl rfl rfl) rfl rfl ?_
                      refine rs_aoff 33 rfl (met_off rfl rfl rfl rfl rfl) rfl rfl ?_
                      refine rs_aoff 34 rfl (met_off rfl rfl rfl rfl rfl) rfl rfl ?_
                      refine rs_aoff 35 rfl (met_off rfl rfl rfl rfl rfl) rfl rfl ?_
                      refine rs_voff 30 rfl (met_off rfl rfl rfl rfl rfl) rfl rfl (by first | exact hw | exact Sat.sub hw (by (repeat (first | with_reducible exact Sub.refl _ | exact Sub.nil _ | (apply Sub.cons; focus ((repeat (first | with_reducible exact Pick.here _ | apply Pick.there)); (first | done | fail))) | with_reducible apply Sub.drop)); first | done | fail)) ?_
                      refine rs_koff 36 rfl (met_off rfl rfl rfl rfl rfl) rfl rfl ?_
                      refine rs_koff 37 rfl (met_off rfl rfl rfl rfl rfl) rfl rfl ?_
                      first | (refine rs_kv 38 rfl rfl rfl rfl (S' := fun _ => True) trivial (v_pick_true rfl rfl) ?_) | (refine rs_kv 38 rfl rfl rfl rfl (S' := fun _ => True) trivial (v_pick_false rfl rfl) ?_) | (refine rs_kv 38 rfl rfl rfl rfl (S' := fun _ => True) trivial (v_pick rfl rfl rfl) ?_)
                      refine rs_kv 39 rfl rfl rfl rfl (S' := fun _ => True) trivial (v_move rfl) ?_
                      refine rs_aoff 40 rfl (met_off rfl rfl rfl rfl rfl) rfl rfl ?_
                      refine rs_aoff 41 rfl (met_off rfl rfl rfl rfl rfl) rfl rfl ?_
                      refine rs_aoff 42 rfl (met_off rfl rfl rfl rfl rfl) rfl rfl ?_
                      refine rs_aoff 43 rfl (met_off rfl rfl rfl rfl rfl) rfl rfl ?_
                      refine rs_aoff 44 rfl (met_off rfl rfl rfl rfl rfl) rfl rfl ?_
                      refine rs_aoff 46 rfl (met_off rfl rfl rfl rfl rfl) rfl rfl ?_
                      refine rs_aoff 47 rfl (met_off rfl rfl rfl rfl rfl) rfl rfl ?_
                      refine rs_aoff 48 rfl (met_off rfl rfl rfl rfl rfl) rfl rfl ?_
                      refine rs_aoff 49 rfl (met_off rfl rfl rfl rfl rfl) rfl rfl ?_
                      refine rs_aoff 50 rfl (met_off rfl rfl rfl rfl rfl) rfl rfl ?_
                      refine rs_voff 45 rfl (met_off rfl rfl rfl rfl rfl) rfl rfl (by first | exact hw | exact Sat.sub hw (by (repeat (first | with_reducible exact Sub.refl _ | exact Sub.nil _ | (apply Sub.cons; focus ((repeat (first | with_reducible exact Pick.here _ | apply Pick.there)); (first | done | fail))) | with_reducible apply Sub.drop)); first | done | fail)) ?_
                      refine rs_koff 51 rfl (met_off rfl rfl rfl rfl rfl) rfl rfl ?_
                      refine rs_koff 52 rfl (met_off rfl rfl rfl rfl rfl) rfl rfl ?_
                      refine rs_koff 53 rfl (met_off rfl rfl rfl rfl rfl) rfl rfl ?_
                      first | (refine rs_kv 54 rfl rfl rfl rfl (S' := fun _ => True) trivial (v_pick_true rfl rfl) ?_) | (refine rs_kv 54 rfl rfl rfl rfl (S' := fun _ => True) trivial (v_pick_false rfl rfl) ?_) | (refine rs_kv 54 rfl rfl rfl rfl (S' := fun _ => True) trivial (v_pick rfl rfl rfl) ?_)
                      refine rs_kv 55 rfl rfl rfl rfl (S' := fun _ => True) trivial (v_move rfl) ?_
                      refine rs_aoff 56 rfl (met_off rfl rfl rfl rfl rfl) rfl rfl ?_
                      refine rs_aoff 57 rfl (met_off rfl rfl rfl rfl rfl) rfl rfl ?_
                      refine rs_aoff 58 rfl (met_off rfl rfl rfl rfl rfl) rfl rfl ?_
                      refine rs_aoff 59 rfl (met_off rfl rfl rfl rfl rfl) rfl rfl ?_
                      refine rs_aoff 60 rfl (met_off rfl rfl rfl rfl rfl) rfl rfl ?_
                      refine rs_aoff 63 rfl (met_off rfl rfl rfl rfl rfl) rfl rfl ?_
                      refine rs_aoff 64 rfl (met_off rfl rfl rfl rfl rfl) rfl rfl ?_
                      refine rs_aoff 65 rfl (met_off rfl rfl rfl rfl rfl) rfl rfl ?_
                      refine rs_aoff 66 rfl (met_off rfl rfl rfl rfl rfl) rfl rfl ?_
                      refine rs_aoff 67 rfl (met_off rfl rfl rfl rfl rfl) rfl rfl ?_
                      refine rs_voff 61 rfl (met_off rfl rfl rfl rfl rfl) rfl rfl (by first | exact hw | exact Sat.sub hw (by (repeat (first | with_reducible exact Sub.refl _ | exact Sub.nil _ | (apply Sub.cons; focus ((repeat (first | with_reducible exact Pick.here _ | apply Pick.there)); (first | done | fail))) | with_reducible apply Sub.drop)); first | done | fail)) ?_
                      refine rs_aoff 62 rfl (met_off rfl rfl rfl rfl rfl) rfl rfl ?_
                      refine rs_koff 68 rfl (met_off rfl rfl rfl rfl rfl) rfl rfl ?_
                      refine rs_koff 69 rfl (met_off rfl rfl rfl rfl rfl) rfl rfl ?_
                      refine rs_koff 70 rfl (met_off rfl rfl rfl rfl rfl) rfl rfl ?_
                      first | (refine rs_kv 71 rfl rfl rfl rfl (S' := fun _ => True) trivial (v_pick_true rfl rfl) ?_) | (refine rs_kv 71 rfl rfl rfl rfl (S' := fun _ => True) trivial (v_pick_false rfl rfl) ?_) | (refine rs_kv 71 rfl rfl rfl rfl (S' := fun _ => True) trivial (v_pick rfl rfl rfl) ?_)
                      refine rs_done (g_le (xK (xK (xK (xK (xK (xK (xK (xK (xK (xK (xK (xK (xK (xK (xK (xK (xK (xK (xK (xK (xK (xK (xK (xK (xK (xK (xK (xK (xK (xK (xK (xK (xK (xK (xK (xK (xK (xK (xK (xK (xK (xK (xK (xK (xK (xK (xK (xK (xK (xK (xK (xK (xK (xK (xK (xK (xK (xK (xK (xK (xK (xK (xK (xK (xK (xK (xK (xK (xK (xK (xK (xK (xK (xK (xK (Fr.le_refl _)))))))))))))))))))))))))))))))))))))))))))))))))))))))))))))))))))))))))))) ?_)
                      refine g_cond_false rfl ?_
                      refine g_skip (g_seq (g_seq ?_))
                      refine g_region ?_
                      refine xV rfl rfl rfl (v_move rfl) ?_
                      refine xV rfl rfl rfl (v_not rfl) ?_
                      refine rl_nil (g_le (xK (xK (Fr.le_refl _))) ?_)
                      refine g_cutc (σ := Nat) (fun C x => (16, .int .i64 (x : Nat)) :: C) [(1, _), (4, _), (12, _), (18, _), (20, _), (21, _), (110, _), (111, _), (112, _), (113, _), (114, _), (115, _), (116, _), (117, _), (118, _), (119, _), (120, _), (121, _), (122, _), (123, _), (124, _), (125, _), (126, _), (127, _), (128, _), (129, _), (130, _), (131, _), (132, _), (133, _), (134, _), (135, _), (136, _), (137, _), (138, _), (139, _), (140, _), (141, _), (142, _), (143, _), (144, _), (145, _), (146, _), (147, _), (148, _), (149, _), (150, _), (151, _), (152, _), (153, _), (154, _), (155, _), (156, _), (157, _), (158, _), (159, _), (160, _), (161, _), (162, _), (163, _), (164, _), (165, _), (166, _), (167, _), (168, _), (169, _), (170, _), (171, _), (172, _), (173, _), (174, _), (175, _), (176, _), (177, _), (178, _), (179, _), (180, _), (181, _), (182, _), (183, _), (184, _), (185, _), (186, _), (187, _), (188, _), (189, _), (190, _), (191, _), (192, _), (193, _), (194, _), (195, _), (196, _), (197, _), (198, _)] (by repeat (first | exact Fr.le_nil _ | refine Fr.le_cons rfl ?_)) (fun z w => mvRel segs (old.drop (k + 1)) (now.drop (k + 1)) z ∧ Sat (envOf W) w (A4 :: RO g4 :: [])) ?_ ?_
                      · skip
                        rintro n4 w ⟨hrel4, hw⟩
                        all_goals
                          refine g_seq ?_
                          refine g_region ?_
                          refine xV rfl rfl rfl (v_move rfl) ?_
                          refine xV rfl rfl rfl (v_move rfl) ?_
                          refine xV rfl rfl rfl (v_indexAddr T.sl_57_61_8 rfl rfl (by omega) (by omega)) ?_
                          first | (refine xV rfl rfl rfl (v_fieldAddr0 T.fld_61_2_5 rfl) ?_) | (refine xV rfl rfl rfl (v_fieldAddr T.fld_61_2_5 rfl) ?_)
                          first | (refine xV rfl rfl rfl (v_fieldAddr0 T.fld_32_2_2 rfl) ?_) | (refine xV rfl rfl rfl (v_fieldAddr T.fld_32_2_2 rfl) ?_)
                          refine rl_v rfl rfl rfl (by first | exact sat_cell hw (by (repeat first | with_reducible exact xH | apply xT); first | done | fail) rfl | exact own_cell hw (by (repeat first | with_reducible exact xH | apply xT); first | done | fail) (by first | rfl | assumption) | exact ro_at0 hw (by (repeat first | with_reducible exact xH | apply xT); first | done | fail) (by assumption) rfl | exact ro_at hw (by (repeat first | with_reducible exact xH | apply xT); first | done | fail) (by assumption) rfl | exact own_at0 hw (by (repeat first | with_reducible exact xH | apply xT); first | done | fail) (by assumption) rfl | exact own_at hw (by (repeat first | with_reducible exact xH | apply xT); first | done | fail) (by assumption) rfl | exact old_cell hw (by (repeat first | with_reducible exact xH | apply xT); first | done | fail) (by assumption) | assumption) (v_load T.scal_30 rfl) ?_
                          refine xV rfl rfl rfl (v_lenSlice T.sl_30_70_5 rfl) ?_
                          refine xV rfl rfl rfl (v_move rfl) ?_
                          refine rl_nil (g_le (xK (xK (xK (xK (xK (xK (xK (xK (Fr.le_refl _))))))))) ?_)
                          refine g_block ?_
                          refine g_loopC (σ := Nat) (fun C x => (208, .int .i64 (x : Nat)) :: C) [(1, _), (4, _), (12, _), (16, _), (18, _), (20, _), (21, _), (110, _), (111, _), (112, _), (113, _), (114, _), (115, _), (116, _), (117, _), (118, _), (119, _), (120, _), (121, _), (122, _), (123, _), (124, _), (125, _), (126, _), (127, _), (128, _), (129, _), (130, _), (131, _), (132, _), (133, _), (134, _), (135, _), (136, _), (137, _), (138, _), (139, _), (140, _), (141, _), (142, _), (143, _), (144, _), (145, _), (146, _), (147, _), (148, _), (149, _), (150, _), (151, _), (152, _), (153, _), (154, _), (155, _), (156, _), (157, _), (158, _), (159, _), (160, _), (161, _), (162, _), (163, _), (164, _), (165, _), (166, _), (167, _), (168, _), (169, _), (170, _), (171, _), (172, _), (173, _), (174, _), (175, _), (176, _), (177, _), (178, _), (179, _), (180, _), (181, _), (182, _), (183, _), (184, _), (185, _), (186, _), (187, _), (188, _), (189, _), (190, _), (191, _), (192, _), (193, _), (194, _), (195, _), (196, _), (197, _), (198, _), (201, _), (202, _), (203, _), (204, _), (205, _), (206, _), (207, _)] (by repeat (first | exact Fr.le_nil _ | refine Fr.le_cons rfl ?_)) (fun z w => z ≤ y.node.kids.length ∧ Sat (envOf W) w (A4 :: RO g4 :: [])) (fun z => y.node.kids.length - z) ?_ 0 (by repeat (first | exact Fr.le_nil _ | refine Fr.le_cons rfl ?_)) ⟨by simp, hw.xQ⟩
                          rintro j w ⟨hj1, hw⟩ ih3
                          refine g_seq ?_
                          refine g_region ?_
                          first | (refine xV rfl rfl rfl (v_lssT rfl rfl (by omega)) ?_) | (refine xV rfl rfl rfl (v_lssF rfl rfl (by omega)) ?_) | (refine xV rfl rfl rfl (v_lss rfl rfl) ?_)
                          refine rl_nil (g_le (xK (Fr.le_refl _)) ?_)
                          refine g_seq ?_
                          refine g_cond rfl (fun h9 => ?_) (fun h9 => ?_)
                          · try with_reducible exact ft_elim h9
                            all_goals
                              try replace h9 := of_decide_eq_true h9
                              refine g_skip (g_seq (g_block (g_seq ?_)))
                              refine g_region ?_
                              refine xV rfl rfl rfl (v_move rfl) ?_
                              refine xV rfl rfl rfl (v_assign rfl) ?_
                              refine rl_nil (g_le (xK (xK (Fr.le_refl _))) ?_)
                              refine g_seq ?_
                              have hz := hw
                              clear hw
                              obtain ⟨b7, o7, yd, ecs7, rfl, hyd, hat7, hl7, rfl, _⟩ := gyk (j : Nat) (by omega) (by omega)
                              obtain ⟨b8, o8, xd, ecs8, rfl, hxd, hat8, hl8, rfl, _⟩ := gxk (j : Nat) (by omega) (by omega)
                              rw [Int.toNat_natCast] at hyd hat7 hxd hat8
                              have hlows : yd.low = xd.low := by have := congrArg (fun l => l[j]?) hkd; simpa [hyd, hxd] using this
                              have hw := hz
                              refine g_drawR ord_f5_r32_H07V (by kernel_rfl) T.mixed hw (fun w hw => ?_)
                              refine rs_a 0 rfl rfl rfl rfl (v_move rfl) ?_
                              refine rs_a 1 rfl rfl rfl rfl (v_move rfl) ?_
                              refine rs_a 2 rfl rfl rfl rfl (v_indexAddr T.sl_57_61_8 rfl rfl (by omega) (by omega)) ?_
                              first | (refine rs_a 3 rfl rfl rfl rfl (v_fieldAddr0 T.fld_61_2_5 rfl) ?_) | (refine rs_a 3 rfl rfl rfl rfl (v_fieldAddr T.fld_61_2_5 rfl) ?_)
                              first | (refine rs_a 4 rfl rfl rfl rfl (v_fieldAddr0 T.fld_32_2_2 rfl) ?_) | (refine rs_a 4 rfl rfl rfl rfl (v_fieldAddr T.fld_32_2_2 rfl) ?_)
                              refine rs_a 6 rfl rfl rfl rfl (v_move rfl) ?_
                              refine rs_a 10 rfl rfl rfl rfl (v_move rfl) ?_
                              refine rs_a 11 rfl rfl rfl rfl (v_move rfl) ?_
                              refine rs_a 12 rfl rfl rfl rfl (v_indexAddr T.sl_57_61_8 rfl rfl (by omega) (by omega)) ?_
                              first | (refine rs_a 13 rfl rfl rfl rfl (v_fieldAddr0 T.fld_61_2_5 rfl) ?_) | (refine rs_a 13 rfl rfl rfl rfl (v_fieldAddr T.fld_61_2_5 rfl) ?_)
                              first | (refine rs_a 14 rfl rfl rfl rfl (v_fieldAddr0 T.fld_32_2_2 rfl) ?_) | (refine rs_a 14 rfl rfl rfl rfl (v_fieldAddr T.fld_32_2_2 rfl) ?_)
                              refine rs_a 16 rfl rfl rfl rfl (v_move rfl) ?_
                              refine rs_v 5 rfl rfl rfl rfl (OpV.mono (v_load T.scal_30 rfl) (fun w hw => by first | exact sat_cell hw (by (repeat first | with_reducible exact xH | apply xT); first | done | fail) rfl | exact own_cell hw (by (repeat first | with_reducible exact xH | apply xT); first | done | fail) (by first | rfl | assumption) | exact ro_at0 hw (by (repeat first | with_reducible exact xH | apply xT); first | done | fail) (by assumption) rfl | exact ro_at hw (by (repeat first | with_reducible exact xH | apply xT); first | done | fail) (by assumption) rfl | exact own_at0 hw (by (repeat first | with_reducible exact xH | apply xT); first | done | fail) (by assumption) rfl | exact own_at hw (by (repeat first | with_reducible exact xH | apply xT); first | done | fail) (by assumption) rfl | exact old_cell hw (by (repeat first | with_reducible exact xH | apply xT); first | done | fail) (by assumption) | assumption)) (by first | exact hw | exact Sat.sub hw (by (repeat (first | with_reducible exact Sub.refl _ | exact Sub.nil _ | (apply Sub.cons; focus ((repeat (first | with_reducible exact Pick.here _ | apply Pick.there)); (first | done | fail))) | with_reducible apply Sub.drop)); first | done | fail)) ?_
                              refine rs_a 7 rfl rfl rfl rfl (v_indexAddr T.sl_30_70_5 rfl rfl (by omega) (by omega)) ?_
                              first | (refine rs_a 8 rfl rfl rfl rfl (v_fieldAddr0 T.fld_70_0_0 rfl) ?_) | (refine rs_a 8 rfl rfl rfl rfl (v_fieldAddr T.fld_70_0_0 rfl) ?_)
                              refine rs_v 9 rfl rfl rfl rfl (OpV.mono (v_load T.scal_9 rfl) (fun w hw => by first | exact sat_cell hw (by (repeat first | with_reducible exact xH | apply xT); first | done | fail) rfl | exact own_cell hw (by (repeat first | with_reducible exact xH | apply xT); first | done | fail) (by first | rfl | assumption) | exact ro_at0 hw (by (repeat first | with_reducible exact xH | apply xT); first | done | fail) (by assumption) rfl | exact ro_at hw (by (repeat first | with_reducible exact xH | apply xT); first | done | fail) (by assumption) rfl | exact own_at0 hw (by (repeat first | with_reducible exact xH | apply xT); first | done | fail) (by assumption) rfl | exact own_at hw (by (repeat first | with_reducible exact xH | apply xT); first | done | fail) (by assumption) rfl | exact old_cell hw (by (repeat first | with_reducible exact xH | apply xT); first | done | fail) (by assumption) | assumption)) (by first | exact hw | exact Sat.sub hw (by (repeat (first | with_reducible exact Sub.refl _ | exact Sub.nil _ | (apply Sub.cons; focus ((repeat (first | with_reducible exact Pick.here _ | apply Pick.there)); (first | done | fail))) | with_reducible apply Sub.drop)); first | done | fail)) ?_
                              refine rs_kv 15 rfl rfl rfl rfl (by first | exact sat_cell hw (by (repeat first | with_reducible exact xH | apply xT); first | done | fail) rfl | exact own_cell hw (by (repeat first | with_reducible exact xH | apply xT); first | done | fail) (by first | rfl | assumption) | exact ro_at0 hw (by (repeat first | with_reducible exact xH | apply xT); first | done | fail) (by assumption) rfl | exact ro_at hw (by (repeat first | with_reducible exact xH | apply xT); first | done | fail) (by assumption) rfl | exact own_at0 hw (by (repeat first | with_reducible exact xH | apply xT); first | done | fail) (by assumption) rfl | exact own_at hw (by (repeat first | with_reducible exact xH | apply xT); first | done | fail) (by assumption) rfl | exact old_cell hw (by (repeat first | with_reducible exact xH | apply xT); first | done | fail) (by assumption) | assumption) (v_load T.scal_30 rfl) ?_
                              refine rs_kv 17 rfl rfl rfl rfl (S' := fun _ => True) trivial (v_indexAddr T.sl_30_70_5 rfl rfl (by omega) (by omega)) ?_
                              first | (refine rs_kv 18 rfl rfl rfl rfl (S' := fun _ => True) trivial (v_fieldAddr0 T.fld_70_0_0 rfl) ?_) | (refine rs_kv 18 rfl rfl rfl rfl (S' := fun _ => True) trivial (v_fieldAddr T.fld_70_0_0 rfl) ?_)
                              refine rs_kv 19 rfl rfl rfl rfl (by first | exact sat_cell hw (by (repeat first | with_reducible exact xH | apply xT); first | done | fail) rfl | exact own_cell hw (by (repeat first | with_reducible exact xH | apply xT); first | done | fail) (by first | rfl | assumption) | exact ro_at0 hw (by (repeat first | with_reducible exact xH | apply xT); first | done | fail) (by assumption) rfl | exact ro_at hw (by (repeat first | with_reducible exact xH | apply xT); first | done | fail) (by assumption) rfl | exact own_at0 hw (by (repeat first | with_reducible exact xH | apply xT); first | done | fail) (by assumption) rfl | exact own_at hw (by (repeat first | with_reducible exact xH | apply xT); first | done | fail) (by assumption) rfl | exact old_cell hw (by (repeat first | with_reducible exact xH | apply xT); first | done | fail) (by assumption) | assumption) (v_load T.scal_9 rfl) ?_
                              first | (refine rs_kv 20 rfl rfl rfl rfl (S' := fun _ => True) trivial (v_neqStrF rfl rfl (by first | rfl | assumption)) ?_) | (refine rs_kv 20 rfl rfl rfl rfl (S' := fun _ => True) trivial (v_neqStrT rfl rfl (by first | assumption | decide)) ?_) | (refine rs_kv 20 rfl rfl rfl rfl (S' := fun _ => True) trivial (v_neqStr rfl rfl) ?_)
                              refine rs_done (g_le (xK (xK (xK (xK (xK (xK (xK (xK (xK (xK (xK (xK (xK (xK (xK (xK (xK (xK (xK (xK (xK (Fr.le_refl _)))))))))))))))))))))) ?_)
                              refine g_cond_false rfl ?_
                              refine g_skip (g_inBlock ?_)
                              refine g_region ?_
                              first | (refine xV rfl rfl rfl (v_add rfl rfl (by omega)) ?_) | (refine xV rfl rfl rfl (v_addW rfl rfl) ?_)
                              refine xV rfl rfl rfl (v_move rfl) ?_
                              refine rl_nil (g_le (xK (xK (Fr.le_refl _))) ?_)
                              exact g_le (by repeat (first | exact Fr.le_nil _ | refine Fr.le_cons rfl ?_)) (ih3 (j + 1) w ⟨by omega, hw.xQ⟩ (by omega))
                          · try with_reducible exact tf_elim h9
                            all_goals
                              try replace h9 := of_decide_eq_false h9
                              refine g_exit rfl (g_inBlock ?_)
                              refine g_region ?_
                              first | (refine xV rfl rfl rfl (v_add rfl rfl (by omega)) ?_) | (refine xV rfl rfl rfl (v_addW rfl rfl) ?_)
                              refine xV rfl rfl rfl (v_move rfl) ?_
                              refine rl_nil (g_le (xK (xK (Fr.le_refl _))) ?_)
                              exact g_le (by repeat (first | exact Fr.le_nil _ | refine Fr.le_cons rfl ?_)) (ih2 (k + 1, n4) w ⟨by simp only; omega, hrel4, hw.xQ⟩ (by simp only; omega))
                      · intro joinc8
                        refine g_cond rfl (fun h8 => ?_) (fun h8 => ?_)
                        · try with_reducible exact ft_elim h8
                          all_goals
                            try replace h8 := of_decide_eq_true h8
                            refine g_region ?_
                            refine xV rfl rfl rfl (v_move rfl) ?_
                            first | (refine xV rfl rfl rfl (v_sub rfl rfl (by omega)) ?_) | (refine xV rfl rfl rfl (v_subW rfl rfl) ?_)
                            refine xV rfl rfl rfl (v_assign rfl) ?_
                            refine rl_nil (g_le (xK (xK (xK (Fr.le_refl _)))) ?_)
                            rcases hrest with ⟨he, _⟩ | ⟨_, m, rfl, hrel4⟩
                            exact absurd he (by simpa using h8)
                            rw [show ((m + 1 : Nat) : Int) - 1 = (m : Nat) by omega]
                            exact joinc8 m w _ (by repeat (first | exact Fr.le_nil _ | refine Fr.le_cons rfl ?_)) ⟨hrel4, hw.xQ⟩
                        · try with_reducible exact tf_elim h8
                          all_goals
                            try replace h8 := of_decide_eq_false h8
                            refine g_skip ?_
                            rcases hrest with ⟨_, _, hrel4⟩ | ⟨hne, _⟩
                            exact joinc8 n w _ (by repeat (first | exact Fr.le_nil _ | refine Fr.le_cons rfl ?_)) ⟨hrel4, hw.xQ⟩
                            exact absurd (by simpa using h8) hne
                  · try with_reducible exact tf_elim g25_24
                    all_goals
                      try replace g25_24 := of_decide_eq_false g25_24
                      refine rs_ag 25 rfl (met_on rfl rfl rfl rfl) rfl rfl (v_move rfl) ?_
                      refine rs_ag 26 rfl (met_on rfl rfl rfl rfl) rfl rfl (v_move rfl) ?_
                      refine rs_ag 27 rfl (met_on rfl rfl rfl rfl) rfl rfl (v_indexAddr T.sl_57_61_8 rfl rfl (by omega) (by omega)) ?_
                      refine rs_ag 28 rfl (met_on rfl rfl rfl rfl) rfl rfl (v_fieldAddr T.fld_61_2_5 rfl) ?_
                      refine rs_ag 29 rfl (met_on rfl rfl rfl rfl) rfl rfl (v_fieldAddr T.fld_32_0_0 rfl) ?_
                      refine rs_ag 31 rfl (met_on rfl rfl rfl rfl) rfl rfl (v_move rfl) ?_
                      refine rs_ag 32 rfl (met_on rfl rfl rfl rfl) rfl rfl (v_move rfl) ?_
                      refine rs_ag 33 rfl (met_on rfl rfl rfl rfl) rfl rfl (v_indexAddr T.sl_57_61_8 rfl rfl (by omega) (by omega)) ?_
                      refine rs_ag 34 rfl (met_on rfl rfl rfl rfl) rfl rfl (v_fieldAddr T.fld_61_2_5 rfl) ?_
                      refine rs_ag 35 rfl (met_on rfl rfl rfl rfl) rfl rfl (v_fieldAddr T.fld_32_0_0 rfl) ?_
                      refine rs_vg 30 rfl (met_on rfl rfl rfl rfl) rfl rfl (OpV.mono (v_load T.scal_4 rfl) (fun w hw => by exact ro_at0 hw (by (repeat first | with_reducible exact xH | apply xT); first | done | fail) (by assumption) rfl)) (by exact Sat.sub hw (by (repeat (first | with_reducible exact Sub.refl _ | exact Sub.nil _ | (apply Sub.cons; focus ((repeat (first | with_reducible exact Pick.here _ | apply Pick.there)); (first | done | fail))) | with_reducible apply Sub.drop)); first | done | fail)) ?_
                      refine rs_kvg 36 rfl (met_on rfl rfl rfl rfl) rfl rfl (by exact ro_at0 hw (by (repeat first | with_reducible exact xH | apply xT); first | done | fail) (by assumption) rfl) (v_load T.scal_4 rfl) ?_
                      refine rs_kvg 37 rfl (met_on rfl rfl rfl rfl) rfl rfl (S' := fun _ => True) trivial (v_neqBoolF T.bool_4 rfl rfl (by first | rfl | assumption)) ?_
                      refine rs_kv 38 rfl rfl rfl rfl (S' := fun _ => True) trivial (v_pick_false rfl rfl) ?_
                      refine rs_kv 39 rfl rfl rfl rfl (S' := fun _ => True) trivial (v_move rfl) ?_
                      refine rs_split (s := 164) rfl (fun g25_39 => ?_) (fun g25_39 => ?_)
                      · try with_reducible exact ft_elim g25_39
                        all_goals
                          try replace g25_39 := of_decide_eq_true g25_39
                          refine rs_aoff 40 rfl (met_off rfl rfl rfl rfl rfl) rfl rfl ?_
                          refine rs_aoff 41 rfl (met_off rfl rfl rfl rfl rfl) rfl rfl ?_
                          refine rs_aoff 42 rfl (met_off rfl rfl rfl rfl rfl) rfl rfl ?_
                          refine rs_aoff 43 rfl (met_off rfl rfl rfl rfl rfl) rfl rfl ?_
                          refine rs_aoff 44 rfl (met_off rfl rfl rfl rfl rfl) rfl rfl ?_
                          refine rs_aoff 46 rfl (met_off rfl rfl rfl rfl rfl) rfl rfl ?_
                          refine rs_aoff 47 rfl (met_off rfl rfl rfl rfl rfl) rfl rfl ?_
                          refine rs_aoff 48 rfl (met_off rfl rfl rfl rfl rfl) rfl rfl ?_
                          refine rs_aoff 49 rfl (met_off rfl rfl rfl rfl rfl) rfl rfl ?_
                          refine rs_aoff 50 rfl (met_off rfl rfl rfl rfl rfl) rfl rfl ?_
                          refine rs_voff 45 rfl (met_off rfl rfl rfl rfl rfl) rfl rfl (by first | exact hw | exact Sat.sub hw (by (repeat (first | with_reducible exact Sub.refl _ | exact Sub.nil _ | (apply Sub.cons; focus ((repeat (first | with_reducible exact Pick.here _ | apply Pick.there)); (first | done | fail))) | with_reducible apply Sub.drop)); first | done | fail)) ?_
                          refine rs_koff 51 rfl (met_off rfl rfl rfl rfl rfl) rfl rfl ?_
                          refine rs_koff 52 rfl (met_off rfl rfl rfl rfl rfl) rfl rfl ?_
                          refine rs_koff 53 rfl (met_off rfl rfl rfl rfl rfl) rfl rfl ?_
                          first | (refine rs_kv 54 rfl rfl rfl rfl (S' := fun _ => True) trivial (v_pick_true rfl rfl) ?_) | (refine rs_kv 54 rfl rfl rfl rfl (S' := fun _ => True) trivial (v_pick_false rfl rfl) ?_) | (refine rs_kv 54 rfl rfl rfl rfl (S' := fun _ => True) trivial (v_pick rfl rfl rfl) ?_)
                          refine rs_kv 55 rfl rfl rfl rfl (S' := fun _ => True) trivial (v_move rfl) ?_
                          refine rs_aoff 56 rfl (met_off rfl rfl rfl rfl rfl) rfl rfl ?_
                          refine rs_aoff 57 rfl (met_off rfl rfl rfl rfl rfl) rfl rfl ?_
                          refine rs_aoff 58 rfl (met_off rfl rfl rfl rfl rfl) rfl rfl ?_
                          refine rs_aoff 59 rfl (met_off rfl rfl rfl rfl rfl) rfl rfl ?_
                          refine rs_aoff 60 rfl (met_off rfl rfl rfl rfl rfl) rfl rfl ?_
                          refine rs_aoff 63 rfl (met_off rfl rfl rfl rfl rfl) rfl rfl ?_
                          refine rs_aoff 64 rfl (met_off rfl rfl rfl rfl rfl) rfl rfl ?_
                          refine rs_aoff 65 rfl (met_off rfl rfl rfl rfl rfl) rfl rfl ?_
                          refine rs_aoff 66 rfl (met_off rfl rfl rfl rfl rfl) rfl rfl ?_
                          refine rs_aoff 67 rfl (met_off rfl rfl rfl rfl rfl) rfl rfl ?_
                          refine rs_voff 61 rfl (met_off rfl rfl rfl rfl rfl) rfl rfl (by first | exact hw | exact Sat.sub hw (by (repeat (first | with_reducible exact Sub.refl _ | exact Sub.nil _ | (apply Sub.cons; focus ((repeat (first | with_reducible exact Pick.here _ | apply Pick.there)); (first | done | fail))) | with_reducible apply Sub.drop)); first | done | fail)) ?_
                          refine rs_aoff 62 rfl (met_off rfl rfl rfl rfl rfl) rfl rfl ?_
                          refine rs_koff 68 rfl (met_off rfl rfl rfl rfl rfl) rfl rfl ?_
                          refine rs_koff 69 rfl (met_off rfl rfl rfl rfl rfl) rfl rfl ?_
                          refine rs_koff 70 rfl (met_off rfl rfl rfl rfl rfl) rfl rfl ?_
                          first | (refine rs_kv 71 rfl rfl rfl rfl (S' := fun _ => True) trivial (v_pick_true rfl rfl) ?_) | (refine rs_kv 71 rfl rfl rfl rfl (S' := fun _ => True) trivial (v_pick_false rfl rfl) ?_) | (refine rs_kv 71 rfl rfl rfl rfl (S' := fun _ => True) trivial (v_pick rfl rfl rfl) ?_)
                          refine rs_done (g_le (xK (xK (xK (xK (xK (xK (xK (xK (xK (xK (xK (xK (xK (xK (xK (xK (xK (xK (xK (xK (xK (xK (xK (xK (xK (xK (xK (xK (xK (xK (xK (xK (xK (xK (xK (xK (xK (xK (xK (xK (xK (xK (xK (xK (xK (xK (xK (xK (xK (xK (xK (xK (xK (xK (xK (xK (xK (xK (xK (xK (xK (xK (xK (xK (xK (xK (xK (xK (xK (xK (xK (xK (xK (xK (xK (xK (Fr.le_refl _))))))))))))))))))))))))))))))))))))))))))))))))))))))))))))))))))))))))))))) ?_)
                          refine g_cond_false rfl ?_
                          refine g_skip (g_seq (g_seq ?_))
                          refine g_region ?_
                          refine xV rfl rfl rfl (v_move rfl) ?_
                          refine xV rfl rfl rfl (v_not rfl) ?_
                          refine rl_nil (g_le (xK (xK (Fr.le_refl _))) ?_)
                          refine g_cutc (σ := Nat) (fun C x => (16, .int .i64 (x : Nat)) :: C) [(1, _), (4, _), (12, _), (18, _), (20, _), (21, _), (110, _), (111, _), (112, _), (113, _), (114, _), (115, _), (116, _), (117, _), (118, _), (119, _), (120, _), (121, _), (122, _), (123, _), (124, _), (125, _), (126, _), (127, _), (128, _), (129, _), (130, _), (131, _), (132, _), (133, _), (134, _), (135, _), (136, _), (137, _), (138, _), (139, _), (140, _), (141, _), (142, _), (143, _), (144, _), (145, _), (146, _), (147, _), (148, _), (149, _), (150, _), (151, _), (152, _), (153, _), (154, _), (155, _), (156, _), (157, _), (158, _), (159, _), (160, _), (161, _), (162, _), (163, _), (164, _), (165, _), (166, _), (167, _), (168, _), (169, _), (170, _), (171, _), (172, _), (173, _), (174, _), (175, _), (176, _), (177, _), (178, _), (179, _), (180, _), (181, _), (182, _), (183, _), (184, _), (185, _), (186, _), (187, _), (188, _), (189, _), (190, _), (191, _), (192, _), (193, _), (194, _), (195, _), (196, _), (197, _), (198, _)] (by repeat (first | exact Fr.le_nil _ | refine Fr.le_cons rfl ?_)) (fun z w => mvRel segs (old.drop (k + 1)) (now.drop (k + 1)) z ∧ Sat (envOf W) w (A4 :: RO g4 :: [])) ?_ ?_
                          · skip
                            rintro n4 w ⟨hrel4, hw⟩
                            all_goals
                              refine g_seq ?_
                              refine g_region ?_
                              refine xV rfl rfl rfl (v_move rfl) ?_
                              refine xV rfl rfl rfl (v_move rfl) ?_
                              refine xV rfl rfl rfl (v_indexAddr T.sl_57_61_8 rfl rfl (by omega) (by omega)) ?_
                              first | (refine xV rfl rfl rfl (v_fieldAddr0 T.fld_61_2_5 rfl) ?_) | (refine xV rfl rfl rfl (v_fieldAddr T.fld_61_2_5 rfl) ?_)
                              first | (refine xV rfl rfl rfl (v_fieldAddr0 T.fld_32_2_2 rfl) ?_) | (refine xV rfl rfl rfl (v_fieldAddr T.fld_32_2_2 rfl) ?_)
                              refine rl_v rfl rfl rfl (by first | exact sat_cell hw (by (repeat first | with_reducible exact xH | apply xT); first | done | fail) rfl | exact own_cell hw (by (repeat first | with_reducible exact xH | apply xT); first | done | fail) (by first | rfl | assumption) | exact ro_at0 hw (by (repeat first | with_reducible exact xH | apply xT); first | done | fail) (by assumption) rfl | exact ro_at hw (by (repeat first | with_reducible exact xH | apply xT); first | done | fail) (by assumption) rfl | exact own_at0 hw (by (repeat first | with_reducible exact xH | apply xT); first | done | fail) (by assumption) rfl | exact own_at hw (by (repeat first | with_reducible exact xH | apply xT); first | done | fail) (by assumption) rfl | exact old_cell hw (by (repeat first | with_reducible exact xH | apply xT); first | done | fail) (by assumption) | assumption) (v_load T.scal_30 rfl) ?_
                              refine xV rfl rfl rfl (v_lenSlice T.sl_30_70_5 rfl) ?_
                              refine xV rfl rfl rfl (v_move rfl) ?_
                              refine rl_nil (g_le (xK (xK (xK (xK (xK (xK (xK (xK (Fr.le_refl _))))))))) ?_)
                              refine g_block ?_
                              refine g_loopC (σ := Nat) (fun C x => (208, .int .i64 (x : Nat)) :: C) [(1, _), (4, _), (12, _), (16, _), (18, _), (20, _), (21, _), (110, _), (111, _), (112, _), (113, _), (114, _), (115, _), (116, _), (117, _), (118, _), (119, _), (120, _), (121, _), (122, _), (123, _), (124, _), (125, _), (126, _), (127, _), (128, _), (129, _), (130, _), (131, _), (132, _), (133, _), (134, _), (135, _), (136, _), (137, _), (138, _), (139, _), (140, _), (141, _), (142, _), (143, _), (144, _), (145, _), (146, _), (147, _), (148, _), (149, _), (150, _), (151, _), (152, _), (153, _), (154, _), (155, _), (156, _), (157, _), (158, _), (159, _), (160, _), (161, _), (162, _), (163, _), (164, _), (165, _), (166, _), (167, _), (168, _), (169, _), (170, _), (171, _), (172, _), (173, _), (174, _), (175, _), (176, _), (177, _), (178, _), (179, _), (180, _), (181, _), (182, _), (183, _), (184, _), (185, _), (186, _), (187, _), (188, _), (189, _), (190, _), (191, _), (192, _), (193, _), (194, _), (195, _), (196, _), (197, _), (198, _), (201, _), (202, _), (203, _), (204, _), (205, _), (206, _), (207, _)] (by repeat (first | exact Fr.le_nil _ | refine Fr.le_cons rfl ?_)) (fun z w => z ≤ y.node.kids.length ∧ Sat (envOf W) w (A4 :: RO g4 :: [])) (fun z => y.node.kids.length - z) ?_ 0 (by repeat (first | exact Fr.le_nil _ | refine Fr.le_cons rfl ?_)) ⟨by simp, hw.xQ⟩
                              rintro j w ⟨hj1, hw⟩ ih3
                              refine g_seq ?_
                              refine g_region ?_
                              first | (refine xV rfl rfl rfl (v_lssT rfl rfl (by omega)) ?_) | (refine xV rfl rfl rfl (v_lssF rfl rfl (by omega)) ?_) | (refine xV rfl rfl rfl (v_lss rfl rfl) ?_)
                              refine rl_nil (g_le (xK (Fr.le_refl _)) ?_)
                              refine g_seq ?_
                              refine g_cond rfl (fun h9 => ?_) (fun h9 => ?_)
                              · try with_reducible exact ft_elim h9
                                all_goals
                                  try replace h9 := of_decide_eq_true h9
                                  refine g_skip (g_seq (g_block (g_seq ?_)))
                                  refine g_region ?_
                                  refine xV rfl rfl rfl (v_move rfl) ?_
                                  refine xV rfl rfl rfl (v_assign rfl) ?_
                                  refine rl_nil (g_le (xK (xK (Fr.le_refl _))) ?_)
                                  refine g_seq ?_
                                  have hz := hw
                                  clear hw
                                  obtain ⟨b7, o7, yd, ecs7, rfl, hyd, hat7, hl7, rfl, _⟩ := gyk (j : Nat) (by omega) (by omega)
                                  obtain ⟨b8, o8, xd, ecs8, rfl, hxd, hat8, hl8, rfl, _⟩ := gxk (j : Nat) (by omega) (by omega)
                                  rw [Int.toNat_natCast] at hyd hat7 hxd hat8
                                  have hlows : yd.low = xd.low := by have := congrArg (fun l => l[j]?) hkd; simpa [hyd, hxd] using this
                                  have hw := hz
                                  refine g_drawR ord_f5_r32_H07V (by kernel_rfl) T.mixed hw (fun w hw => ?_)
                                  refine rs_a 0 rfl rfl rfl rfl (v_move rfl) ?_
                                  refine rs_a 1 rfl rfl rfl rfl (v_move rfl) ?_
                                  refine rs_a 2 rfl rfl rfl rfl (v_indexAddr T.sl_57_61_8 rfl rfl (by omega) (by omega)) ?_
                                  first | (refine rs_a 3 rfl rfl rfl rfl (v_fieldAddr0 T.fld_61_2_5 rfl) ?_) | (refine rs_a 3 rfl rfl rfl rfl (v_fieldAddr T.fld_61_2_5 rfl) ?_)
                                  first | (refine rs_a 4 rfl rfl rfl rfl (v_fieldAddr0 T.fld_32_2_2 rfl) ?_) | (refine rs_a 4 rfl rfl rfl rfl (v_fieldAddr T.fld_32_2_2 rfl) ?_)
                                  refine rs_a 6 rfl rfl rfl rfl (v_move rfl) ?_
                                  refine rs_a 10 rfl rfl rfl rfl (v_move rfl) ?_
                                  refine rs_a 11 rfl rfl rfl rfl (v_move rfl) ?_
                                  refine rs_a 12 rfl rfl rfl rfl (v_indexAddr T.sl_57_61_8 rfl rfl (by omega) (by omega)) ?_
                                  first | (refine rs_a 13 rfl rfl rfl rfl (v_fieldAddr0 T.fld_61_2_5 rfl) ?_) | (refine rs_a 13 rfl rfl rfl rfl (v_fieldAddr T.fld_61_2_5 rfl) ?_)
                                  first | (refine rs_a 14 rfl rfl rfl rfl (v_fieldAddr0 T.fld_32_2_2 rfl) ?_) | (refine rs_a 14 rfl rfl rfl rfl (v_fieldAddr T.fld_32_2_2 rfl) ?_)
                                  refine rs_a 16 rfl rfl rfl rfl (v_move rfl) ?_
                                  refine rs_v 5 rfl rfl rfl rfl (OpV.mono (v_load T.scal_30 rfl) (fun w hw => by first | exact sat_cell hw (by (repeat first | with_reducible exact xH | apply xT); first | done | fail) rfl | exact own_cell hw (by (repeat first | with_reducible exact xH | apply xT); first | done | fail) (by first | rfl | assumption) | exact ro_at0 hw (by (repeat first | with_reducible exact xH | apply xT); first | done | fail) (by assumption) rfl | exact ro_at hw (by (repeat first | with_reducible exact xH | apply xT); first | done | fail) (by assumption) rfl | exact own_at0 hw (by (repeat first | with_reducible exact xH | apply xT); first | done | fail) (by assumption) rfl | exact own_at hw (by (repeat first | with_reducible exact xH | apply xT); first | done | fail) (by assumption) rfl | exact old_cell hw (by (repeat first | with_reducible exact xH | apply xT); first | done | fail) (by assumption) | assumption)) (by first | exact hw | exact Sat.sub hw (by (repeat (first | with_reducible exact Sub.refl _ | exact Sub.nil _ | (apply Sub.cons; focus ((repeat (first | with_reducible exact Pick.here _ | apply Pick.there)); (first | done | fail))) | with_reducible apply Sub.drop)); first | done | fail)) ?_
                                  refine rs_a 7 rfl rfl rfl rfl (v_indexAddr T.sl_30_70_5 rfl rfl (by omega) (by omega)) ?_
                                  first | (refine rs_a 8 rfl rfl rfl rfl (v_fieldAddr0 T.fld_70_0_0 rfl) ?_) | (refine rs_a 8 rfl rfl rfl rfl (v_fieldAddr T.fld_70_0_0 rfl) ?_)
                                  refine rs_v 9 rfl rfl rfl rfl (OpV.mono (v_load T.scal_9 rfl) (fun w hw => by first | exact sat_cell hw (by (repeat first | with_reducible exact xH | apply xT); first | done | fail) rfl | exact own_cell hw (by (repeat first | with_reducible exact xH | apply xT); first | done | fail) (by first | rfl | assumption) | exact ro_at0 hw (by (repeat first | with_reducible exact xH | apply xT); first | done | fail) (by assumption) rfl | exact ro_at hw (by (repeat first | with_reducible exact xH | apply xT); first | done | fail) (by assumption) rfl | exact own_at0 hw (by (repeat first | with_reducible exact xH | apply xT); first | done | fail) (by assumption) rfl | exact own_at hw (by (repeat first | with_reducible exact xH | apply xT); first | done | fail) (by assumption) rfl | exact old_cell hw (by (repeat first | with_reducible exact xH | apply xT); first | done | fail) (by assumption) | assumption)) (by first | exact hw | exact Sat.sub hw (by (repeat (first | with_reducible exact Sub.refl _ | exact Sub.nil _ | (apply Sub.cons; focus ((repeat (first | with_reducible exact Pick.here _ | apply Pick.there)); (first | done | fail))) | with_reducible apply Sub.drop)); first | done | fail)) ?_
                                  refine rs_kv 15 rfl rfl rfl rfl (by first | exact sat_cell hw (by (repeat first | with_reducible exact xH | apply xT); first | done | fail) rfl | exact own_cell hw (by (repeat first | with_reducible exact xH | apply xT); first | done | fail) (by first | rfl | assumption) | exact ro_at0 hw (by (repeat first | with_reducible exact xH | apply xT); first | done | fail) (by assumption) rfl | exact ro_at hw (by (repeat first | with_reducible exact xH | apply xT); first | done | fail) (by assumption) rfl | exact own_at0 hw (by (repeat first | with_reducible exact xH | apply xT); first | done | fail) (by assumption) rfl | exact own_at hw (by (repeat first | with_reducible exact xH | apply xT); first | done | fail) (by assumption) rfl | exact old_cell hw (by (repeat first | with_reducible exact xH | apply xT); first | done | fail) (by assumption) | assumption) (v_load T.scal_30 rfl) ?_
                                  refine rs_kv 17 rfl rfl rfl rfl (S' := fun _ => True) trivial (v_indexAddr T.sl_30_70_5 rfl rfl (by omega) (by omega)) ?_
                                  first | (refine rs_kv 18 rfl rfl rfl rfl (S' := fun _ => True) trivial (v_fieldAddr0 T.fld_70_0_0 rfl) ?_) | (refine rs_kv 18 rfl rfl rfl rfl (S' := fun _ => True) trivial (v_fieldAddr T.fld_70_0_0 rfl) ?_)
                                  refine rs_kv 19 rfl rfl rfl rfl (by first | exact sat_cell hw (by (repeat first | with_reducible exact xH | apply xT); first | done | fail) rfl | exact own_cell hw (by (repeat first | with_reducible exact xH | apply xT); first | done | fail) (by first | rfl | assumption) | exact ro_at0 hw (by (repeat first | with_reducible exact xH | apply xT); first | done | fail) (by assumption) rfl | exact ro_at hw (by (repeat first | with_reducible exact xH | apply xT); first | done | fail) (by assumption) rfl | exact own_at0 hw (by (repeat first | with_reducible exact xH | apply xT); first | done | fail) (by assumption) rfl | exact own_at hw (by (repeat first | with_reducible exact xH | apply xT); first | done | fail) (by assumption) rfl | exact old_cell hw (by (repeat first | with_reducible exact xH | apply xT); first | done | fail) (by assumption) | assumption) (v_load T.scal_9 rfl) ?_
                                  first | (refine rs_kv 20 rfl rfl rfl rfl (S' := fun _ => True) trivial (v_neqStrF rfl rfl (by first | rfl | assumption)) ?_) | (refine rs_kv 20 rfl rfl rfl rfl (S' := fun _ => True) trivial (v_neqStrT rfl rfl (by first | assumption | decide)) ?_) | (refine rs_kv 20 rfl rfl rfl rfl (S' := fun _ => True) trivial (v_neqStr rfl rfl) ?_)
                                  refine rs_done (g_le (xK (xK (xK (xK (xK (xK (xK (xK (xK (xK (xK (xK (xK (xK (xK (xK (xK (xK (xK (xK (xK (Fr.le_refl _)))))))))))))))))))))) ?_)
                                  refine g_cond_false rfl ?_
                                  refine g_skip (g_inBlock ?_)
                                  refine g_region ?_
                                  first | (refine xV rfl rfl rfl (v_add rfl rfl (by omega)) ?_) | (refine xV rfl rfl rfl (v_addW rfl rfl) ?_)
                                  refine xV rfl rfl rfl (v_move rfl) ?_
                                  refine rl_nil (g_le (xK (xK (Fr.le_refl _))) ?_)
                                  exact g_le (by repeat (first | exact Fr.le_nil _ | refine Fr.le_cons rfl ?_)) (ih3 (j + 1) w ⟨by omega, hw.xQ⟩ (by omega))
                              · try with_reducible exact tf_elim h9
                                all_goals
                                  try replace h9 := of_decide_eq_false h9
                                  refine g_exit rfl (g_inBlock ?_)
                                  refine g_region ?_
                                  first | (refine xV rfl rfl rfl (v_add rfl rfl (by omega)) ?_) | (refine xV rfl rfl rfl (v_addW rfl rfl) ?_)
                                  refine xV rfl rfl rfl (v_move rfl) ?_
                                  refine rl_nil (g_le (xK (xK (Fr.le_refl _))) ?_)
                                  exact g_le (by repeat (first | exact Fr.le_nil _ | refine Fr.le_cons rfl ?_)) (ih2 (k + 1, n4) w ⟨by simp only; omega, hrel4, hw.xQ⟩ (by simp only; omega))
                          · intro joinc8
                            refine g_cond rfl (fun h8 => ?_) (fun h8 => ?_)
                            · try with_reducible exact ft_elim h8
                              all_goals
                                try replace h8 := of_decide_eq_true h8
                                refine g_region ?_
                                refine xV rfl rfl rfl (v_move rfl) ?_
                                first | (refine xV rfl rfl rfl (v_sub rfl rfl (by omega)) ?_) | (refine xV rfl rfl rfl (v_subW rfl rfl) ?_)
                                refine xV rfl rfl rfl (v_assign rfl) ?_
                                refine rl_nil (g_le (xK (xK (xK (Fr.le_refl _)))) ?_)
                                rcases hrest with ⟨he, _⟩ | ⟨_, m, rfl, hrel4⟩
                                exact absurd he (by simpa using h8)
                                rw [show ((m + 1 : Nat) : Int) - 1 = (m : Nat) by omega]
                                exact joinc8 m w _ (by repeat (first | exact Fr.le_nil _ | refine Fr.le_cons rfl ?_)) ⟨hrel4, hw.xQ⟩
                            · try with_reducible exact tf_elim h8
                              all_goals
                                try replace h8 := of_decide_eq_false h8
                                refine g_skip ?_
                                rcases hrest with ⟨_, _, hrel4⟩ | ⟨hne, _⟩
                                exact joinc8 n w _ (by repeat (first | exact Fr.le_nil _ | refine Fr.le_cons rfl ?_)) ⟨hrel4, hw.xQ⟩
                                exact absurd (by simpa using h8) hne
                      · try with_reducible exact tf_elim g25_39
                        all_goals
                          try replace g25_39 := of_decide_eq_false g25_39
                          refine rs_ag 40 rfl (met_on rfl rfl rfl rfl) rfl rfl (v_move rfl) ?_
                          refine rs_ag 41 rfl (met_on rfl rfl rfl rfl) rfl rfl (v_move rfl) ?_
                          refine rs_ag 42 rfl (met_on rfl rfl rfl rfl) rfl rfl (v_indexAddr T.sl_57_61_8 rfl rfl (by omega) (by omega)) ?_
                          refine rs_ag 43 rfl (met_on rfl rfl rfl rfl) rfl rfl (v_fieldAddr T.fld_61_2_5 rfl) ?_
                          refine rs_ag 44 rfl (met_on rfl rfl rfl rfl) rfl rfl (v_fieldAddr T.fld_32_1_1 rfl) ?_
                          refine rs_ag 46 rfl (met_on rfl rfl rfl rfl) rfl rfl (v_move rfl) ?_
                          refine rs_ag 47 rfl (met_on rfl rfl rfl rfl) rfl rfl (v_move rfl) ?_
                          refine rs_ag 48 rfl (met_on rfl rfl rfl rfl) rfl rfl (v_indexAddr T.sl_57_61_8 rfl rfl (by omega) (by omega)) ?_
                          refine rs_ag 49 rfl (met_on rfl rfl rfl rfl) rfl rfl (v_fieldAddr T.fld_61_2_5 rfl) ?_
                          refine rs_ag 50 rfl (met_on rfl rfl rfl rfl) rfl rfl (v_fieldAddr T.fld_32_1_1 rfl) ?_
                          refine rs_vg 45 rfl (met_on rfl rfl rfl rfl) rfl rfl (OpV.mono (v_load T.scal_29 rfl) (fun w hw => by exact ro_at hw (by (repeat first | with_reducible exact xH | apply xT); first | done | fail) (by assumption) rfl)) (by exact Sat.sub hw (by (repeat (first | with_reducible exact Sub.refl _ | exact Sub.nil _ | (apply Sub.cons; focus ((repeat (first | with_reducible exact Pick.here _ | apply Pick.there)); (first | done | fail))) | with_reducible apply Sub.drop)); first | done | fail)) ?_
                          refine rs_kvg 51 rfl (met_on rfl rfl rfl rfl) rfl rfl (by exact ro_at hw (by (repeat first | with_reducible exact xH | apply xT); first | done | fail) (by assumption) rfl) (v_load T.scal_29 rfl) ?_
                          refine rs_kg 52 rfl (met_on rfl rfl rfl rfl) (k_callf Try.func28 rfl rfl rfl rfl ?_)
                          refine Calls.mono (likeAll_calls hqe hpe (hw.xQ)) ?_
                          rw [decide_eq_true hen]
                          rintro _ w ⟨rfl, hw⟩
                          refine ⟨_, rfl, ?_⟩
                          refine ⟨fun _ => (by exact Sat.sub hw (by (repeat (first | with_reducible exact Sub.refl _ | exact Sub.nil _ | (apply Sub.cons; focus ((repeat (first | with_reducible exact Pick.here _ | apply Pick.there)); (first | done | fail))) | with_reducible apply Sub.drop)); first | done | fail)), ?_⟩
                          refine rs_kvg 53 rfl (met_on rfl rfl rfl rfl) rfl rfl (S' := fun _ => True) trivial (v_not rfl) ?_
                          refine rs_kv 54 rfl rfl rfl rfl (S' := fun _ => True) trivial (v_pick_false rfl rfl) ?_
                          refine rs_kv 55 rfl rfl rfl rfl (S' := fun _ => True) trivial (v_move rfl) ?_
                          refine rs_split (s := 180) rfl (fun g25_55 => ?_) (fun g25_55 => ?_)
                          · try with_reducible exact ft_elim g25_55
                            all_goals
                              try replace g25_55 := of_decide_eq_true g25_55
                              simp at g25_55
                          · try with_reducible exact tf_elim g25_55
                            all_goals
                              try replace g25_55 := of_decide_eq_false g25_55
                              refine rs_ag 56 rfl (met_on rfl rfl rfl rfl) rfl rfl (v_move rfl) ?_
                              refine rs_ag 57 rfl (met_on rfl rfl rfl rfl) rfl rfl (v_move rfl) ?_
                              refine rs_ag 58 rfl (met_on rfl rfl rfl rfl) rfl rfl (v_indexAddr T.sl_57_61_8 rfl rfl (by omega) (by omega)) ?_
                              refine rs_ag 59 rfl (met_on rfl rfl rfl rfl) rfl rfl (v_fieldAddr T.fld_61_2_5 rfl) ?_
                              refine rs_ag 60 rfl (met_on rfl rfl rfl rfl) rfl rfl (v_fieldAddr T.fld_32_2_2 rfl) ?_
                              refine rs_ag 63 rfl (met_on rfl rfl rfl rfl) rfl rfl (v_move rfl) ?_
                              refine rs_ag 64 rfl (met_on rfl rfl rfl rfl) rfl rfl (v_move rfl) ?_
                              refine rs_ag 65 rfl (met_on rfl rfl rfl rfl) rfl rfl (v_indexAddr T.sl_57_61_8 rfl rfl (by omega) (by omega)) ?_
                              refine rs_ag 66 rfl (met_on rfl rfl rfl rfl) rfl rfl (v_fieldAddr T.fld_61_2_5 rfl) ?_
                              refine rs_ag 67 rfl (met_on rfl rfl rfl rfl) rfl rfl (v_fieldAddr T.fld_32_2_2 rfl) ?_
                              refine rs_vg 61 rfl (met_on rfl rfl rfl rfl) rfl rfl (OpV.mono (v_load T.scal_30 rfl) (fun w hw => by exact ro_at hw (by (repeat first | with_reducible exact xH | apply xT); first | done | fail) (by assumption) rfl)) (by exact Sat.sub hw (by (repeat (first | with_reducible exact Sub.refl _ | exact Sub.nil _ | (apply Sub.cons; focus ((repeat (first | with_reducible exact Pick.here _ | apply Pick.there)); (first | done | fail))) | with_reducible apply Sub.drop)); first | done | fail)) ?_
                              refine rs_ag 62 rfl (met_on rfl rfl rfl rfl) rfl rfl (v_lenSlice T.sl_30_70_5 rfl) ?_
                              refine rs_kvg 68 rfl (met_on rfl rfl rfl rfl) rfl rfl (by exact ro_at hw (by (repeat first | with_reducible exact xH | apply xT); first | done | fail) (by assumption) rfl) (v_load T.scal_30 rfl) ?_
                              refine rs_kvg 69 rfl (met_on rfl rfl rfl rfl) rfl rfl (S' := fun _ => True) trivial (v_lenSlice T.sl_30_70_5 rfl) ?_
                              refine rs_kvg 70 rfl (met_on rfl rfl rfl rfl) rfl rfl (S' := fun _ => True) trivial (v_neqF rfl rfl (by omega)) ?_
                              refine rs_kv 71 rfl rfl rfl rfl (S' := fun _ => True) trivial (v_pick_false rfl rfl) ?_
                              refine rs_done (g_le (xK (xK (xK (xK (xK (xK (xK (xK (xK (xK (xK (xK (xK (xK (xK (xK (xK (xK (xK (xK (xK (xK (xK (xK (xK (xK (xK (xK (xK (xK (xK (xK (xK (xK (xK (xK (xK (xK (xK (xK (xK (xK (xK (xK (xK (xK (xK (xK (xK (xK (xK (xK (xK (xK (xK (xK (xK (xK (xK (xK (xK (xK (xK (xK (xK (xK (xK (xK (xK (xK (xK (xK (xK (xK (xK (xK (xK (Fr.le_refl _)))))))))))))))))))))))))))))))))))))))))))))))))))))))))))))))))))))))))))))) ?_)
                              refine g_cond_false rfl ?_
                              refine g_skip (g_seq (g_seq ?_))
                              refine g_region ?_
                              refine xV rfl rfl rfl (v_move rfl) ?_
                              refine xV rfl rfl rfl (v_not rfl) ?_
                              refine rl_nil (g_le (xK (xK (Fr.le_refl _))) ?_)
                              refine g_cutc (σ := Nat) (fun C x => (16, .int .i64 (x : Nat)) :: C) [(1, _), (4, _), (12, _), (18, _), (20, _), (21, _), (110, _), (111, _), (112, _), (113, _), (114, _), (115, _), (116, _), (117, _), (118, _), (119, _), (120, _), (121, _), (122, _), (123, _), (124, _), (125, _), (126, _), (127, _), (128, _), (129, _), (130, _), (131, _), (132, _), (133, _), (134, _), (135, _), (136, _), (137, _), (138, _), (139, _), (140, _), (141, _), (142, _), (143, _), (144, _), (145, _), (146, _), (147, _), (148, _), (149, _), (150, _), (151, _), (152, _), (153, _), (154, _), (155, _), (156, _), (157, _), (158, _), (159, _), (160, _), (161, _), (162, _), (163, _), (164, _), (165, _), (166, _), (167, _), (168, _), (169, _), (170, _), (171, _), (172, _), (173, _), (174, _), (175, _), (176, _), (177, _), (178, _), (179, _), (180, _), (181, _), (182, _), (183, _), (184, _), (185, _), (186, _), (187, _), (188, _), (189, _), (190, _), (191, _), (192, _), (193, _), (194, _), (195, _), (196, _), (197, _), (198, _)] (by repeat (first | exact Fr.le_nil _ | refine Fr.le_cons rfl ?_)) (fun z w => mvRel segs (old.drop (k + 1)) (now.drop (k + 1)) z ∧ Sat (envOf W) w (A4 :: RO g4 :: [])) ?_ ?_
                              · skip
                                rintro n4 w ⟨hrel4, hw⟩
                                all_goals
                                  refine g_seq ?_
                                  refine g_region ?_
                                  refine xV rfl rfl rfl (v_move rfl) ?_
                                  refine xV rfl rfl rfl (v_move rfl) ?_
                                  refine xV rfl rfl rfl (v_indexAddr T.sl_57_61_8 rfl rfl (by omega) (by omega)) ?_
                                  refine xV rfl rfl rfl (v_fieldAddr T.fld_61_2_5 rfl) ?_
                                  refine xV rfl rfl rfl (v_fieldAddr T.fld_32_2_2 rfl) ?_
                                  refine rl_v rfl rfl rfl (by exact ro_at hw (by (repeat first | with_reducible exact xH | apply xT); first | done | fail) (by assumption) rfl) (v_load T.scal_30 rfl) ?_
                                  refine xV rfl rfl rfl (v_lenSlice T.sl_30_70_5 rfl) ?_
                                  refine xV rfl rfl rfl (v_move rfl) ?_
                                  refine rl_nil (g_le (xK (xK (xK (xK (xK (xK (xK (xK (Fr.le_refl _))))))))) ?_)
                                  refine g_block ?_
                                  refine g_loopC (σ := Nat) (fun C x => (208, .int .i64 (x : Nat)) :: C) [(1, _), (4, _), (12, _), (16, _), (18, _), (20, _), (21, _), (110, _), (111, _), (112, _), (113, _), (114, _), (115, _), (116, _), (117, _), (118, _), (119, _), (120, _), (121, _), (122, _), (123, _), (124, _), (125, _), (126, _), (127, _), (128, _), (129, _), (130, _), (131, _), (132, _), (133, _), (134, _), (135, _), (136, _), (137, _), (138, _), (139, _), (140, _), (141, _), (142, _), (143, _), (144, _), (145, _), (146, _), (147, _), (148, _), (149, _), (150, _), (151, _), (152, _), (153, _), (154, _), (155, _), (156, _), (157, _), (158, _), (159, _), (160, _), (161, _), (162, _), (163, _), (164, _), (165, _), (166, _), (167, _), (168, _), (169, _), (170, _), (171, _), (172, _), (173, _), (174, _), (175, _), (176, _), (177, _), (178, _), (179, _), (180, _), (181, _), (182, _), (183, _), (184, _), (185, _), (186, _), (187, _), (188, _), (189, _), (190, _), (191, _), (192, _), (193, _), (194, _), (195, _), (196, _), (197, _), (198, _), (201, _), (202, _), (203, _), (204, _), (205, _), (206, _), (207, _)] (by repeat (first | exact Fr.le_nil _ | refine Fr.le_cons rfl ?_)) (fun z w => z ≤ y.node.kids.length ∧ Sat (envOf W) w (A4 :: RO g4 :: [])) (fun z => y.node.kids.length - z) ?_ 0 (by repeat (first | exact Fr.le_nil _ | refine Fr.le_cons rfl ?_)) ⟨by simp, hw.xQ⟩
                                  rintro j w ⟨hj1, hw⟩ ih3
                                  refine g_seq ?_
                                  refine g_region ?_
                                  refine xV rfl rfl rfl (v_lss rfl rfl) ?_
                                  refine rl_nil (g_le (xK (Fr.le_refl _)) ?_)
                                  refine g_seq ?_
                                  refine g_cond rfl (fun h9 => ?_) (fun h9 => ?_)
                                  · try with_reducible exact ft_elim h9
                                    all_goals
                                      try replace h9 := of_decide_eq_true h9
                                      refine g_skip (g_seq (g_block (g_seq ?_)))
                                      refine g_region ?_
                                      refine xV rfl rfl rfl (v_move rfl) ?_
                                      refine xV rfl rfl rfl (v_assign rfl) ?_
                                      refine rl_nil (g_le (xK (xK (Fr.le_refl _))) ?_)
                                      refine g_seq ?_
                                      have hz := hw
                                      clear hw
                                      obtain ⟨b7, o7, yd, ecs7, rfl, hyd, hat7, hl7, rfl, _⟩ := gyk (j : Nat) (by omega) (by omega)
                                      obtain ⟨b8, o8, xd, ecs8, rfl, hxd, hat8, hl8, rfl, _⟩ := gxk (j : Nat) (by omega) (by omega)
                                      rw [Int.toNat_natCast] at hyd hat7 hxd hat8
                                      have hlows : yd.low = xd.low := by have := congrArg (fun l => l[j]?) hkd; simpa [hyd, hxd] using this
                                      have hw := hz
                                      refine g_drawR ord_f5_r32_H07V (by kernel_rfl) T.mixed hw (fun w hw => ?_)
                                      refine rs_a 0 rfl rfl rfl rfl (v_move rfl) ?_
                                      refine rs_a 1 rfl rfl rfl rfl (v_move rfl) ?_
                                      refine rs_a 2 rfl rfl rfl rfl (v_indexAddr T.sl_57_61_8 rfl rfl (by omega) (by omega)) ?_
                                      refine rs_a 3 rfl rfl rfl rfl (v_fieldAddr T.fld_61_2_5 rfl) ?_
                                      refine rs_a 4 rfl rfl rfl rfl (v_fieldAddr T.fld_32_2_2 rfl) ?_
                                      refine rs_a 6 rfl rfl rfl rfl (v_move rfl) ?_
                                      refine rs_a 10 rfl rfl rfl rfl (v_move rfl) ?_
                                      refine rs_a 11 rfl rfl rfl rfl (v_move rfl) ?_
                                      refine rs_a 12 rfl rfl rfl rfl (v_indexAddr T.sl_57_61_8 rfl rfl (by omega) (by omega)) ?_
                                      refine rs_a 13 rfl rfl rfl rfl (v_fieldAddr T.fld_61_2_5 rfl) ?_
                                      refine rs_a 14 rfl rfl rfl rfl (v_fieldAddr T.fld_32_2_2 rfl) ?_
                                      refine rs_a 16 rfl rfl rfl rfl (v_move rfl) ?_
                                      refine rs_v 5 rfl rfl rfl rfl (OpV.mono (v_load T.scal_30 rfl) (fun w hw => by exact ro_at hw (by (repeat first | with_reducible exact xH | apply xT); first | done | fail) (by assumption) rfl)) (by exact hw) ?_
                                      refine rs_a 7 rfl rfl rfl rfl (v_indexAddr T.sl_30_70_5 rfl rfl (by omega) (by omega)) ?_
                                      refine rs_a 8 rfl rfl rfl rfl (v_fieldAddr T.fld_70_0_0 rfl) ?_
                                      refine rs_v 9 rfl rfl rfl rfl (OpV.mono (v_load T.scal_9 rfl) (fun w hw => by exact ro_at0 hw (by (repeat first | with_reducible exact xH | apply xT); first | done | fail) (by assumption) rfl)) (by exact hw) ?_
                                      refine rs_kv 15 rfl rfl rfl rfl (by exact ro_at hw (by (repeat first | with_reducible exact xH | apply xT); first | done | fail) (by assumption) rfl) (v_load T.scal_30 rfl) ?_
                                      refine rs_kv 17 rfl rfl rfl rfl (S' := fun _ => True) trivial (v_indexAddr T.sl_30_70_5 rfl rfl (by omega) (by omega)) ?_
                                      refine rs_kv 18 rfl rfl rfl rfl (S' := fun _ => True) trivial (v_fieldAddr T.fld_70_0_0 rfl) ?_
                                      refine rs_kv 19 rfl rfl rfl rfl (by exact ro_at0 hw (by (repeat first | with_reducible exact xH | apply xT); first | done | fail) (by assumption) rfl) (v_load T.scal_9 rfl) ?_
                                      refine rs_kv 20 rfl rfl rfl rfl (S' := fun _ => True) trivial (v_neqStrF rfl rfl (by first | rfl | assumption)) ?_
                                      refine rs_done (g_le (xK (xK (xK (xK (xK (xK (xK (xK (xK (xK (xK (xK (xK (xK (xK (xK (xK (xK (xK (xK (xK (Fr.le_refl _)))))))))))))))))))))) ?_)
                                      refine g_cond_false rfl ?_
                                      refine g_skip (g_inBlock ?_)
                                      refine g_region ?_
                                      refine xV rfl rfl rfl (v_add rfl rfl (by omega)) ?_
                                      refine xV rfl rfl rfl (v_move rfl) ?_
                                      refine rl_nil (g_le (xK (xK (Fr.le_refl _))) ?_)
                                      exact g_le (by repeat (first | exact Fr.le_nil _ | refine Fr.le_cons rfl ?_)) (ih3 (j + 1) w ⟨by omega, hw.xQ⟩ (by omega))
                                  · try with_reducible exact tf_elim h9
                                    all_goals
                                      try replace h9 := of_decide_eq_false h9
                                      refine g_exit rfl (g_inBlock ?_)
                                      refine g_region ?_
                                      refine xV rfl rfl rfl (v_add rfl rfl (by omega)) ?_
                                      refine xV rfl rfl rfl (v_move rfl) ?_
                                      refine rl_nil (g_le (xK (xK (Fr.le_refl _))) ?_)
                                      exact g_le (by repeat (first | exact Fr.le_nil _ | refine Fr.le_cons rfl ?_)) (ih2 (k + 1, n4) w ⟨by simp only; omega, hrel4, hw.xQ⟩ (by simp only; omega))
                              · intro joinc8
                                refine g_cond rfl (fun h8 => ?_) (fun h8 => ?_)
                                · try with_reducible exact ft_elim h8
                                  all_goals
                                    try replace h8 := of_decide_eq_true h8
                                    refine g_region ?_
                                    refine xV rfl rfl rfl (v_move rfl) ?_
                                    refine xV rfl rfl rfl (v_sub rfl rfl (by omega)) ?_
                                    refine xV rfl rfl rfl (v_assign rfl) ?_
                                    refine rl_nil (g_le (xK (xK (xK (Fr.le_refl _)))) ?_)
                                    rcases hrest with ⟨he, _⟩ | ⟨_, m, rfl, hrel4⟩
                                    exact absurd he (by simpa using h8)
                                    rw [show ((m + 1 : Nat) : Int) - 1 = (m : Nat) by omega]
                                    exact joinc8 m w _ (by repeat (first | exact Fr.le_nil _ | refine Fr.le_cons rfl ?_)) ⟨hrel4, hw.xQ⟩
                                · try with_reducible exact tf_elim h8
                                  all_goals
                                    try replace h8 := of_decide_eq_false h8
                                    refine g_skip ?_
                                    rcases hrest with ⟨_, _, hrel4⟩ | ⟨hne, _⟩
                                    exact joinc8 n w _ (by repeat (first | exact Fr.le_nil _ | refine Fr.le_cons rfl ?_)) ⟨hrel4, hw.xQ⟩
                                    exact absurd (by simpa using h8) hne
          · try with_reducible exact tf_elim g25_1
            all_goals
              try replace g25_1 := of_decide_eq_false g25_1
              refine rs_aoff 2 rfl (met_off rfl rfl rfl rfl rfl) rfl rfl ?_
              refine rs_aoff 3 rfl (met_off rfl rfl rfl rfl rfl) rfl rfl ?_
              refine rs_koff 4 rfl (met_off rfl rfl rfl rfl rfl) rfl rfl ?_
              refine rs_koff 5 rfl (met_off rfl rfl rfl rfl rfl) rfl rfl ?_
              refine rs_koff 6 rfl (met_off rfl rfl rfl rfl rfl) rfl rfl ?_
              refine rs_koff 7 rfl (met_off rfl rfl rfl rfl rfl) rfl rfl ?_
              refine rs_koff 8 rfl (met_off rfl rfl rfl rfl rfl) rfl rfl ?_
              refine rs_koff 9 rfl (met_off rfl rfl rfl rfl rfl) rfl rfl ?_
              refine rs_kv 10 rfl rfl rfl rfl (S' := fun _ => True) trivial (v_pick_false rfl rfl) ?_
              refine rs_kv 11 rfl rfl rfl rfl (S' := fun _ => True) trivial (v_move rfl) ?_
              refine rs_ag 12 rfl (met_on rfl rfl rfl rfl) rfl rfl (v_move rfl) ?_
              refine rs_ag 13 rfl (met_on rfl rfl rfl rfl) rfl rfl (v_move rfl) ?_
              refine rs_ag 14 rfl (met_on rfl rfl rfl rfl) rfl rfl (v_indexAddr T.sl_57_61_8 rfl rfl (by omega) (by omega)) ?_
              refine rs_ag 15 rfl (met_on rfl rfl rfl rfl) rfl rfl (v_fieldAddr T.fld_61_0_0 rfl) ?_
              refine rs_ag 17 rfl (met_on rfl rfl rfl rfl) rfl rfl (v_move rfl) ?_
              refine rs_ag 18 rfl (met_on rfl rfl rfl rfl) rfl rfl (v_move rfl) ?_
              refine rs_ag 19 rfl (met_on rfl rfl rfl rfl) rfl rfl (v_indexAddr T.sl_57_61_8 rfl rfl (by omega) (by omega)) ?_
              refine rs_ag 20 rfl (met_on rfl rfl rfl rfl) rfl rfl (v_fieldAddr T.fld_61_0_0 rfl) ?_
              refine rs_vg 16 rfl (met_on rfl rfl rfl rfl) rfl rfl (OpV.mono (v_load T.scal_3 rfl) (fun w hw => by exact ro_at0 hw (by (repeat first | with_reducible exact xH | apply xT); first | done | fail) (by assumption) rfl)) (by exact hw) ?_
              refine rs_kvg 21 rfl (met_on rfl rfl rfl rfl) rfl rfl (by exact ro_at0 hw (by (repeat first | with_reducible exact xH | apply xT); first | done | fail) (by assumption) rfl) (v_load T.scal_3 rfl) ?_
              refine rs_kvg 22 rfl (met_on rfl rfl rfl rfl) rfl rfl (S' := fun _ => True) trivial (v_neqF rfl rfl (by omega)) ?_
              refine rs_kv 23 rfl rfl rfl rfl (S' := fun _ => True) trivial (v_pick_false rfl rfl) ?_
              refine rs_kv 24 rfl rfl rfl rfl (S' := fun _ => True) trivial (v_move rfl) ?_
              refine rs_split (s := 149) rfl (fun g25_24 => ?_) (fun g25_24 => ?_)
              · try with_reducible exact ft_elim g25_24
                all_goals
                  try replace g25_24 := of_decide_eq_true g25_24
                  refine rs_aoff 25 rfl (met_off rfl rfl rfl rfl rfl) rfl rfl ?_
                  refine rs_aoff 26 rfl (met_off rfl rfl rfl rfl rfl) rfl rfl ?_
                  refine rs_aoff 27 rfl (met_off rfl rfl rfl rfl rfl) rfl rfl ?_
                  refine rs_aoff 28 rfl (met_off rfl rfl rfl rfl rfl) rfl rfl ?_
                  refine rs_aoff 29 rfl (met_off rfl rfl rfl rfl rfl) rfl rfl ?_
                  refine rs_aoff 31 rfl (met_off rfl rfl rfl rfl rfl) rfl rfl ?_
                  refine rs_aoff 32 rfl (met_off rfl rfl rfl rfl rfl) rfl rfl ?_
                  refine rs_aoff 33 rfl (met_off rfl rfl rfl rfl rfl) rfl rfl ?_
                  refine rs_aoff 34 rfl (met_off rfl rfl rfl rfl rfl) rfl rfl ?_
                  refine rs_aoff 35 rfl (met_off rfl rfl rfl rfl rfl) rfl rfl ?_
                  refine rs_voff 30 rfl (met_off rfl rfl rfl rfl rfl) rfl rfl (by first | exact hw | exact Sat.sub hw (by (repeat (first | with_reducible exact Sub.refl _ | exact Sub.nil _ | (apply Sub.cons; focus ((repeat (first | with_reducible exact Pick.here _ | apply Pick.there)); (first | done | fail))) | with_reducible apply Sub.drop)); first | done | fail)) ?_
                  refine rs_koff 36 rfl (met_off rfl rfl rfl rfl rfl) rfl rfl ?_
                  refine rs_koff 37 rfl (met_off rfl rfl rfl rfl rfl) rfl rfl ?_
                  first | (refine rs_kv 38 rfl rfl rfl rfl (S' := fun _ => True) trivial (v_pick_true rfl rfl) ?_) | (refine rs_kv 38 rfl rfl rfl rfl (S' := fun _ => True) trivial (v_pick_false rfl rfl) ?_) | (refine rs_kv 38 rfl rfl rfl rfl (S' := fun _ => True) trivial (v_pick rfl rfl rfl) ?_)
                  refine rs_kv 39 rfl rfl rfl rfl (S' := fun _ => True) trivial (v_move rfl) ?_
                  refine rs_aoff 40 rfl (met_off rfl rfl rfl rfl rfl) rfl rfl ?_
                  refine rs_aoff 41 rfl (met_off rfl rfl rfl rfl rfl) rfl rfl ?_
                  refine rs_aoff 42 rfl (met_off rfl rfl rfl rfl rfl) rfl rfl ?_
                  refine rs_aoff 43 rfl (met_off rfl rfl rfl rfl rfl) rfl rfl ?_
                  refine rs_aoff 44 rfl (met_off rfl rfl rfl rfl rfl) rfl rfl ?_
                  refine rs_aoff 46 rfl (met_off rfl rfl rfl rfl rfl) rfl rfl ?_
                  refine rs_aoff 47 rfl (met_off rfl rfl rfl rfl rfl) rfl rfl ?_
                  refine rs_aoff 48 rfl (met_off rfl rfl rfl rfl rfl) rfl rfl ?_
                  refine rs_aoff 49 rfl (met_off rfl rfl rfl rfl rfl) rfl rfl ?_
                  refine rs_aoff 50 rfl (met_off rfl rfl rfl rfl rfl) rfl rfl ?_
                  refine rs_voff 45 rfl (met_off rfl rfl rfl rfl rfl) rfl rfl (by first | exact hw | exact Sat.sub hw (by (repeat (first | with_reducible exact Sub.refl _ | exact Sub.nil _ | (apply Sub.cons; focus ((repeat (first | with_reducible exact Pick.here _ | apply Pick.there)); (first | done | fail))) | with_reducible apply Sub.drop)); first | done | fail)) ?_
                  refine rs_koff 51 rfl (met_off rfl rfl rfl rfl rfl) rfl rfl ?_
                  refine rs_koff 52 rfl (met_off rfl rfl rfl rfl rfl) rfl rfl ?_
                  refine rs_koff 53 rfl (met_off rfl rfl rfl rfl rfl) rfl rfl ?_
                  first | (refine rs_kv 54 rfl rfl rfl rfl (S' := fun _ => True) trivial (v_pick_true rfl rfl) ?_) | (refine rs_kv 54 rfl rfl rfl rfl (S' := fun _ => True) trivial (v_pick_false rfl rfl) ?_) | (refine rs_kv 54 rfl rfl rfl rfl (S' := fun _ => True) trivial (v_pick rfl rfl rfl) ?_)
                  refine rs_kv 55 rfl rfl rfl rfl (S' := fun _ => True) trivial (v_move rfl) ?_
                  refine rs_aoff 56 rfl (met_off rfl rfl rfl rfl rfl) rfl rfl ?_
                  refine rs_aoff 57 rfl (met_off rfl rfl rfl rfl rfl) rfl rfl ?_
                  refine rs_aoff 58 rfl (met_off rfl rfl rfl rfl rfl) rfl rfl ?_
                  refine rs_aoff 59 rfl (met_off rfl rfl rfl rfl rfl) rfl rfl ?_
                  refine rs_aoff 60 rfl (met_off rfl rfl rfl rfl rfl) rfl rfl ?_
                  refine rs_aoff 63 rfl (met_off rfl rfl rfl rfl rfl) rfl rfl ?_
                  refine rs_aoff 64 rfl (met_off rfl rfl rfl rfl rfl) rfl rfl ?_
                  refine rs_aoff 65 rfl (met_off rfl rfl rfl rfl rfl) rfl rfl ?_
                  refine rs_aoff 66 rfl (met_off rfl rfl rfl rfl rfl) rfl rfl ?_
                  refine rs_aoff 67 rfl (met_off rfl rfl rfl rfl rfl) rfl rfl ?_
                  refine rs_voff 61 rfl (met_off rfl rfl rfl rfl rfl) rfl rfl (by first | exact hw | exact Sat.sub hw (by (repeat (first | with_reducible exact Sub.refl _ | exact Sub.nil _ | (apply Sub.cons; focus ((repeat (first | with_reducible exact Pick.here _ | apply Pick.there)); (first | done | fail))) | with_reducible apply Sub.drop)); first | done | fail)) ?_
                  refine rs_aoff 62 rfl (met_off rfl rfl rfl rfl rfl) rfl rfl ?_
                  refine rs_koff 68 rfl (met_off rfl rfl rfl rfl rfl) rfl rfl ?_
                  refine rs_koff 69 rfl (met_off rfl rfl rfl rfl rfl) rfl rfl ?_
                  refine rs_koff 70 rfl (met_off rfl rfl rfl rfl rfl) rfl rfl ?_
                  first | (refine rs_kv 71 rfl rfl rfl rfl (S' := fun _ => True) trivial (v_pick_true rfl rfl) ?_) | (refine rs_kv 71 rfl rfl rfl rfl (S' := fun _ => True) trivial (v_pick_false rfl rfl) ?_) | (refine rs_kv 71 rfl rfl rfl rfl (S' := fun _ => True) trivial (v_pick rfl rfl rfl) ?_)
                  refine rs_done (g_le (xK (xK (xK (xK (xK (xK (xK (xK (xK (xK (xK (xK (xK (xK (xK (xK (xK (xK (xK (xK (xK (xK (xK (xK (xK (xK (xK (xK (xK (xK (xK (xK (xK (xK (xK (xK (xK (xK (xK (xK (xK (xK (xK (xK (xK (xK (xK (xK (xK (xK (xK (xK (xK (xK (xK (xK (xK (xK (xK (xK (xK (xK (xK (xK (xK (xK (xK (xK (xK (xK (xK (xK (xK (xK (Fr.le_refl _))))))))))))))))))))))))))))))))))))))))))))))))))))))))))))))))))))))))))) ?_)
                  refine g_cond_false rfl ?_
                  refine g_skip (g_seq (g_seq ?_))
                  refine g_region ?_
                  refine xV rfl rfl rfl (v_move rfl) ?_
                  refine xV rfl rfl rfl (v_not rfl) ?_
                  refine rl_nil (g_le (xK (xK (Fr.le_refl _))) ?_)
                  refine g_cutc (σ := Nat) (fun C x => (16, .int .i64 (x : Nat)) :: C) [(1, _), (4, _), (12, _), (18, _), (20, _), (21, _), (110, _), (111, _), (112, _), (113, _), (114, _), (115, _), (116, _), (117, _), (118, _), (119, _), (120, _), (121, _), (122, _), (123, _), (124, _), (125, _), (126, _), (127, _), (128, _), (129, _), (130, _), (131, _), (132, _), (133, _), (134, _), (135, _), (136, _), (137, _), (138, _), (139, _), (140, _), (141, _), (142, _), (143, _), (144, _), (145, _), (146, _), (147, _), (148, _), (149, _), (150, _), (151, _), (152, _), (153, _), (154, _), (155, _), (156, _), (157, _), (158, _), (159, _), (160, _), (161, _), (162, _), (163, _), (164, _), (165, _), (166, _), (167, _), (168, _), (169, _), (170, _), (171, _), (172, _), (173, _), (174, _), (175, _), (176, _), (177, _), (178, _), (179, _), (180, _), (181, _), (182, _), (183, _), (184, _), (185, _), (186, _), (187, _), (188, _), (189, _), (190, _), (191, _), (192, _), (193, _), (194, _), (195, _), (196, _), (197, _), (198, _)] (by repeat (first | exact Fr.le_nil _ | refine Fr.le_cons rfl ?_)) (fun z w => mvRel segs (old.drop (k + 1)) (now.drop (k + 1)) z ∧ Sat (envOf W) w (A4 :: RO g4 :: [])) ?_ ?_
                  · skip
                    rintro n4 w ⟨hrel4, hw⟩
                    all_goals
                      refine g_seq ?_
                      refine g_region ?_
                      refine xV rfl rfl rfl (v_move rfl) ?_
                      refine xV rfl rfl rfl (v_move rfl) ?_
                      refine xV rfl rfl rfl (v_indexAddr T.sl_57_61_8 rfl rfl (by omega) (by omega)) ?_
                      first | (refine xV rfl rfl rfl (v_fieldAddr0 T.fld_61_2_5 rfl) ?_) | (refine xV rfl rfl rfl (v_fieldAddr T.fld_61_2_5 rfl) ?_)
                      first | (refine xV rfl rfl rfl (v_fieldAddr0 T.fld_32_2_2 rfl) ?_) | (refine xV rfl rfl rfl (v_fieldAddr T.fld_32_2_2 rfl) ?_)
                      refine rl_v rfl rfl rfl (by first | exact sat_cell hw (by (repeat first | with_reducible exact xH | apply xT); first | done | fail) rfl | exact own_cell hw (by (repeat first | with_reducible exact xH | apply xT); first | done | fail) (by first | rfl | assumption) | exact ro_at0 hw (by (repeat first | with_reducible exact xH | apply xT); first | done | fail) (by assumption) rfl | exact ro_at hw (by (repeat first | with_reducible exact xH | apply xT); first | done | fail) (by assumption) rfl | exact own_at0 hw (by (repeat first | with_reducible exact xH | apply xT); first | done | fail) (by assumption) rfl | exact own_at hw (by (repeat first | with_reducible exact xH | apply xT); first | done | fail) (by assumption) rfl | exact old_cell hw (by (repeat first | with_reducible exact xH | apply xT); first | done | fail) (by assumption) | assumption) (v_load T.scal_30 rfl) ?_
                      refine xV rfl rfl rfl (v_lenSlice T.sl_30_70_5 rfl) ?_
                      refine xV rfl rfl rfl (v_move rfl) ?_
                      refine rl_nil (g_le (xK (xK (xK (xK (xK (xK (xK (xK (Fr.le_refl _))))))))) ?_)
                      refine g_block ?_
                      refine g_loopC (σ := Nat) (fun C x => (208, .int .i64 (x : Nat)) :: C) [(1, _), (4, _), (12, _), (16, _), (18, _), (20, _), (21, _), (110, _), (111, _), (112, _), (113, _), (114, _), (115, _), (116, _), (117, _), (118, _), (119, _), (120, _), (121, _), (122, _), (123, _), (124, _), (125, _), (126, _), (127, _), (128, _), (129, _), (130, _), (131, _), (132, _), (133, _), (134, _), (135, _), (136, _), (137, _), (138, _), (139, _), (140, _), (141, _), (142, _), (143, _), (144, _), (145, _), (146, _), (147, _), (148, _), (149, _), (150, _), (151, _), (152, _), (153, _), (154, _), (155, _), (156, _), (157, _), (158, _), (159, _), (160, _), (161, _), (162, _), (163, _), (164, _), (165, _), (166, _), (167, _), (168, _), (169, _), (170, _), (171, _), (172, _), (173, _), (174, _), (175, _), (176, _), (177, _), (178, _), (179, _), (180, _), (181, _), (182, _), (183, _), (184, _), (185, _), (186, _), (187, _), (188, _), (189, _), (190, _), (191, _), (192, _), (193, _), (194, _), (195, _), (196, _), (197, _), (198, _), (201, _), (202, _), (203, _), (204, _), (205, _), (206, _), (207, _)] (by repeat (first | exact Fr.le_nil _ | refine Fr.le_cons rfl ?_)) (fun z w => z ≤ y.node.kids.length ∧ Sat (envOf W) w (A4 :: RO g4 :: [])) (fun z => y.node.kids.length - z) ?_ 0 (by repeat (first | exact Fr.le_nil _ | refine Fr.le_cons rfl ?_)) ⟨by simp, hw.xQ⟩
                      rintro j w ⟨hj1, hw⟩ ih3
                      refine g_seq ?_
                      refine g_region ?_
                      first | (refine xV rfl rfl rfl (v_lssT rfl rfl (by omega)) ?_) | (refine xV rfl rfl rfl (v_lssF rfl rfl (by omega)) ?_) | (refine xV rfl rfl rfl (v_lss rfl rfl) ?_)
                      refine rl_nil (g_le (xK (Fr.le_refl _)) ?_)
                      refine g_seq ?_
                      refine g_cond rfl (fun h9 => ?_) (fun h9 => ?_)
                      · try with_reducible exact ft_elim h9
                        all_goals
                          try replace h9 := of_decide_eq_true h9
                          refine g_skip (g_seq (g_block (g_seq ?_)))
                          refine g_region ?_
                          refine xV rfl rfl rfl (v_move rfl) ?_
                          refine xV rfl rfl rfl (v_assign rfl) ?_
                          refine rl_nil (g_le (xK (xK (Fr.le_refl _))) ?_)
                          refine g_seq ?_
                          have hz := hw
                          clear hw
                          obtain ⟨b7, o7, yd, ecs7, rfl, hyd, hat7, hl7, rfl, _⟩ := gyk (j : Nat) (by omega) (by omega)
                          obtain ⟨b8, o8, xd, ecs8, rfl, hxd, hat8, hl8, rfl, _⟩ := gxk (j : Nat) (by omega) (by omega)
                          rw [Int.toNat_natCast] at hyd hat7 hxd hat8
                          have hlows : yd.low = xd.low := by have := congrArg (fun l => l[j]?) hkd; simpa [hyd, hxd] using this
                          have hw := hz
                          refine g_drawR ord_f5_r32_H07V (by kernel_rfl) T.mixed hw (fun w hw => ?_)
                          refine rs_a 0 rfl rfl rfl rfl (v_move rfl) ?_
                          refine rs_a 1 rfl rfl rfl rfl (v_move rfl) ?_
                          refine rs_a 2 rfl rfl rfl rfl (v_indexAddr T.sl_57_61_8 rfl rfl (by omega) (by omega)) ?_
                          first | (refine rs_a 3 rfl rfl rfl rfl (v_fieldAddr0 T.fld_61_2_5 rfl) ?_) | (refine rs_a 3 rfl rfl rfl rfl (v_fieldAddr T.fld_61_2_5 rfl) ?_)
                          first | (refine rs_a 4 rfl rfl rfl rfl (v_fieldAddr0 T.fld_32_2_2 rfl) ?_) | (refine rs_a 4 rfl rfl rfl rfl (v_fieldAddr T.fld_32_2_2 rfl) ?_)
                          refine rs_a 6 rfl rfl rfl rfl (v_move rfl) ?_
                          refine rs_a 10 rfl rfl rfl rfl (v_move rfl) ?_
                          refine rs_a 11 rfl rfl rfl rfl (v_move rfl) ?_
                          refine rs_a 12 rfl rfl rfl rfl (v_indexAddr T.sl_57_61_8 rfl rfl (by omega) (by omega)) ?_
                          first | (refine rs_a 13 rfl rfl rfl rfl (v_fieldAddr0 T.fld_61_2_5 rfl) ?_) | (refine rs_a 13 rfl rfl rfl rfl (v_fieldAddr T.fld_61_2_5 rfl) ?_)
                          first | (refine rs_a 14 rfl rfl rfl rfl (v_fieldAddr0 T.fld_32_2_2 rfl) ?_) | (refine rs_a 14 rfl rfl rfl rfl (v_fieldAddr T.fld_32_2_2 rfl) ?_)
                          refine rs_a 16 rfl rfl rfl rfl (v_move rfl) ?_
                          refine rs_v 5 rfl rfl rfl rfl (OpV.mono (v_load T.scal_30 rfl) (fun w hw => by first | exact sat_cell hw (by (repeat first | with_reducible exact xH | apply xT); first | done | fail) rfl | exact own_cell hw (by (repeat first | with_reducible exact xH | apply xT); first | done | fail) (by first | rfl | assumption) | exact ro_at0 hw (by (repeat first | with_reducible exact xH | apply xT); first | done | fail) (by assumption) rfl | exact ro_at hw (by (repeat first | with_reducible exact xH | apply xT); first | done | fail) (by assumption) rfl | exact own_at0 hw (by (repeat first | with_reducible exact xH | apply xT); first | done | fail) (by assumption) rfl | exact own_at hw (by (repeat first | with_reducible exact xH | apply xT); first | done | fail) (by assumption) rfl | exact old_cell hw (by (repeat first | with_reducible exact xH | apply xT); first | done | fail) (by assumption) | assumption)) (by first | exact hw | exact Sat.sub hw (by (repeat (first | with_reducible exact Sub.refl _ | exact Sub.nil _ | (apply Sub.cons; focus ((repeat (first | with_reducible exact Pick.here _ | apply Pick.there)); (first | done | fail))) | with_reducible apply Sub.drop)); first | done | fail)) ?_
                          refine rs_a 7 rfl rfl rfl rfl (v_indexAddr T.sl_30_70_5 rfl rfl (by omega) (by omega)) ?_
                          first | (refine rs_a 8 rfl rfl rfl rfl (v_fieldAddr0 T.fld_70_0_0 rfl) ?_) | (refine rs_a 8 rfl rfl rfl rfl (v_fieldAddr T.fld_70_0_0 rfl) ?_)
                          refine rs_v 9 rfl rfl rfl rfl (OpV.mono (v_load T.scal_9 rfl) (fun w hw => by first | exact sat_cell hw (by (repeat first | with_reducible exact xH | apply xT); first | done | fail) rfl | exact own_cell hw (by (repeat first | with_reducible exact xH | apply xT); first | done | fail) (by first | rfl | assumption) | exact ro_at0 hw (by (repeat first | with_reducible exact xH | apply xT); first | done | fail) (by assumption) rfl | exact ro_at hw (by (repeat first | with_reducible exact xH | apply xT); first | done | fail) (by assumption) rfl | exact own_at0 hw (by (repeat first | with_reducible exact xH | apply xT); first | done | fail) (by assumption) rfl | exact own_at hw (by (repeat first | with_reducible exact xH | apply xT); first | done | fail) (by assumption) rfl | exact old_cell hw (by (repeat first | with_reducible exact xH | apply xT); first | done | fail) (by assumption) | assumption)) (by first | exact hw | exact Sat.sub hw (by (repeat (first | with_reducible exact Sub.refl _ | exact Sub.nil _ | (apply Sub.cons; focus ((repeat (first | with_reducible exact Pick.here _ | apply Pick.there)); (first | done | fail))) | with_reducible apply Sub.drop)); first | done | fail)) ?_
                          refine rs_kv 15 rfl rfl rfl rfl (by first | exact sat_cell hw (by (repeat first | with_reducible exact xH | apply xT); first | done | fail) rfl | exact own_cell hw (by (repeat first | with_reducible exact xH | apply xT); first | done | fail) (by first | rfl | assumption) | exact ro_at0 hw (by (repeat first | with_reducible exact xH | apply xT); first | done | fail) (by assumption) rfl | exact ro_at hw (by (repeat first | with_reducible exact xH | apply xT); first | done | fail) (by assumption) rfl | exact own_at0 hw (by (repeat first | with_reducible exact xH | apply xT); first | done | fail) (by assumption) rfl | exact own_at hw (by (repeat first | with_reducible exact xH | apply xT); first | done | fail) (by assumption) rfl | exact old_cell hw (by (repeat first | with_reducible exact xH | apply xT); first | done | fail) (by assumption) | assumption) (v_load T.scal_30 rfl) ?_
                          refine rs_kv 17 rfl rfl rfl rfl (S' := fun _ => True) trivial (v_indexAddr T.sl_30_70_5 rfl rfl (by omega) (by omega)) ?_
                          first | (refine rs_kv 18 rfl rfl rfl rfl (S' := fun _ => True) trivial (v_fieldAddr0 T.fld_70_0_0 rfl) ?_) | (refine rs_kv 18 rfl rfl rfl rfl (S' := fun _ => True) trivial (v_fieldAddr T.fld_70_0_0 rfl) ?_)
                          refine rs_kv 19 rfl rfl rfl rfl (by first | exact sat_cell hw (by (repeat first | with_reducible exact xH | apply xT); first | done | fail) rfl | exact own_cell hw (by (repeat first | with_reducible exact xH | apply xT); first | done | fail) (by first | rfl | assumption) | exact ro_at0 hw (by (repeat first | with_reducible exact xH | apply xT); first | done | fail) (by assumption) rfl | exact ro_at hw (by (repeat first | with_reducible exact xH | apply xT); first | done | fail) (by assumption) rfl | exact own_at0 hw (by (repeat first | with_reducible exact xH | apply xT); first | done | fail) (by assumption) rfl | exact own_at hw (by (repeat first | with_reducible exact xH | apply xT); first | done | fail) (by assumption) rfl | exact old_cell hw (by (repeat first | with_reducible exact xH | apply xT); first | done | fail) (by assumption) | assumption) (v_load T.scal_9 rfl) ?_
                          first | (refine rs_kv 20 rfl rfl rfl rfl (S' := fun _ => True) trivial (v_neqStrF rfl rfl (by first | rfl | assumption)) ?_) | (refine rs_kv 20 rfl rfl rfl rfl (S' := fun _ => True) trivial (v_neqStrT rfl rfl (by first | assumption | decide)) ?_) | (refine rs_kv 20 rfl rfl rfl rfl (S' := fun _ => True) trivial (v_neqStr rfl rfl) ?_)
                          refine rs_done (g_le (xK (xK (xK (xK (xK (xK (xK (xK (xK (xK (xK (xK (xK (xK (xK (xK (xK (xK (xK (xK (xK (Fr.le_refl _)))))))))))))))))))))) ?_)
                          refine g_cond_false rfl ?_
                          refine g_skip (g_inBlock ?_)
                          refine g_region ?_
                          first | (refine xV rfl rfl rfl (v_add rfl rfl (by omega)) ?_) | (refine xV rfl rfl rfl (v_addW rfl rfl) ?_)
                          refine xV rfl rfl rfl (v_move rfl) ?_
                          refine rl_nil (g_le (xK (xK (Fr.le_refl _))) ?_)
                          exact g_le (by repeat (first | exact Fr.le_nil _ | refine Fr.le_cons rfl ?_)) (ih3 (j + 1) w ⟨by omega, hw.xQ⟩ (by omega))
                      · try with_reducible exact tf_elim h9
                        all_goals
                          try replace h9 := of_decide_eq_false h9
                          refine g_exit rfl (g_inBlock ?_)
                          refine g_region ?_
                          first | (refine xV rfl rfl rfl (v_add rfl rfl (by omega)) ?_) | (refine xV rfl rfl rfl (v_addW rfl rfl) ?_)
                          refine xV rfl rfl rfl (v_move rfl) ?_
                          refine rl_nil (g_le (xK (xK (Fr.le_refl _))) ?_)
                          exact g_le (by repeat (first | exact Fr.le_nil _ | refine Fr.le_cons rfl ?_)) (ih2 (k + 1, n4) w ⟨by simp only; omega, hrel4, hw.xQ⟩ (by simp only; omega))
                  · intro joinc8
                    refine g_cond rfl (fun h8 => ?_) (fun h8 => ?_)
                    · try with_reducible exact ft_elim h8
                      all_goals
                        try replace h8 := of_decide_eq_true h8
                        refine g_region ?_
                        refine xV rfl rfl rfl (v_move rfl) ?_
                        first | (refine xV rfl rfl rfl (v_sub rfl rfl (by omega)) ?_) | (refine xV rfl rfl rfl (v_subW rfl rfl) ?_)
                        refine xV rfl rfl rfl (v_assign rfl) ?_
                        refine rl_nil (g_le (xK (xK (xK (Fr.le_refl _)))) ?_)
                        rcases hrest with ⟨he, _⟩ | ⟨_, m, rfl, hrel4⟩
                        exact absurd he (by simpa using h8)
                        rw [show ((m + 1 : Nat) : Int) - 1 = (m : Nat) by omega]
                        exact joinc8 m w _ (by repeat (first | exact Fr.le_nil _ | refine Fr.le_cons rfl ?_)) ⟨hrel4, hw.xQ⟩
                    · try with_reducible exact tf_elim h8
                      all_goals
                        try replace h8 := of_decide_eq_false h8
                        refine g_skip ?_
                        rcases hrest with ⟨_, _, hrel4⟩ | ⟨hne, _⟩
                        exact joinc8 n w _ (by repeat (first | exact Fr.le_nil _ | refine Fr.le_cons rfl ?_)) ⟨hrel4, hw.xQ⟩
                        exact absurd (by simpa using h8) hne
              · try with_reducible exact tf_elim g25_24
                all_goals
                  try replace g25_24 := of_decide_eq_false g25_24
                  refine rs_ag 25 rfl (met_on rfl rfl rfl rfl) rfl rfl (v_move rfl) ?_
                  refine rs_ag 26 rfl (met_on rfl rfl rfl rfl) rfl rfl (v_move rfl) ?_
                  refine rs_ag 27 rfl (met_on rfl rfl rfl rfl) rfl rfl (v_indexAddr T.sl_57_61_8 rfl rfl (by omega) (by omega)) ?_
                  refine rs_ag 28 rfl (met_on rfl rfl rfl rfl) rfl rfl (v_fieldAddr T.fld_61_2_5 rfl) ?_
                  refine rs_ag 29 rfl (met_on rfl rfl rfl rfl) rfl rfl (v_fieldAddr T.fld_32_0_0 rfl) ?_
                  refine rs_ag 31 rfl (met_on rfl rfl rfl rfl) rfl rfl (v_move rfl) ?_
                  refine rs_ag 32 rfl (met_on rfl rfl rfl rfl) rfl rfl (v_move rfl) ?_
                  refine rs_ag 33 rfl (met_on rfl rfl rfl rfl) rfl rfl (v_indexAddr T.sl_57_61_8 rfl rfl (by omega) (by omega)) ?_
                  refine rs_ag 34 rfl (met_on rfl rfl rfl rfl) rfl rfl (v_fieldAddr T.fld_61_2_5 rfl) ?_
                  refine rs_ag 35 rfl (met_on rfl rfl rfl rfl) rfl rfl (v_fieldAddr T.fld_32_0_0 rfl) ?_
                  refine rs_vg 30 rfl (met_on rfl rfl rfl rfl) rfl rfl (OpV.mono (v_load T.scal_4 rfl) (fun w hw => by exact ro_at0 hw (by (repeat first | with_reducible exact xH | apply xT); first | done | fail) (by assumption) rfl)) (by exact hw) ?_
                  refine rs_kvg 36 rfl (met_on rfl rfl rfl rfl) rfl rfl (by exact ro_at0 hw (by (repeat first | with_reducible exact xH | apply xT); first | done | fail) (by assumption) rfl) (v_load T.scal_4 rfl) ?_
                  refine rs_kvg 37 rfl (met_on rfl rfl rfl rfl) rfl rfl (S' := fun _ => True) trivial (v_neqBoolF T.bool_4 rfl rfl (by first | rfl | assumption)) ?_
                  refine rs_kv 38 rfl rfl rfl rfl (S' := fun _ => True) trivial (v_pick_false rfl rfl) ?_
                  refine rs_kv 39 rfl rfl rfl rfl (S' := fun _ => True) trivial (v_move rfl) ?_
                  refine rs_split (s := 164) rfl (fun g25_39 => ?_) (fun g25_39 => ?_)
                  · try with_reducible exact ft_elim g25_39
                    all_goals
                      try replace g25_39 := of_decide_eq_true g25_39
                      refine rs_aoff 40 rfl (met_off rfl rfl rfl rfl rfl) rfl rfl ?_
                      refine rs_aoff 41 rfl (met_off rfl rfl rfl rfl rfl) rfl rfl ?_
                      refine rs_aoff 42 rfl (met_off rfl rfl rfl rfl rfl) rfl rfl ?_
                      refine rs_aoff 43 rfl (met_off rfl rfl rfl rfl rfl) rfl rfl ?_
                      refine rs_aoff 44 rfl (met_off rfl rfl rfl rfl rfl) rfl rfl ?_
                      refine rs_aoff 46 rfl (met_off rfl rfl rfl rfl rfl) rfl rfl ?_
                      refine rs_aoff 47 rfl (met_off rfl rfl rfl rfl rfl) rfl rfl ?_
                      refine rs_aoff 48 rfl (met_off rfl rfl rfl rfl rfl) rfl rfl ?_
                      refine rs_aoff 49 rfl (met_off rfl rfl rfl rfl rfl) rfl rfl ?_
                      refine rs_aoff 50 rfl (met_off rfl rfl rfl rfl rfl) rfl rfl ?_
                      refine rs_voff 45 rfl (met_off rfl rfl rfl rfl rfl) rfl rfl (by first | exact hw | exact Sat.sub hw (by (repeat (first | with_reducible exact Sub.refl _ | exact Sub.nil _ | (apply Sub.cons; focus ((repeat (first | with_reducible exact Pick.here _ | apply Pick.there)); (first | done | fail))) | with_reducible apply Sub.drop)); first | done | fail)) ?_
                      refine rs_koff 51 rfl (met_off rfl rfl rfl rfl rfl) rfl rfl ?_
                      refine rs_koff 52 rfl (met_off rfl rfl rfl rfl rfl) rfl rfl ?_
                      refine rs_koff 53 rfl (met_off rfl rfl rfl rfl rfl) rfl rfl ?_
                      first | (refine rs_kv 54 rfl rfl rfl rfl (S' := fun _ => True) trivial (v_pick_true rfl rfl) ?_) | (refine rs_kv 54 rfl rfl rfl rfl (S' := fun _ => True) trivial (v_pick_false rfl rfl) ?_) | (refine rs_kv 54 rfl rfl rfl rfl (S' := fun _ => True) trivial (v_pick rfl rfl rfl) ?_)
                      refine rs_kv 55 rfl rfl rfl rfl (S' := fun _ => True) trivial (v_move rfl) ?_
                      refine rs_aoff 56 rfl (met_off rfl rfl rfl rfl rfl) rfl rfl ?_
                      refine rs_aoff 57 rfl (met_off rfl rfl rfl rfl rfl) rfl rfl ?_
                      refine rs_aoff 58 rfl (met_off rfl rfl rfl rfl rfl) rfl rfl ?_
                      refine rs_aoff 59 rfl (met_off rfl rfl rfl rfl rfl) rfl rfl ?_
                      refine rs_aoff 60 rfl (met_off rfl rfl rfl rfl rfl) rfl rfl ?_
                      refine rs_aoff 63 rfl (met_off rfl rfl rfl rfl rfl) rfl rfl ?_
                      refine rs_aoff 64 rfl (met_off rfl rfl rfl rfl rfl) rfl rfl ?_
                      refine rs_aoff 65 rfl (met_off rfl rfl rfl rfl rfl) rfl rfl ?_
                      refine rs_aoff 66 rfl (met_off rfl rfl rfl rfl rfl) rfl rfl ?_
                      refine rs_aoff 67 rfl (met_off rfl rfl rfl rfl rfl) rfl rfl ?_
                      refine rs_voff 61 rfl (met_off rfl rfl rfl rfl rfl) rfl rfl (by first | exact hw | exact Sat.sub hw (by (repeat (first | with_reducible exact Sub.refl _ | exact Sub.nil _ | (apply Sub.cons; focus ((repeat (first | with_reducible exact Pick.here _ | apply Pick.there)); (first | done | fail))) | with_reducible apply Sub.drop)); first | done | fail)) ?_
                      refine rs_aoff 62 rfl (met_off rfl rfl rfl rfl rfl) rfl rfl ?_
                      refine rs_koff 68 rfl (met_off rfl rfl rfl rfl rfl) rfl rfl ?_
                      refine rs_koff 69 rfl (met_off rfl rfl rfl rfl rfl) rfl rfl ?_
                      refine rs_koff 70 rfl (met_off rfl rfl rfl rfl rfl) rfl rfl ?_
                      first | (refine rs_kv 71 rfl rfl rfl rfl (S' := fun _ => True) trivial (v_pick_true rfl rfl) ?_) | (refine rs_kv 71 rfl rfl rfl rfl (S' := fun _ => True) trivial (v_pick_false rfl rfl) ?_) | (refine rs_kv 71 rfl rfl rfl rfl (S' := fun _ => True) trivial (v_pick rfl rfl rfl) ?_)
                      refine rs_done (g_le (xK (xK (xK (xK (xK (xK (xK (xK (xK (xK (xK (xK (xK (xK (xK (xK (xK (xK (xK (xK (xK (xK (xK (xK (xK (xK (xK (xK (xK (xK (xK (xK (xK (xK (xK (xK (xK (xK (xK (xK (xK (xK (xK (xK (xK (xK (xK (xK (xK (xK (xK (xK (xK (xK (xK (xK (xK (xK (xK (xK (xK (xK (xK (xK (xK (xK (xK (xK (xK (xK (xK (xK (xK (xK (xK (Fr.le_refl _)))))))))))))))))))))))))))))))))))))))))))))))))))))))))))))))))))))))))))) ?_)
                      refine g_cond_false rfl ?_
                      refine g_skip (g_seq (g_seq ?_))
                      refine g_region ?_
                      refine xV rfl rfl rfl (v_move rfl) ?_
                      refine xV rfl rfl rfl (v_not rfl) ?_
                      refine rl_nil (g_le (xK (xK (Fr.le_refl _))) ?_)
                      refine g_cutc (σ := Nat) (fun C x => (16, .int .i64 (x : Nat)) :: C) [(1, _), (4, _), (12, _), (18, _), (20, _), (21, _), (110, _), (111, _), (112, _), (113, _), (114, _), (115, _), (116, _), (117, _), (118, _), (119, _), (120, _), (121, _), (122, _), (123, _), (124, _), (125, _), (126, _), (127, _), (128, _), (129, _), (130, _), (131, _), (132, _), (133, _), (134, _), (135, _), (136, _), (137, _), (138, _), (139, _), (140, _), (141, _), (142, _), (143, _), (144, _), (145, _), (146, _), (147, _), (148, _), (149, _), (150, _), (151, _), (152, _), (153, _), (154, _), (155, _), (156, _), (157, _), (158, _), (159, _), (160, _), (161, _), (162, _), (163, _), (164, _), (165, _), (166, _), (167, _), (168, _), (169, _), (170, _), (171, _), (172, _), (173, _), (174, _), (175, _), (176, _), (177, _), (178, _), (179, _), (180, _), (181, _), (182, _), (183, _), (184, _), (185, _), (186, _), (187, _), (188, _), (189, _), (190, _), (191, _), (192, _), (193, _), (194, _), (195, _), (196, _), (197, _), (198, _)] (by repeat (first | exact Fr.le_nil _ | refine Fr.le_cons rfl ?_)) (fun z w => mvRel segs (old.drop (k + 1)) (now.drop (k + 1)) z ∧ Sat (envOf W) w (A4 :: RO g4 :: [])) ?_ ?_
                      · skip
                        rintro n4 w ⟨hrel4, hw⟩
                        all_goals
                          refine g_seq ?_
                          refine g_region ?_
                          refine xV rfl rfl rfl (v_move rfl) ?_
                          refine xV rfl rfl rfl (v_move rfl) ?_
                          refine xV rfl rfl rfl (v_indexAddr T.sl_57_61_8 rfl rfl (by omega) (by omega)) ?_
                          first | (refine xV rfl rfl rfl (v_fieldAddr0 T.fld_61_2_5 rfl) ?_) | (refine xV rfl rfl rfl (v_fieldAddr T.fld_61_2_5 rfl) ?_)
                          first | (refine xV rfl rfl rfl (v_fieldAddr0 T.fld_32_2_2 rfl) ?_) | (refine xV rfl rfl rfl (v_fieldAddr T.fld_32_2_2 rfl) ?_)
                          refine rl_v rfl rfl rfl (by first | exact sat_cell hw (by (repeat first | with_reducible exact xH | apply xT); first | done | fail) rfl | exact own_cell hw (by (repeat first | with_reducible exact xH | apply xT); first | done | fail) (by first | rfl | assumption) | exact ro_at0 hw (by (repeat first | with_reducible exact xH | apply xT); first | done | fail) (by assumption) rfl | exact ro_at hw (by (repeat first | with_reducible exact xH | apply xT); first | done | fail) (by assumption) rfl | exact own_at0 hw (by (repeat first | with_reducible exact xH | apply xT); first | done | fail) (by assumption) rfl | exact own_at hw (by (repeat first | with_reducible exact xH | apply xT); first | done | fail) (by assumption) rfl | exact old_cell hw (by (repeat first | with_reducible exact xH | apply xT); first | done | fail) (by assumption) | assumption) (v_load T.scal_30 rfl) ?_
                          refine xV rfl rfl rfl (v_lenSlice T.sl_30_70_5 rfl) ?_
                          refine xV rfl rfl rfl (v_move rfl) ?_
                          refine rl_nil (g_le (xK (xK (xK (xK (xK (xK (xK (xK (Fr.le_refl _))))))))) ?_)
                          refine g_block ?_
                          refine g_loopC (σ := Nat) (fun C x => (208, .int .i64 (x : Nat)) :: C) [(1, _), (4, _), (12, _), (16, _), (18, _), (20, _), (21, _), (110, _), (111, _), (112, _), (113, _), (114, _), (115, _), (116, _), (117, _), (118, _), (119, _), (120, _), (121, _), (122, _), (123, _), (124, _), (125, _), (126, _), (127, _), (128, _), (129, _), (130, _), (131, _), (132, _), (133, _), (134, _), (135, _), (136, _), (137, _), (138, _), (139, _), (140, _), (141, _), (142, _), (143, _), (144, _), (145, _), (146, _), (147, _), (148, _), (149, _), (150, _), (151, _), (152, _), (153, _), (154, _), (155, _), (156, _), (157, _), (158, _), (159, _), (160, _), (161, _), (162, _), (163, _), (164, _), (165, _), (166, _), (167, _), (168, _), (169, _), (170, _), (171, _), (172, _), (173, _), (174, _), (175, _), (176, _), (177, _), (178, _), (179, _), (180, _), (181, _), (182, _), (183, _), (184, _), (185, _), (186, _), (187, _), (188, _), (189, _), (190, _), (191, _), (192, _), (193, _), (194, _), (195, _), (196, _), (197, _), (198, _), (201, _), (202, _), (203, _), (204, _), (205, _), (206, _), (207, _)] (by repeat (first | exact Fr.le_nil _ | refine Fr.le_cons rfl ?_)) (fun z w => z ≤ y.node.kids.length ∧ Sat (envOf W) w (A4 :: RO g4 :: [])) (fun z => y.node.kids.length - z) ?_ 0 (by repeat (first | exact Fr.le_nil _ | refine Fr.le_cons rfl ?_)) ⟨by simp, hw.xQ⟩
                          rintro j w ⟨hj1, hw⟩ ih3
                          refine g_seq ?_
                          refine g_region ?_
                          first | (refine xV rfl rfl rfl (v_lssT rfl rfl (by omega)) ?_) | (refine xV rfl rfl rfl (v_lssF rfl rfl (by omega)) ?_) | (refine xV rfl rfl rfl (v_lss rfl rfl) ?_)
                          refine rl_nil (g_le (xK (Fr.le_refl _)) ?_)
                          refine g_seq ?_
                          refine g_cond rfl (fun h9 => ?_) (fun h9 => ?_)
                          · try with_reducible exact ft_elim h9
                            all_goals
                              try replace h9 := of_decide_eq_true h9
                              refine g_skip (g_seq (g_block (g_seq ?_)))
                              refine g_region ?_
                              refine xV rfl rfl rfl (v_move rfl) ?_
                              refine xV rfl rfl rfl (v_assign rfl) ?_
                              refine rl_nil (g_le (xK (xK (Fr.le_refl _))) ?_)
                              refine g_seq ?_
                              have hz := hw
                              clear hw
                              obtain ⟨b7, o7, yd, ecs7, rfl, hyd, hat7, hl7, rfl, _⟩ := gyk (j : Nat) (by omega) (by omega)
                              obtain ⟨b8, o8, xd, ecs8, rfl, hxd, hat8, hl8, rfl, _⟩ := gxk (j : Nat) (by omega) (by omega)
                              rw [Int.toNat_natCast] at hyd hat7 hxd hat8
                              have hlows : yd.low = xd.low := by have := congrArg (fun l => l[j]?) hkd; simpa [hyd, hxd] using this
                              have hw := hz
                              refine g_drawR ord_f5_r32_H07V (by kernel_rfl) T.mixed hw (fun w hw => ?_)
                              refine rs_a 0 rfl rfl rfl rfl (v_move rfl) ?_
                              refine rs_a 1 rfl rfl rfl rfl (v_move rfl) ?_
                              refine rs_a 2 rfl rfl rfl rfl (v_indexAddr T.sl_57_61_8 rfl rfl (by omega) (by omega)) ?_
                              first | (refine rs_a 3 rfl rfl rfl rfl (v_fieldAddr0 T.fld_61_2_5 rfl) ?_) | (refine rs_a 3 rfl rfl rfl rfl (v_fieldAddr T.fld_61_2_5 rfl) ?_)
                              first | (refine rs_a 4 rfl rfl rfl rfl (v_fieldAddr0 T.fld_32_2_2 rfl) ?_) | (refine rs_a 4 rfl rfl rfl rfl (v_fieldAddr T.fld_32_2_2 rfl) ?_)
                              refine rs_a 6 rfl rfl rfl rfl (v_move rfl) ?_
                              refine rs_a 10 rfl rfl rfl rfl (v_move rfl) ?_
                              refine rs_a 11 rfl rfl rfl rfl (v_move rfl) ?_
                              refine rs_a 12 rfl rfl rfl rfl (v_indexAddr T.sl_57_61_8 rfl rfl (by omega) (by omega)) ?_
                              first | (refine rs_a 13 rfl rfl rfl rfl (v_fieldAddr0 T.fld_61_2_5 rfl) ?_) | (refine rs_a 13 rfl rfl rfl rfl (v_fieldAddr T.fld_61_2_5 rfl) ?_)
                              first | (refine rs_a 14 rfl rfl rfl rfl (v_fieldAddr0 T.fld_32_2_2 rfl) ?_) | (refine rs_a 14 rfl rfl rfl rfl (v_fieldAddr T.fld_32_2_2 rfl) ?_)
                              refine rs_a 16 rfl rfl rfl rfl (v_move rfl) ?_
                              refine rs_v 5 rfl rfl rfl rfl (OpV.mono (v_load T.scal_30 rfl) (fun w hw => by first | exact sat_cell hw (by (repeat first | with_reducible exact xH | apply xT); first | done | fail) rfl | exact own_cell hw (by (repeat first | with_reducible exact xH | apply xT); first | done | fail) (by first | rfl | assumption) | exact ro_at0 hw (by (repeat first | with_reducible exact xH | apply xT); first | done | fail) (by assumption) rfl | exact ro_at hw (by (repeat first | with_reducible exact xH | apply xT); first | done | fail) (by assumption) rfl | exact own_at0 hw (by (repeat first | with_reducible exact xH | apply xT); first | done | fail) (by assumption) rfl | exact own_at hw (by (repeat first | with_reducible exact xH | apply xT); first | done | fail) (by assumption) rfl | exact old_cell hw (by (repeat first | with_reducible exact xH | apply xT); first | done | fail) (by assumption) | assumption)) (by first | exact hw | exact Sat.sub hw (by (repeat (first | with_reducible exact Sub.refl _ | exact Sub.nil _ | (apply Sub.cons; focus ((repeat (first | with_reducible exact Pick.here _ | apply Pick.there)); (first | done | fail))) | with_reducible apply Sub.drop)); first | done | fail)) ?_
                              refine rs_a 7 rfl rfl rfl rfl (v_indexAddr T.sl_30_70_5 rfl rfl (by omega) (by omega)) ?_
                              first | (refine rs_a 8 rfl rfl rfl rfl (v_fieldAddr0 T.fld_70_0_0 rfl) ?_) | (refine rs_a 8 rfl rfl rfl rfl (v_fieldAddr T.fld_70_0_0 rfl) ?_)
                              refine rs_v 9 rfl rfl rfl rfl (OpV.mono (v_load T.scal_9 rfl) (fun w hw => by first | exact sat_cell hw (by (repeat first | with_reducible exact xH | apply xT); first | done | fail) rfl | exact own_cell hw (by (repeat first | with_reducible exact xH | apply xT); first | done | fail) (by first | rfl | assumption) | exact ro_at0 hw (by (repeat first | with_reducible exact xH | apply xT); first | done | fail) (by assumption) rfl | exact ro_at hw (by (repeat first | with_reducible exact xH | apply xT); first | done | fail) (by assumption) rfl | exact own_at0 hw (by (repeat first | with_reducible exact xH | apply xT); first | done | fail) (by assumption) rfl | exact own_at hw (by (repeat first | with_reducible exact xH | apply xT); first | done | fail) (by assumption) rfl | exact old_cell hw (by (repeat first | with_reducible exact xH | apply xT); first | done | fail) (by assumption) | assumption)) (by first | exact hw | exact Sat.sub hw (by (repeat (first | with_reducible exact Sub.refl _ | exact Sub.nil _ | (apply Sub.cons; focus ((repeat (first | with_reducible exact Pick.here _ | apply Pick.there)); (first | done | fail))) | with_reducible apply Sub.drop)); first | done | fail)) ?_
                              refine rs_kv 15 rfl rfl rfl rfl (by first | exact sat_cell hw (by (repeat first | with_reducible exact xH | apply xT); first | done | fail) rfl | exact own_cell hw (by (repeat first | with_reducible exact xH | apply xT); first | done | fail) (by first | rfl | assumption) | exact ro_at0 hw (by (repeat first | with_reducible exact xH | apply xT); first | done | fail) (by assumption) rfl | exact ro_at hw (by (repeat first | with_reducible exact xH | apply xT); first | done | fail) (by assumption) rfl | exact own_at0 hw (by (repeat first | with_reducible exact xH | apply xT); first | done | fail) (by assumption) rfl | exact own_at hw (by (repeat first | with_reducible exact xH | apply xT); first | done | fail) (by assumption) rfl | exact old_cell hw (by (repeat first | with_reducible exact xH | apply xT); first | done | fail) (by assumption) | assumption) (v_load T.scal_30 rfl) ?_
                              refine rs_kv 17 rfl rfl rfl rfl (S' := fun _ => True) trivial (v_indexAddr T.sl_30_70_5 rfl rfl (by omega) (by omega)) ?_
                              first | (refine rs_kv 18 rfl rfl rfl rfl (S' := fun _ => True) trivial (v_fieldAddr0 T.fld_70_0_0 rfl) ?_) | (refine rs_kv 18 rfl rfl rfl rfl (S' := fun _ => True) trivial (v_fieldAddr T.fld_70_0_0 rfl) ?_)
                              refine rs_kv 19 rfl rfl rfl rfl (by first | exact sat_cell hw (by (repeat first | with_reducible exact xH | apply xT); first | done | fail) rfl | exact own_cell hw (by (repeat first | with_reducible exact xH | apply xT); first | done | fail) (by first | rfl | assumption) | exact ro_at0 hw (by (repeat first | with_reducible exact xH | apply xT); first | done | fail) (by assumption) rfl | exact ro_at hw (by (repeat first | with_reducible exact xH | apply xT); first | done | fail) (by assumption) rfl | exact own_at0 hw (by (repeat first | with_reducible exact xH | apply xT); first | done | fail) (by assumption) rfl | exact own_at hw (by (repeat first | with_reducible exact xH | apply xT); first | done | fail) (by assumption) rfl | exact old_cell hw (by (repeat first | with_reducible exact xH | apply xT); first | done | fail) (by assumption) | assumption) (v_load T.scal_9 rfl) ?_
                              first | (refine rs_kv 20 rfl rfl rfl rfl (S' := fun _ => True) trivial (v_neqStrF rfl rfl (by first | rfl | assumption)) ?_) | (refine rs_kv 20 rfl rfl rfl rfl (S' := fun _ => True) trivial (v_neqStrT rfl rfl (by first | assumption | decide)) ?_) | (refine rs_kv 20 rfl rfl rfl rfl (S' := fun _ => True) trivial (v_neqStr rfl rfl) ?_)
                              refine rs_done (g_le (xK (xK (xK (xK (xK (xK (xK (xK (xK (xK (xK (xK (xK (xK (xK (xK (xK (xK (xK (xK (xK (Fr.le_refl _)))))))))))))))))))))) ?_)
                              refine g_cond_false rfl ?_
                              refine g_skip (g_inBlock ?_)
                              refine g_region ?_
                              first | (refine xV rfl rfl rfl (v_add rfl rfl (by omega)) ?_) | (refine xV rfl rfl rfl (v_addW rfl rfl) ?_)
                              refine xV rfl rfl rfl (v_move rfl) ?_
                              refine rl_nil (g_le (xK (xK (Fr.le_refl _))) ?_)
                              exact g_le (by repeat (first | exact Fr.le_nil _ | refine Fr.le_cons rfl ?_)) (ih3 (j + 1) w ⟨by omega, hw.xQ⟩ (by omega))
                          · try with_reducible exact tf_elim h9
                            all_goals
                              try replace h9 := of_decide_eq_false h9
                              refine g_exit rfl (g_inBlock ?_)
                              refine g_region ?_
                              first | (refine xV rfl rfl rfl (v_add rfl rfl (by omega)) ?_) | (refine xV rfl rfl rfl (v_addW rfl rfl) ?_)
                              refine xV rfl rfl rfl (v_move rfl) ?_
                              refine rl_nil (g_le (xK (xK (Fr.le_refl _))) ?_)
                              exact g_le (by repeat (first | exact Fr.le_nil _ | refine Fr.le_cons rfl ?_)) (ih2 (k + 1, n4) w ⟨by simp only; omega, hrel4, hw.xQ⟩ (by simp only; omega))
                      · intro joinc8
                        refine g_cond rfl (fun h8 => ?_) (fun h8 => ?_)
                        · try with_reducible exact ft_elim h8
                          all_goals
                            try replace h8 := of_decide_eq_true h8
                            refine g_region ?_
                            refine xV rfl rfl rfl (v_move rfl) ?_
                            first | (refine xV rfl rfl rfl (v_sub rfl rfl (by omega)) ?_) | (refine xV rfl rfl rfl (v_subW rfl rfl) ?_)
                            refine xV rfl rfl rfl (v_assign rfl) ?_
                            refine rl_nil (g_le (xK (xK (xK (Fr.le_refl _)))) ?_)
                            rcases hrest with ⟨he, _⟩ | ⟨_, m, rfl, hrel4⟩
                            exact absurd he (by simpa using h8)
                            rw [show ((m + 1 : Nat) : Int) - 1 = (m : Nat) by omega]
                            exact joinc8 m w _ (by repeat (first | exact Fr.le_nil _ | refine Fr.le_cons rfl ?_)) ⟨hrel4, hw.xQ⟩
                        · try with_reducible exact tf_elim h8
                          all_goals
                            try replace h8 := of_decide_eq_false h8
                            refine g_skip ?_
                            rcases hrest with ⟨_, _, hrel4⟩ | ⟨hne, _⟩
                            exact joinc8 n w _ (by repeat (first | exact Fr.le_nil _ | refine Fr.le_cons rfl ?_)) ⟨hrel4, hw.xQ⟩
                            exact absurd (by simpa using h8) hne
                  · try with_reducible exact tf_elim g25_39
                    all_goals
                      try replace g25_39 := of_decide_eq_false g25_39
                      refine rs_ag 40 rfl (met_on rfl rfl rfl rfl) rfl rfl (v_move rfl) ?_
                      refine rs_ag 41 rfl (met_on rfl rfl rfl rfl) rfl rfl (v_move rfl) ?_
                      refine rs_ag 42 rfl (met_on rfl rfl rfl rfl) rfl rfl (v_indexAddr T.sl_57_61_8 rfl rfl (by omega) (by omega)) ?_
                      refine rs_ag 43 rfl (met_on rfl rfl rfl rfl) rfl rfl (v_fieldAddr T.fld_61_2_5 rfl) ?_
                      refine rs_ag 44 rfl (met_on rfl rfl rfl rfl) rfl rfl (v_fieldAddr T.fld_32_1_1 rfl) ?_
                      refine rs_ag 46 rfl (met_on rfl rfl rfl rfl) rfl rfl (v_move rfl) ?_
                      refine rs_ag 47 rfl (met_on rfl rfl rfl rfl) rfl rfl (v_move rfl) ?_
                      refine rs_ag 48 rfl (met_on rfl rfl rfl rfl) rfl rfl (v_indexAddr T.sl_57_61_8 rfl rfl (by omega) (by omega)) ?_
                      refine rs_ag 49 rfl (met_on rfl rfl rfl rfl) rfl rfl (v_fieldAddr T.fld_61_2_5 rfl) ?_
                      refine rs_ag 50 rfl (met_on rfl rfl rfl rfl) rfl rfl (v_fieldAddr T.fld_32_1_1 rfl) ?_
                      refine rs_vg 45 rfl (met_on rfl rfl rfl rfl) rfl rfl (OpV.mono (v_load T.scal_29 rfl) (fun w hw => by exact ro_at hw (by (repeat first | with_reducible exact xH | apply xT); first | done | fail) (by assumption) rfl)) (by exact hw) ?_
                      refine rs_kvg 51 rfl (met_on rfl rfl rfl rfl) rfl rfl (by exact ro_at hw (by (repeat first | with_reducible exact xH | apply xT); first | done | fail) (by assumption) rfl) (v_load T.scal_29 rfl) ?_
                      refine rs_kg 52 rfl (met_on rfl rfl rfl rfl) (k_callf Try.func28 rfl rfl rfl rfl ?_)
                      refine Calls.mono (likeAll_calls hqe hpe (hw.xQ)) ?_
                      rw [decide_eq_true hen]
                      rintro _ w ⟨rfl, hw⟩
                      refine ⟨_, rfl, ?_⟩
                      refine ⟨fun _ => (by exact Sat.sub hw (by (repeat (first | with_reducible exact Sub.refl _ | exact Sub.nil _ | (apply Sub.cons; focus ((repeat (first | with_reducible exact Pick.here _ | apply Pick.there)); (first | done | fail))) | with_reducible apply Sub.drop)); first | done | fail)), ?_⟩
                      refine rs_kvg 53 rfl (met_on rfl rfl rfl rfl) rfl rfl (S' := fun _ => True) trivial (v_not rfl) ?_
                      refine rs_kv 54 rfl rfl rfl rfl (S' := fun _ => True) trivial (v_pick_false rfl rfl) ?_
                      refine rs_kv 55 rfl rfl rfl rfl (S' := fun _ => True) trivial (v_move rfl) ?_
                      refine rs_split (s := 180) rfl (fun g25_55 => ?_) (fun g25_55 => ?_)
                      · try with_reducible exact ft_elim g25_55
                        all_goals
                          try replace g25_55 := of_decide_eq_true g25_55
                          simp at g25_55
                      · try with_reducible exact tf_elim g25_55
                        all_goals
                          try replace g25_55 := of_decide_eq_false g25_55
                          refine rs_ag 56 rfl (met_on rfl rfl rfl rfl) rfl rfl (v_move rfl) ?_
                          refine rs_ag 57 rfl (met_on rfl rfl rfl rfl) rfl rfl (v_move rfl) ?_
                          refine rs_ag 58 rfl (met_on rfl rfl rfl rfl) rfl rfl (v_indexAddr T.sl_57_61_8 rfl rfl (by omega) (by omega)) ?_
                          refine rs_ag 59 rfl (met_on rfl rfl rfl rfl) rfl rfl (v_fieldAddr T.fld_61_2_5 rfl) ?_
                          refine rs_ag 60 rfl (met_on rfl rfl rfl rfl) rfl rfl (v_fieldAddr T.fld_32_2_2 rfl) ?_
                          refine rs_ag 63 rfl (met_on rfl rfl rfl rfl) rfl rfl (v_move rfl) ?_
                          refine rs_ag 64 rfl (met_on rfl rfl rfl rfl) rfl rfl (v_move rfl) ?_
                          refine rs_ag 65 rfl (met_on rfl rfl rfl rfl) rfl rfl (v_indexAddr T.sl_57_61_8 rfl rfl (by omega) (by omega)) ?_
                          refine rs_ag 66 rfl (met_on rfl rfl rfl rfl) rfl rfl (v_fieldAddr T.fld_61_2_5 rfl) ?_
                          refine rs_ag 67 rfl (met_on rfl rfl rfl rfl) rfl rfl (v_fieldAddr T.fld_32_2_2 rfl) ?_
                          refine rs_vg 61 rfl (met_on rfl rfl rfl rfl) rfl rfl (OpV.mono (v_load T.scal_30 rfl) (fun w hw => by exact ro_at hw (by (repeat first | with_reducible exact xH | apply xT); first | done | fail) (by assumption) rfl)) (by exact Sat.sub hw (by (repeat (first | with_reducible exact Sub.refl _ | exact Sub.nil _ | (apply Sub.cons; focus ((repeat (first | with_reducible exact Pick.here _ | apply Pick.there)); (first | done | fail))) | with_reducible apply Sub.drop)); first | done | fail)) ?_
                          refine rs_ag 62 rfl (met_on rfl rfl rfl rfl) rfl rfl (v_lenSlice T.sl_30_70_5 rfl) ?_
                          refine rs_kvg 68 rfl (met_on rfl rfl rfl rfl) rfl rfl (by exact ro_at hw (by (repeat first | with_reducible exact xH | apply xT); first | done | fail) (by assumption) rfl) (v_load T.scal_30 rfl) ?_
                          refine rs_kvg 69 rfl (met_on rfl rfl rfl rfl) rfl rfl (S' := fun _ => True) trivial (v_lenSlice T.sl_30_70_5 rfl) ?_
                          refine rs_kvg 70 rfl (met_on rfl rfl rfl rfl) rfl rfl (S' := fun _ => True) trivial (v_neqF rfl rfl (by omega)) ?_
                          refine rs_kv 71 rfl rfl rfl rfl (S' := fun _ => True) trivial (v_pick_false rfl rfl) ?_
                          refine rs_done (g_le (xK (xK (xK (xK (xK (xK (xK (xK (xK (xK (xK (xK (xK (xK (xK (xK (xK (xK (xK (xK (xK (xK (xK (xK (xK (xK (xK (xK (xK (xK (xK (xK (xK (xK (xK (xK (xK (xK (xK (xK (xK (xK (xK (xK (xK (xK (xK (xK (xK (xK (xK (xK (xK (xK (xK (xK (xK (xK (xK (xK (xK (xK (xK (xK (xK (xK (xK (xK (xK (xK (xK (xK (xK (xK (xK (xK (Fr.le_refl _))))))))))))))))))))))))))))))))))))))))))))))))))))))))))))))))))))))))))))) ?_)
                          refine g_cond_false rfl ?_
                          refine g_skip (g_seq (g_seq ?_))
                          refine g_region ?_
                          refine xV rfl rfl rfl (v_move rfl) ?_
                          refine xV rfl rfl rfl (v_not rfl) ?_
                          refine rl_nil (g_le (xK (xK (Fr.le_refl _))) ?_)
                          refine g_cutc (σ := Nat) (fun C x => (16, .int .i64 (x : Nat)) :: C) [(1, _), (4, _), (12, _), (18, _), (20, _), (21, _), (110, _), (111, _), (112, _), (113, _), (114, _), (115, _), (116, _), (117, _), (118, _), (119, _), (120, _), (121, _), (122, _), (123, _), (124, _), (125, _), (126, _), (127, _), (128, _), (129, _), (130, _), (131, _), (132, _), (133, _), (134, _), (135, _), (136, _), (137, _), (138, _), (139, _), (140, _), (141, _), (142, _), (143, _), (144, _), (145, _), (146, _), (147, _), (148, _), (149, _), (150, _), (151, _), (152, _), (153, _), (154, _), (155, _), (156, _), (157, _), (158, _), (159, _), (160, _), (161, _), (162, _), (163, _), (164, _), (165, _), (166, _), (167, _), (168, _), (169, _), (170, _), (171, _), (172, _), (173, _), (174, _), (175, _), (176, _), (177, _), (178, _), (179, _), (180, _), (181, _), (182, _), (183, _), (184, _), (185, _), (186, _), (187, _), (188, _), (189, _), (190, _), (191, _), (192, _), (193, _), (194, _), (195, _), (196, _), (197, _), (198, _)] (by repeat (first | exact Fr.le_nil _ | refine Fr.le_cons rfl ?_)) (fun z w => mvRel segs (old.drop (k + 1)) (now.drop (k + 1)) z ∧ Sat (envOf W) w (A4 :: RO g4 :: [])) ?_ ?_
                          · skip
                            rintro n4 w ⟨hrel4, hw⟩
                            all_goals
                              refine g_seq ?_
                              refine g_region ?_
                              refine xV rfl rfl rfl (v_move rfl) ?_
                              refine xV rfl rfl rfl (v_move rfl) ?_
                              refine xV rfl rfl rfl (v_indexAddr T.sl_57_61_8 rfl rfl (by omega) (by omega)) ?_
                              refine xV rfl rfl rfl (v_fieldAddr T.fld_61_2_5 rfl) ?_
                              refine xV rfl rfl rfl (v_fieldAddr T.fld_32_2_2 rfl) ?_
                              refine rl_v rfl rfl rfl (by exact ro_at hw (by (repeat first | with_reducible exact xH | apply xT); first | done | fail) (by assumption) rfl) (v_load T.scal_30 rfl) ?_
                              refine xV rfl rfl rfl (v_lenSlice T.sl_30_70_5 rfl) ?_
                              refine xV rfl rfl rfl (v_move rfl) ?_
                              refine rl_nil (g_le (xK (xK (xK (xK (xK (xK (xK (xK (Fr.le_refl _))))))))) ?_)
                              refine g_block ?_
                              refine g_loopC (σ := Nat) (fun C x => (208, .int .i64 (x : Nat)) :: C) [(1, _), (4, _), (12, _), (16, _), (18, _), (20, _), (21, _), (110, _), (111, _), (112, _), (113, _), (114, _), (115, _), (116, _), (117, _), (118, _), (119, _), (120, _), (121, _), (122, _), (123, _), (124, _), (125, _), (126, _), (127, _), (128, _), (129, _), (130, _), (131, _), (132, _), (133, _), (134, _), (135, _), (136, _), (137, _), (138, _), (139, _), (140, _), (141, _), (142, _), (143, _), (144, _), (145, _), (146, _), (147, _), (148, _), (149, _), (150, _), (151, _), (152, _), (153, _), (154, _), (155, _), (156, _), (157, _), (158, _), (159, _), (160, _), (161, _), (162, _), (163, _), (164, _), (165, _), (166, _), (167, _), (168, _), (169, _), (170, _), (171, _), (172, _), (173, _), (174, _), (175, _), (176, _), (177, _), (178, _), (179, _), (180, _), (181, _), (182, _), (183, _), (184, _), (185, _), (186, _), (187, _), (188, _), (189, _), (190, _), (191, _), (192, _), (193, _), (194, _), (195, _), (196, _), (197, _), (198, _), (201, _), (202, _), (203, _), (204, _), (205, _), (206, _), (207, _)] (by repeat (first | exact Fr.le_nil _ | refine Fr.le_cons rfl ?_)) (fun z w => z ≤ y.node.kids.length ∧ Sat (envOf W) w (A4 :: RO g4 :: [])) (fun z => y.node.kids.length - z) ?_ 0 (by repeat (first | exact Fr.le_nil _ | refine Fr.le_cons rfl ?_)) ⟨by simp, hw.xQ⟩
                              rintro j w ⟨hj1, hw⟩ ih3
                              refine g_seq ?_
                              refine g_region ?_
                              refine xV rfl rfl rfl (v_lss rfl rfl) ?_
                              refine rl_nil (g_le (xK (Fr.le_refl _)) ?_)
                              refine g_seq ?_
                              refine g_cond rfl (fun h9 => ?_) (fun h9 => ?_)
                              · try with_reducible exact ft_elim h9
                                all_goals
                                  try replace h9 := of_decide_eq_true h9
                                  refine g_skip (g_seq (g_block (g_seq ?_)))
                                  refine g_region ?_
                                  refine xV rfl rfl rfl (v_move rfl) ?_
                                  refine xV rfl rfl rfl (v_assign rfl) ?_
                                  refine rl_nil (g_le (xK (xK (Fr.le_refl _))) ?_)
                                  refine g_seq ?_
                                  have hz := hw
                                  clear hw
                                  obtain ⟨b7, o7, yd, ecs7, rfl, hyd, hat7, hl7, rfl, _⟩ := gyk (j : Nat) (by omega) (by omega)
                                  obtain ⟨b8, o8, xd, ecs8, rfl, hxd, hat8, hl8, rfl, _⟩ := gxk (j : Nat) (by omega) (by omega)
                                  rw [Int.toNat_natCast] at hyd hat7 hxd hat8
                                  have hlows : yd.low = xd.low := by have := congrArg (fun l => l[j]?) hkd; simpa [hyd, hxd] using this
                                  have hw := hz
                                  refine g_drawR ord_f5_r32_H07V (by kernel_rfl) T.mixed hw (fun w hw => ?_)
                                  refine rs_a 0 rfl rfl rfl rfl (v_move rfl) ?_
                                  refine rs_a 1 rfl rfl rfl rfl (v_move rfl) ?_
                                  refine rs_a 2 rfl rfl rfl rfl (v_indexAddr T.sl_57_61_8 rfl rfl (by omega) (by omega)) ?_
                                  refine rs_a 3 rfl rfl rfl rfl (v_fieldAddr T.fld_61_2_5 rfl) ?_
                                  refine rs_a 4 rfl rfl rfl rfl (v_fieldAddr T.fld_32_2_2 rfl) ?_
                                  refine rs_a 6 rfl rfl rfl rfl (v_move rfl) ?_
                                  refine rs_a 10 rfl rfl rfl rfl (v_move rfl) ?_
                                  refine rs_a 11 rfl rfl rfl rfl (v_move rfl) ?_
                                  refine rs_a 12 rfl rfl rfl rfl (v_indexAddr T.sl_57_61_8 rfl rfl (by omega) (by omega)) ?_
                                  refine rs_a 13 rfl rfl rfl rfl (v_fieldAddr T.fld_61_2_5 rfl) ?_
                                  refine rs_a 14 rfl rfl rfl rfl (v_fieldAddr T.fld_32_2_2 rfl) ?_
                                  refine rs_a 16 rfl rfl rfl rfl (v_move rfl) ?_
                                  refine rs_v 5 rfl rfl rfl rfl (OpV.mono (v_load T.scal_30 rfl) (fun w hw => by exact ro_at hw (by (repeat first | with_reducible exact xH | apply xT); first | done | fail) (by assumption) rfl)) (by exact hw) ?_
                                  refine rs_a 7 rfl rfl rfl rfl (v_indexAddr T.sl_30_70_5 rfl rfl (by omega) (by omega)) ?_
                                  refine rs_a 8 rfl rfl rfl rfl (v_fieldAddr T.fld_70_0_0 rfl) ?_
                                  refine rs_v 9 rfl rfl rfl rfl (OpV.mono (v_load T.scal_9 rfl) (fun w hw => by exact ro_at0 hw (by (repeat first | with_reducible exact xH | apply xT); first | done | fail) (by assumption) rfl)) (by exact hw) ?_
                                  refine rs_kv 15 rfl rfl rfl rfl (by exact ro_at hw (by (repeat first | with_reducible exact xH | apply xT); first | done | fail) (by assumption) rfl) (v_load T.scal_30 rfl) ?_
                                  refine rs_kv 17 rfl rfl rfl rfl (S' := fun _ => True) trivial (v_indexAddr T.sl_30_70_5 rfl rfl (by omega) (by omega)) ?_
                                  refine rs_kv 18 rfl rfl rfl rfl (S' := fun _ => True) trivial (v_fieldAddr T.fld_70_0_0 rfl) ?_
                                  refine rs_kv 19 rfl rfl rfl rfl (by exact ro_at0 hw (by (repeat first | with_reducible exact xH | apply xT); first | done | fail) (by assumption) rfl) (v_load T.scal_9 rfl) ?_
                                  refine rs_kv 20 rfl rfl rfl rfl (S' := fun _ => True) trivial (v_neqStrF rfl rfl (by first | rfl | assumption)) ?_
                                  refine rs_done (g_le (xK (xK (xK (xK (xK (xK (xK (xK (xK (xK (xK (xK (xK (xK (xK (xK (xK (xK (xK (xK (xK (Fr.le_refl _)))))))))))))))))))))) ?_)
                                  refine g_cond_false rfl ?_
                                  refine g_skip (g_inBlock ?_)
                                  refine g_region ?_
                                  refine xV rfl rfl rfl (v_add rfl rfl (by omega)) ?_
                                  refine xV rfl rfl rfl (v_move rfl) ?_
                                  refine rl_nil (g_le (xK (xK (Fr.le_refl _))) ?_)
                                  exact g_le (by repeat (first | exact Fr.le_nil _ | refine Fr.le_cons rfl ?_)) (ih3 (j + 1) w ⟨by omega, hw.xQ⟩ (by omega))
                              · try with_reducible exact tf_elim h9
                                all_goals
                                  try replace h9 := of_decide_eq_false h9
                                  refine g_exit rfl (g_inBlock ?_)
                                  refine g_region ?_
                                  refine xV rfl rfl rfl (v_add rfl rfl (by omega)) ?_
                                  refine xV rfl rfl rfl (v_move rfl) ?_
                                  refine rl_nil (g_le (xK (xK (Fr.le_refl _))) ?_)
                                  exact g_le (by repeat (first | exact Fr.le_nil _ | refine Fr.le_cons rfl ?_)) (ih2 (k + 1, n4) w ⟨by simp only; omega, hrel4, hw.xQ⟩ (by simp only; omega))
                          · intro joinc8
                            refine g_cond rfl (fun h8 => ?_) (fun h8 => ?_)
                            · try with_reducible exact ft_elim h8
                              all_goals
                                try replace h8 := of_decide_eq_true h8
                                refine g_region ?_
                                refine xV rfl rfl rfl (v_move rfl) ?_
                                refine xV rfl rfl rfl (v_sub rfl rfl (by omega)) ?_
                                refine xV rfl rfl rfl (v_assign rfl) ?_
                                refine rl_nil (g_le (xK (xK (xK (Fr.le_refl _)))) ?_)
                                rcases hrest with ⟨he, _⟩ | ⟨_, m, rfl, hrel4⟩
                                exact absurd he (by simpa using h8)
                                rw [show ((m + 1 : Nat) : Int) - 1 = (m : Nat) by omega]
                                exact joinc8 m w _ (by repeat (first | exact Fr.le_nil _ | refine Fr.le_cons rfl ?_)) ⟨hrel4, hw.xQ⟩
                            · try with_reducible exact tf_elim h8
                              all_goals
                                try replace h8 := of_decide_eq_false h8
                                refine g_skip ?_
                                rcases hrest with ⟨_, _, hrel4⟩ | ⟨hne, _⟩
                                exact joinc8 n w _ (by repeat (first | exact Fr.le_nil _ | refine Fr.le_cons rfl ?_)) ⟨hrel4, hw.xQ⟩
                                exact absurd (by simpa using h8) hne
      · try with_reducible exact tf_elim h6
        all_goals
          try replace h6 := of_decide_eq_false h6
          refine g_exit rfl (g_seq ?_)
          rw [List.drop_eq_nil_of_le (by omega), List.drop_eq_nil_of_le (by omega)] at hrk2
          simp only [mvRel] at hrk2
          subst hrk2
          refine g_region ?_
          refine xV rfl rfl rfl (v_move rfl) ?_
          refine xV rfl rfl rfl (v_eqlT rfl rfl (by omega)) ?_
          refine xV rfl rfl rfl (v_assign rfl) ?_
          refine rl_nil (g_le (xK (xS rfl (xS rfl (Fr.le_refl _)))) ?_)
          refine g_ret1 Try.func5 rfl rfl ?_
          exact ⟨rfl, (hw.xQ : Sat (envOf W) w [RO g4]).shrink (hg.trans (hg2.trans (hg3.trans hg4)))⟩

set_option maxRecDepth 100000 in
theorem TreeMoves_lifted (os : Os) (started : os.Started) (H : Type) (enc : TypeId × Value → H) :
    ReturnsInHanded {} Try.checked os 5 .any (Rows.treeMovesSpec.pre6 enc Try.prog Try.f5 Rows.treeMovesRow.domain false) (Rows.treeMovesSpec.post enc Try.prog Try.f5 false true false false) := by
  refine returnsInHanded_of_change_sized (C := Try.checked) T.own started (by kernel_rfl) Try.func5
    (ChangeSpec.witness6 (enc := enc) (C := Try.checked) false ⟨#[], #[(.slice none 0 0), (.slice none 0 0)], []⟩ 8 (by kernel_rfl) (by kernel_rfl) (by kernel_rfl) (by kernel_rfl)) ?_
  intro W base args ds gs before hval0 hW hcnd hsz0 _
  have hval : ∀ (j : Nat) t v, Try.f5.params[j]? = some t → args[j]? = some v → Value.okWide Try.prog W .any base t v := hval0
  have hW' := hW
  obtain ⟨p, q, hA0, hV, rfl, hfz, hnd⟩ := hW
  have hA : DataW.TrodAll enc Try.prog W 0 (fun _ => true) true Try.f5.params.toList args.toList ds p := hA0
  obtain ⟨rfl, rfl⟩ := trodVars_none hV
  have hsz : (DataW.weightsEach Try.prog (Try.f5.params.toList ++ []) (ds ++ [])).all (· ≤ reachBytes) = true := hsz0
  rw [List.append_nil, List.append_nil] at hsz
  rw [Try.params5] at hA hval hsz
  obtain ⟨v0, vs0, d0, ds0, p0, q0, hargs, rfl, rfl, h0, r0⟩ := trodAll_cons hA
  obtain ⟨v1, vs1, d1, ds1, p1, q1, rfl, rfl, rfl, h1, r1⟩ := trodAll_cons r0
  obtain ⟨rfl, rfl, rfl⟩ := trodAll_nil r1
  obtain rfl : args = #[v0, v1] := by cases args; simp_all
  have lt0 : ∀ x ∈ p0, x.block < W.heap.size := by obtain ⟨m, hm⟩ := h0; exact DataW.trod_lt m _ _ _ hm
  obtain ⟨x0, w0⟩ := arg_of (j := 0) (reads_sl T.sl_41_46_5 T.bytes_46_72 (by decide) reads_Op7) h0 hsz rfl rfl
  have lt1 : ∀ x ∈ p1, x.block < W.heap.size := by obtain ⟨m, hm⟩ := h1; exact DataW.trod_lt m _ _ _ hm
  obtain ⟨x1, w1⟩ := arg_of (j := 1) (reads_sl T.sl_44_3_1 T.bytes_3_8 (by decide) (reads_int T.int_3_i64)) h1 hsz rfl rfl
  obtain ⟨a0, l0, c0, rfl⟩ := okWide_slice Try.underlying41 (hval 0 41 v0 rfl rfl)
  obtain ⟨a1, l1, c1, rfl⟩ := okWide_slice Try.underlying44 (hval 1 44 v1 rfl rfl)
  refine (TreeMoves_law w0 w1).mono fun e W' ⟨he, hb⟩ => ?_
  have bel := hb.below
  subst he
  exact ⟨_, rfl, _, _, _, [], _, [], hW', trodAll_mk1 (shut_bool Try.underlying4 _), (trodAll_cons_mk (Below.trod T.laidOut (by kernel_rfl) (of_decide_eq_true (by kernel_rfl)) h0 bel lt0) (trodAll_cons_mk (Below.trod T.laidOut (by kernel_rfl) (of_decide_eq_true (by kernel_rfl)) h1 bel lt1) trodAll_mk0)), rfl, bel.frame _, fun h => by cases h⟩
theorem TreeMoves_holds : Rows.TreeMovesSaid :=
  OpenClaim.holds_of_wide 5 Try.f5 rfl rfl rfl rfl rfl rfl rfl ⟨rfl, rfl, rfl, rfl, rfl⟩ rfl rfl rfl rfl rfl (by kernel_rfl) Try.func5 (by kernel_rfl)
    (of_decide_eq_true (by kernel_rfl)) (by unfold Func.isWrapper; rw [if_neg (of_decide_eq_false (by kernel_rfl))]; exact ⟨rfl, rfl⟩)
    (fun os started H enc _ => TreeMoves_lifted os started H enc)
#print axioms TreeMoves_holds
end Go.Proofs.Ytmbngahboaljpaa
