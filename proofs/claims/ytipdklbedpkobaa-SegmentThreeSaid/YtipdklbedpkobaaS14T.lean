/-
  SegmentThree: at each time each segment is free, sealed or open, and just one is open; what was appended and is not free stays readable.
-/
import Derived.Test.YtipdklbedpkobaaS14p
import Derived.Test.YtipdklbedpkobaaRows
namespace Go.Proofs.Ytipdklbedpkobaa
set_option maxRecDepth 8000
set_option linter.unusedSimpArgs false
set_option linter.unusedVariables false
open Go Xe Go.Lib Go.RowKit Go.ChangeShapes Go.WideShapes Go.ChangeAt
theorem own_len {E : Env} {w : World} {L : List As} {e sz n : Nat} {v : Value} {xs : List Value} (h : Sat E w (OwnSl e sz v n xs :: L)) : xs.length = n * sz := by
  obtain ⟨_, _, ⟨h1, _, _, _, hA, _⟩, _⟩ := h
  rcases hA with ⟨a, _, rfl, rfl, _⟩ | ⟨hl, _⟩
  · simp
  · exact hl
theorem ord_f6_r58_S14T : orderOfB Try.f6 58 [19] (.a 0 (.a 1 (.a 2 (.a 4 (.a 5 (.a 6 (.a 7 (.a 9 (.a 10 (.a 11 (.a 12 (.a 14 (.a 15 (.a 16 (.a 17 (.v 3 (.v 8 (.v 13 (.k 18 (.k 19 (.k 20 (.a 21 (.a 22 (.k 23 (.k 24 .done))))))))))))))))))))))))) = true := by kernel_rfl
set_option maxHeartbeats 8000000 in
theorem SegmentThree_law {w : World} {sg sz : Int} {a1 : Option Addr} {n1 c1 : Nat} {xs : List Op14} (hn : (Lit.int .i64 sg).wf = true) (hn2 : (Lit.int .i64 sz).wf = true) (hr : rdArg (rdSl 64 5 rdOp14) w (.slice a1 n1 c1) xs) :
    Law Try.prog 6 [.int .i64 sg, .int .i64 sz, .slice a1 n1 c1] w := by
  unfold Law
  clear hn hn2
  have hw := Sat.old w
  generalize w = W at hr hw ⊢
  have hr : (rdSl 64 5 rdOp14) (hpOf W) [.slice a1 n1 c1] xs := hr
  obtain ⟨rfl, hxb, _, hxm, _⟩ := rdSl_get hr
  simp only [maxLen] at hxm
  simp only [reachBytes] at hxb
  have hw : Sat (envOf W) W [RO (hpOf W)] := hw
  refine calls_of_g (n := 320) Try.func6 rfl rfl rfl ?_
  change G _ _ _ _ _ [(0, _), (1, _), (2, _)] _
  refine g_seq ?_
  refine g_region ?_
  refine xV rfl rfl rfl (v_assign rfl) ?_
  refine rl_nil (g_le (xK (Fr.le_refl _)) ?_)
  refine g_seq ?_
  refine g_region ?_
  refine rl_k rfl (k_callf Try.func19 rfl rfl rfl rfl ?_)
  refine Calls.mono (awake_calls hw) ?_
  rintro _ w ⟨rfl, hw⟩
  refine ⟨_, rfl, ?_⟩
  refine xV rfl rfl rfl (v_assign rfl) ?_
  refine rl_nil (g_le (xK (xS rfl (Fr.le_refl _))) ?_)
  refine g_seq ?_
  refine g_region ?_
  refine xV rfl rfl rfl (v_move rfl) ?_
  refine rl_k rfl (k_callf Try.func20 rfl rfl rfl rfl ?_)
  have hpb := pickV_bound sg 12 (by omega)
  refine Calls.mono (pickV_calls sg 12 (by omega) (by omega) hw) ?_
  generalize pickV sg 12 = n0 at hpb ⊢
  rintro _ w ⟨rfl, hw⟩
  refine ⟨_, rfl, ?_⟩
  refine xV rfl rfl rfl (v_add rfl rfl (by omega)) ?_
  refine xV rfl rfl rfl (v_assign rfl) ?_
  refine rl_nil (g_le (xK (xS rfl (xS rfl (xS rfl (Fr.le_refl _))))) ?_)
  refine g_seq ?_
  refine g_region ?_
  refine xV rfl rfl rfl (v_move rfl) ?_
  refine rl_k rfl (k_callf Try.func20 rfl rfl rfl rfl ?_)
  have hpc := pickV_bound sz 100 (by omega)
  refine Calls.mono (pickV_calls sz 100 (by omega) (by omega) hw) ?_
  generalize pickV sz 100 = z0 at hpc ⊢
  rintro _ w ⟨rfl, hw⟩
  refine ⟨_, rfl, ?_⟩
  refine xV rfl rfl rfl (v_add rfl rfl (by omega)) ?_
  refine xV rfl rfl rfl (v_assign rfl) ?_
  refine rl_nil (g_le (xK (xS rfl (xS rfl (xS rfl (Fr.le_refl _))))) ?_)
  refine g_seq ?_
  obtain ⟨n, hnn⟩ : ∃ n : Nat, 1 + n0 = (n : Int) := ⟨(1 + n0).toNat, by omega⟩
  obtain ⟨size, hsz⟩ : ∃ size, 1 + z0 = size := ⟨_, rfl⟩
  rw [hnn, hsz]
  refine g_region ?_
  refine xV rfl rfl rfl (v_move rfl) ?_
  refine xV rfl rfl rfl (v_move rfl) ?_
  refine rl_k rfl (k_callf Try.func21 rfl rfl rfl rfl ?_)
  refine Calls.mono (fresh_calls (n : Int) size (by omega) (by omega) (by omega) (by omega) hw) ?_
  rw [Int.toNat_natCast]
  rintro _ w ⟨l, m, p, b, c, rfl, hw⟩
  refine ⟨_, rfl, ?_⟩
  refine xV rfl rfl rfl (v_assign rfl) ?_
  refine rl_nil (g_le (xK (xS rfl (xS rfl (xS rfl (Fr.le_refl _))))) ?_)
  refine g_seq (g_seq ?_)
  refine g_region ?_
  refine xV rfl rfl rfl (v_move rfl) ?_
  refine xV rfl rfl rfl (v_not rfl) ?_
  refine xV rfl rfl rfl (v_move rfl) ?_
  refine rl_split (s := 42) rfl (fun g5_2 => ?_) (fun g5_2 => ?_)
  · try with_reducible exact ft_elim g5_2
    all_goals
      try replace g5_2 := of_decide_eq_true g5_2
      simp at g5_2
  · try with_reducible exact tf_elim g5_2
    all_goals
      try replace g5_2 := of_decide_eq_false g5_2
      refine rl_vg (met_on rfl rfl rfl rfl) rfl rfl (S := fun _ => True) trivial (v_move rfl) ?_
      refine rl_vg (met_on rfl rfl rfl rfl) rfl rfl (S := fun _ => True) trivial (v_eqlNil T.ptr_36 rfl rfl) ?_
      refine xV rfl rfl rfl (v_pick_false rfl rfl) ?_
      refine rl_nil (g_le (xK (xS rfl (xS rfl (xS rfl (xS rfl (xS rfl (xS rfl (Fr.le_refl _)))))))) ?_)
      refine g_cond_false rfl ?_
      refine g_skip (g_seq ?_)
      have K0 := new_LgK (size := size) (n := n) (by omega) (by omega) (by omega) (by omega)
      have hl0 := newSegs_len (n := n) (by omega)
      have hw : Sat (envOf W) w (pt l (.cells [Value.pointer (some ⟨m, 0, none⟩), .int .i64 0, .slice (some ⟨b, 0, none⟩) ((newSegs n) : List Sg).length c].toArray 47 (0, 0)) :: OwnSl 104 3 (.slice (some ⟨b, 0, none⟩) ((newSegs n)).length c) ((newSegs n)).length (((newSegs n)).flatMap Sg.cells) :: MdAt m p (newMd size n) :: PwAt p ⟨false, 0, 0⟩ :: [RO (hpOf W)]) := hw
      refine g_region ?_
      refine xV rfl rfl rfl (v_assign rfl) ?_
      refine rl_nil (g_le (xK (Fr.le_refl _)) ?_)
      refine g_seq ?_
      refine g_region ?_
      refine xV rfl rfl rfl (v_assign rfl) ?_
      refine rl_nil (g_le (xK (Fr.le_refl _)) ?_)
      refine g_seq (g_seq ?_)
      refine g_region ?_
      refine xV rfl rfl rfl (v_assign rfl) ?_
      refine rl_nil (g_le (xK (Fr.le_refl _)) ?_)
      refine g_block ?_
      refine g_loopC (σ := Nat × Int × List Sg × Md × Pw × Value × Value × List Row14) (fun C x => (11, .int .i64 (x.1 : Nat)) :: (9, x.2.2.2.2.2.1) :: (10, x.2.2.2.2.2.2.1) :: C) [(0, _), (1, _), (2, _), (6, _), (8, _)] (by repeat (first | exact Fr.le_nil _ | refine Fr.le_cons rfl ?_)) (fun z w => z.1 ≤ xs.length ∧ LgK size z.2.1 z.2.2.1 z.2.2.2.1 z.2.2.2.2.1 ∧ z.2.2.1.length = n ∧ z.2.2.2.1.past.length ≤ z.1 ∧ PlI z.2.2.1 z.2.2.2.1 z.2.2.2.2.2.2.2 ∧ z.2.2.2.2.2.2.2.length ≤ z.1 ∧ Sat (envOf W) w (pt l (.cells [Value.pointer (some ⟨m, 0, none⟩), .int .i64 (z.2.1), .slice (some ⟨b, 0, none⟩) ((z.2.2.1) : List Sg).length c].toArray 47 (0, 0)) :: OwnSl 104 3 (.slice (some ⟨b, 0, none⟩) ((z.2.2.1)).length c) ((z.2.2.1)).length (((z.2.2.1)).flatMap Sg.cells) :: MdAt m p z.2.2.2.1 :: PwAt p z.2.2.2.2.1 :: OwnSl 58 3 ((z.2.2.2.2.2.1)) ((z.2.2.2.2.2.2.2) : List Row14).length ((((z.2.2.2.2.2.2.2) : List Row14).map Prod.fst).flatMap Pl.cells) :: OwnSl 9 1 ((z.2.2.2.2.2.2.1)) ((z.2.2.2.2.2.2.2) : List Row14).length (((z.2.2.2.2.2.2.2) : List Row14).map fun q => Value.string q.2) :: [RO (hpOf W)])) (fun z => xs.length - z.1) ?_ (0, 0, newSegs n, newMd size n, ⟨false, 0, 0⟩, .slice none 0 0, .slice none 0 0, []) (by repeat (first | exact Fr.le_nil _ | refine Fr.le_cons rfl ?_)) ⟨by simp, K0, hl0, by simp [newMd], PlI.nil _ _, by simp, by dsimp only; simp only [List.map_nil, List.flatMap_nil, List.length_nil]; exact ((hw.own_nil 9 1).own_nil 58 3).xQ⟩
      clear K0 hl0
      rintro ⟨i, o, ss, md, pw, pv, rv, qs⟩ w ⟨hi1, K, hsl, hpl, P, hql, hw⟩ ih
      dsimp only at hi1 K hsl hpl P hql hw ih ⊢
      refine g_seq (g_seq ?_)
      refine g_region ?_
      refine xV rfl rfl rfl (v_move rfl) ?_
      refine xV rfl rfl rfl (v_move rfl) ?_
      refine xV rfl rfl rfl (v_lenSlice T.sl_69_72_5 rfl) ?_
      refine xV rfl rfl rfl (v_lss rfl rfl) ?_
      refine rl_nil (g_le (xK (xK (xK (xK (Fr.le_refl _))))) ?_)
      refine g_cond rfl (fun h2 => ?_) (fun h2 => ?_)
      · try with_reducible exact ft_elim h2
        all_goals
          try replace h2 := of_decide_eq_true h2
          refine g_skip (g_seq (g_block (g_seq ?_)))
          have hlt : i < xs.length := by omega
          have hz := hw
          clear hw
          obtain ⟨b4, o4, x, pa, pn, pc, rfl, hx, hat1, hxs, hxp, hxa, hxb2⟩ := op14_at hr i hlt
          have hw := hz
          simp only [reachBytes] at hxs
          obtain ⟨pa2, pc2, hpv, _, _, _⟩ := (hw.xP (A := OwnSl 58 3 pv qs.length ((qs.map Prod.fst).flatMap Pl.cells))).own_shape
          subst hpv
          obtain ⟨ra2, rc2, hrv, _, _, _⟩ := (hw.xP (A := OwnSl 9 1 rv qs.length (qs.map fun q => Value.string q.2))).own_shape
          subst hrv
          have hf0 := hw
          refine g_region ?_
          refine xV rfl rfl rfl (v_move rfl) ?_
          refine xV rfl rfl rfl (v_move rfl) ?_
          refine xV rfl rfl rfl (v_indexAddr T.sl_69_72_5 rfl rfl (by omega) (by omega)) ?_
          refine rl_v rfl rfl rfl (by exact ro_ats hw (by (repeat first | with_reducible exact xH | apply xT); first | done | fail) (by assumption)) (v_loadAgg (vs := [_, _, _, _, _]) T.agg_72_5 rfl rfl) ?_
          refine rl_k rfl (k_alloc hw T.zero_72 rfl rfl (fun bk12_4 w hw => ?_))
          refine rl_k rfl (k_storeWhole hw T.agg_72_5 rfl rfl (by simp [Value.oneCell']) rfl (by (repeat first | with_reducible exact xH | apply xT); first | done | fail) rfl (fun w hw => ?_))
          refine rl_nil (g_le (xK (xK (xK (xK (xK (Fr.le_refl _)))))) ?_)
          refine g_seq ?_
          refine g_region ?_
          refine xV rfl rfl rfl (v_move rfl) ?_
          refine rl_k rfl (k_callf Try.func23 rfl rfl rfl rfl ?_)
          refine Calls.mono (free_calls (l := l) (m := m) (b := b) (c := c) (o := o) (ss := ss) (by omega) (hw.xQ)) ?_
          rintro _ w ⟨fv, rfl, hw⟩
          obtain ⟨fa, fc, rfl, _, _, hfa⟩ := hw.own_shape
          refine ⟨_, rfl, ?_⟩
          refine xV rfl rfl rfl (v_assign rfl) ?_
          refine rl_nil (g_le (xK (xK (xK (Fr.le_refl _)))) ?_)
          refine g_seq ?_
          refine g_region ?_
          refine xV rfl rfl rfl (v_move rfl) ?_
          refine rl_k rfl (k_callf Try.func24 rfl rfl rfl rfl ?_)
          refine Calls.mono (open_calls (l := l) (m := m) (b := b) (c := c) (o := o) (ss := ss) ⟨K.I.o0, K.I.o1⟩ (by omega) (hw.xQ)) ?_
          rintro _ w ⟨rfl, hw⟩
          refine ⟨_, rfl, ?_⟩
          refine xV rfl rfl rfl (v_move rfl) ?_
          refine xV rfl rfl rfl (v_extract rfl rfl) ?_
          refine xV rfl rfl rfl (v_extract rfl rfl) ?_
          refine xV rfl rfl rfl (v_assign rfl) ?_
          refine xV rfl rfl rfl (v_assign rfl) ?_
          refine rl_nil (g_le (xK (xK (xK (xK (xK (xK (xK (Fr.le_refl _)))))))) ?_)
          refine g_seq (g_seq ?_)
          refine g_region ?_
          refine xV rfl rfl rfl (v_fieldAddr0 T.fld_72_0_0 rfl) ?_
          refine rl_v rfl rfl rfl (by exact sat_cell hw (by (repeat first | with_reducible exact xH | apply xT); first | done | fail) rfl) (v_load T.scal_3 rfl) ?_
          refine rl_nil (g_le (xK (xK (Fr.le_refl _))) ?_)
          refine g_cutc (σ := Int × List Sg × Md × Pw × Value × Value × List Row14) (fun C x => (9, x.2.2.2.2.1) :: (10, x.2.2.2.2.2.1) :: C) [(0, _), (1, _), (2, _), (6, _), (8, _), (11, _), (12, _), (13, _), (14, _), (15, _), (46, _), (47, _), (48, _), (49, _), (52, _), (53, _), (54, _), (55, _), (56, _), (57, _), (58, _), (59, _), (60, _), (61, _), (62, _), (63, _), (64, _)] (by repeat (first | exact Fr.le_nil _ | refine Fr.le_cons rfl ?_)) (fun z w => LgK size z.1 z.2.1 z.2.2.1 z.2.2.2.1 ∧ z.2.1.length = n ∧ z.2.2.1.past.length ≤ i + 1 ∧ PlI z.2.1 z.2.2.1 z.2.2.2.2.2.2 ∧ z.2.2.2.2.2.2.length ≤ i + 1 ∧ Sat (envOf W) w (pt l (.cells [Value.pointer (some ⟨m, 0, none⟩), .int .i64 (z.1), .slice (some ⟨b, 0, none⟩) ((z.2.1) : List Sg).length c].toArray 47 (0, 0)) :: OwnSl 104 3 (.slice (some ⟨b, 0, none⟩) ((z.2.1)).length c) ((z.2.1)).length (((z.2.1)).flatMap Sg.cells) :: MdAt m p z.2.2.1 :: PwAt p z.2.2.2.1 :: OwnSl 58 3 ((z.2.2.2.2.1)) ((z.2.2.2.2.2.2) : List Row14).length ((((z.2.2.2.2.2.2) : List Row14).map Prod.fst).flatMap Pl.cells) :: OwnSl 9 1 ((z.2.2.2.2.2.1)) ((z.2.2.2.2.2.2) : List Row14).length (((z.2.2.2.2.2.2) : List Row14).map fun q => Value.string q.2) :: [RO (hpOf W)])) ?_ ?_
          · skip
            clear hw hf0 hz hpl hsl K P hql
            rintro ⟨o, ss, md, pw, pv, rv, qs⟩ w ⟨K, hsl, hpl, P, hql, hw⟩
            dsimp only at K hsl hpl P hql hw ⊢
            all_goals
              refine g_seq ?_
              refine g_region ?_
              refine xV rfl rfl rfl (v_assign rfl) ?_
              refine rl_nil (g_le (xK (Fr.le_refl _)) ?_)
              refine g_seq (g_seq ?_)
              refine g_region ?_
              refine xV rfl rfl rfl (v_assign rfl) ?_
              refine rl_nil (g_le (xK (Fr.le_refl _)) ?_)
              refine g_block ?_
              refine g_loopC (σ := Nat × Int × Int) (fun C z => (24, .int .i64 z.2.1) :: (25, .int .i64 z.2.2) :: C) [(0, _), (1, _), (2, _), (6, _), (8, _), (9, _), (10, _), (11, _), (12, _), (13, _), (14, _), (15, _), (46, _), (47, _), (48, _), (49, _), (52, _), (53, _), (54, _), (55, _), (56, _), (57, _), (58, _), (59, _), (60, _), (61, _), (62, _), (63, _), (64, _)] (by repeat (first | exact Fr.le_nil _ | refine Fr.le_cons rfl ?_)) (fun z w => z.1 ≤ n + 2 ∧ z.2.2 = (z.1 : Int) - 1 ∧ z.2.1 = (if z.2.2 > o then 1 else 0) ∧ Sat (envOf W) w (pt l (.cells [Value.pointer (some ⟨m, 0, none⟩), .int .i64 o, .slice (some ⟨b, 0, none⟩) (ss : List Sg).length c].toArray 47 (0, 0)) :: OwnSl 104 3 (.slice (some ⟨b, 0, none⟩) (ss).length c) (ss).length ((ss).flatMap Sg.cells) :: MdAt m p md :: PwAt p pw :: OwnSl 58 3 (pv) (qs : List Row14).length (((qs : List Row14).map Prod.fst).flatMap Pl.cells) :: OwnSl 9 1 (rv) (qs : List Row14).length ((qs : List Row14).map fun q => Value.string q.2) :: [RO (hpOf W)])) (fun z => n + 2 - z.1) ?_ (0, 0, -1) (by repeat (first | exact Fr.le_nil _ | refine Fr.le_cons rfl ?_)) ⟨by simp, by simp, by have h0 := K.I.o0; dsimp only; rw [if_neg (by omega)], hw.xQ⟩
              rintro ⟨k, cn, j⟩ w ⟨hk, hj, hcn, hw⟩ ih2
              dsimp only at hk hj hcn hw ih2 ⊢
              have ho0 := K.I.o0
              have ho1 := K.I.o1
              have hcb : 0 ≤ cn ∧ cn ≤ 1 := by rw [hcn]; split <;> omega
              refine g_seq (g_seq ?_)
              refine g_region ?_
              refine xV rfl rfl rfl (v_move rfl) ?_
              refine xV rfl rfl rfl (v_move rfl) ?_
              refine xV rfl rfl rfl (v_leq rfl rfl) ?_
              refine rl_nil (g_le (xK (xK (xK (Fr.le_refl _)))) ?_)
              refine g_cond rfl (fun h12 => ?_) (fun h12 => ?_)
              · try with_reducible exact ft_elim h12
                all_goals
                  try replace h12 := of_decide_eq_true h12
                  refine g_skip (g_seq (g_block (g_seq ?_)))
                  refine g_region ?_
                  refine xV rfl rfl rfl (v_move rfl) ?_
                  refine xV rfl rfl rfl (v_move rfl) ?_
                  refine rl_k rfl (k_callf Try.func28 rfl rfl rfl rfl ?_)
                  refine Calls.mono (kindS_calls (l := l) (m := m) (b := b) (c := c) (o := o) (ss := ss) _ (by omega) (hw.xQ)) ?_
                  rintro _ w ⟨rfl, hw⟩
                  refine ⟨_, rfl, ?_⟩
                  refine xV rfl rfl rfl (v_assign rfl) ?_
                  refine rl_nil (g_le (xK (xK (xK (xK (Fr.le_refl _))))) ?_)
                  refine g_seq (g_seq ?_)
                  refine g_region ?_
                  refine xV rfl rfl rfl (v_move rfl) ?_
                  refine xV rfl rfl rfl (v_lss rfl rfl) ?_
                  refine xV rfl rfl rfl (v_move rfl) ?_
                  refine rl_split (s := 220) rfl (fun g46_2 => ?_) (fun g46_2 => ?_)
                  · try with_reducible exact ft_elim g46_2
                    all_goals
                      try replace g46_2 := of_decide_eq_true g46_2
                      refine rl_off (met_off rfl rfl rfl rfl rfl) rfl rfl ?_
                      refine rl_off (met_off rfl rfl rfl rfl rfl) rfl rfl ?_
                      refine rl_off (met_off rfl rfl rfl rfl rfl) rfl rfl ?_
                      refine xV rfl rfl rfl (v_pick_true rfl rfl) ?_
                      refine rl_nil (g_le (xK (xK (xK (xK (xK (xK (xK (xK (Fr.le_refl _))))))))) ?_)
                      refine g_cond_true rfl ?_
                      refine g_seq (g_seq ?_)
                      have hk0 : kindS ss j = 0 := by unfold kindS; rw [if_neg (by omega)]
                      have hv0 : liveS ss j = 0 := by unfold liveS; rw [if_neg (by omega)]
                      rw [hk0]
                      refine g_region ?_
                      refine xV rfl rfl rfl (v_move rfl) ?_
                      refine xV rfl rfl rfl (v_neqF rfl rfl (by omega)) ?_
                      refine xV rfl rfl rfl (v_move rfl) ?_
                      refine rl_split (s := 227) rfl (fun g47_2 => ?_) (fun g47_2 => ?_)
                      · try with_reducible exact ft_elim g47_2
                        all_goals
                          try replace g47_2 := of_decide_eq_true g47_2
                          simp at g47_2
                      · try with_reducible exact tf_elim g47_2
                        all_goals
                          try replace g47_2 := of_decide_eq_false g47_2
                          refine rl_vg (met_on rfl rfl rfl rfl) rfl rfl (S := fun _ => True) trivial (v_move rfl) ?_
                          refine rl_vg (met_on rfl rfl rfl rfl) rfl rfl (S := fun _ => True) trivial (v_move rfl) ?_
                          refine rl_kg (met_on rfl rfl rfl rfl) (k_callf Try.func30 rfl rfl rfl rfl ?_)
                          refine Calls.mono (liveS_calls (l := l) (m := m) (b := b) (c := c) (o := o) (ss := ss) _ (by omega) (hw.xQ)) ?_
                          rw [hv0]
                          rintro _ w ⟨rfl, hw⟩
                          refine ⟨_, rfl, ?_⟩
                          refine rl_vg (met_on rfl rfl rfl rfl) rfl rfl (S := fun _ => True) trivial (v_neqF rfl rfl (by omega)) ?_
                          refine xV rfl rfl rfl (v_pick_false rfl rfl) ?_
                          refine rl_nil (g_le (xK (xK (xK (xK (xK (xK (xK (xK (xK (Fr.le_refl _)))))))))) ?_)
                          refine g_cond_false rfl ?_
                          refine g_skip (g_exit rfl ?_)
                          refine g_region ?_
                          refine xV rfl rfl rfl (v_move rfl) ?_
                          refine xV rfl rfl rfl (v_add rfl rfl (by omega)) ?_
                          refine xV rfl rfl rfl (v_assign rfl) ?_
                          refine rl_nil (g_le (xK (xK (xK (Fr.le_refl _)))) ?_)
                          exact g_le (by repeat (first | exact Fr.le_nil _ | refine Fr.le_cons rfl ?_)) (ih2 (k + 1, cn, j + 1) w ⟨by simp only; omega, by simp only; omega, by dsimp only; rw [hcn]; split <;> split <;> omega, hw.xQ⟩ (by simp only; omega))
                  · try with_reducible exact tf_elim g46_2
                    all_goals
                      try replace g46_2 := of_decide_eq_false g46_2
                      refine rl_vg (met_on rfl rfl rfl rfl) rfl rfl (S := fun _ => True) trivial (v_move rfl) ?_
                      refine rl_vg (met_on rfl rfl rfl rfl) rfl rfl (S := fun _ => True) trivial (v_move rfl) ?_
                      refine rl_vg (met_on rfl rfl rfl rfl) rfl rfl (S := fun _ => True) trivial (v_geq rfl rfl) ?_
                      refine xV rfl rfl rfl (v_pick_false rfl rfl) ?_
                      refine rl_nil (g_le (xK (xK (xK (xK (xK (xK (xK (xK (Fr.le_refl _))))))))) ?_)
                      refine g_cond rfl (fun h13 => ?_) (fun h13 => ?_)
                      · try with_reducible exact ft_elim h13
                        all_goals
                          try replace h13 := of_decide_eq_true h13
                          refine g_seq (g_seq ?_)
                          have hk0 : kindS ss j = 0 := by unfold kindS; rw [if_neg (by omega)]
                          have hv0 : liveS ss j = 0 := by unfold liveS; rw [if_neg (by omega)]
                          rw [hk0]
                          refine g_region ?_
                          refine xV rfl rfl rfl (v_move rfl) ?_
                          refine xV rfl rfl rfl (v_neqF rfl rfl (by omega)) ?_
                          refine xV rfl rfl rfl (v_move rfl) ?_
                          refine rl_split (s := 227) rfl (fun g47_2 => ?_) (fun g47_2 => ?_)
                          · try with_reducible exact ft_elim g47_2
                            all_goals
                              try replace g47_2 := of_decide_eq_true g47_2
                              simp at g47_2
                          · try with_reducible exact tf_elim g47_2
                            all_goals
                              try replace g47_2 := of_decide_eq_false g47_2
                              refine rl_vg (met_on rfl rfl rfl rfl) rfl rfl (S := fun _ => True) trivial (v_move rfl) ?_
                              refine rl_vg (met_on rfl rfl rfl rfl) rfl rfl (S := fun _ => True) trivial (v_move rfl) ?_
                              refine rl_kg (met_on rfl rfl rfl rfl) (k_callf Try.func30 rfl rfl rfl rfl ?_)
                              refine Calls.mono (liveS_calls (l := l) (m := m) (b := b) (c := c) (o := o) (ss := ss) _ (by omega) (hw.xQ)) ?_
                              rw [hv0]
                              rintro _ w ⟨rfl, hw⟩
                              refine ⟨_, rfl, ?_⟩
                              refine rl_vg (met_on rfl rfl rfl rfl) rfl rfl (S := fun _ => True) trivial (v_neqF rfl rfl (by omega)) ?_
                              refine xV rfl rfl rfl (v_pick_false rfl rfl) ?_
                              refine rl_nil (g_le (xK (xK (xK (xK (xK (xK (xK (xK (xK (Fr.le_refl _)))))))))) ?_)
                              refine g_cond_false rfl ?_
                              refine g_skip (g_exit rfl ?_)
                              refine g_region ?_
                              refine xV rfl rfl rfl (v_move rfl) ?_
                              refine xV rfl rfl rfl (v_add rfl rfl (by omega)) ?_
                              refine xV rfl rfl rfl (v_assign rfl) ?_
                              refine rl_nil (g_le (xK (xK (xK (Fr.le_refl _)))) ?_)
                              exact g_le (by repeat (first | exact Fr.le_nil _ | refine Fr.le_cons rfl ?_)) (ih2 (k + 1, cn, j + 1) w ⟨by simp only; omega, by simp only; omega, by dsimp only; rw [hcn]; split <;> split <;> omega, hw.xQ⟩ (by simp only; omega))
                      · try with_reducible exact tf_elim h13
                        all_goals
                          try replace h13 := of_decide_eq_false h13
                          refine g_skip (g_seq (g_seq ?_))
                          obtain ⟨u, hu⟩ : ∃ u, ss[k - 1]? = some u := ⟨_, List.getElem?_eq_getElem (by omega)⟩
                          have hku : kindS ss j = u.kind := by unfold kindS sgAt; rw [if_pos (by omega), show j.toNat = k - 1 by omega, hu]; rfl
                          have hvu : liveS ss j = u.live := by unfold liveS sgAt; rw [if_pos (by omega), show j.toNat = k - 1 by omega, hu]; rfl
                          have hkd := K.kd (k - 1) u hu
                          have hlv := K.lv u (List.mem_of_getElem? hu)
                          rw [hku]
                          refine g_region ?_
                          refine xV rfl rfl rfl (v_move rfl) ?_
                          refine xV rfl rfl rfl (v_neq rfl rfl) ?_
                          refine xV rfl rfl rfl (v_move rfl) ?_
                          refine rl_split (s := 235) rfl (fun g49_2 => ?_) (fun g49_2 => ?_)
                          · try with_reducible exact ft_elim g49_2
                            all_goals
                              try replace g49_2 := of_decide_eq_true g49_2
                              refine rl_vg (met_on rfl rfl rfl rfl) rfl rfl (S := fun _ => True) trivial (v_move rfl) ?_
                              refine rl_vg (met_on rfl rfl rfl rfl) rfl rfl (S := fun _ => True) trivial (v_neq rfl rfl) ?_
                              refine xV rfl rfl rfl (v_pick_true rfl rfl) ?_
                              refine xV rfl rfl rfl (v_move rfl) ?_
                              refine rl_split (s := 239) rfl (fun g49_6 => ?_) (fun g49_6 => ?_)
                              · try with_reducible exact ft_elim g49_6
                                all_goals
                                  try replace g49_6 := of_decide_eq_true g49_6
                                  refine rl_vg (met_on rfl rfl rfl rfl) rfl rfl (S := fun _ => True) trivial (v_move rfl) ?_
                                  refine rl_vg (met_on rfl rfl rfl rfl) rfl rfl (S := fun _ => True) trivial (v_neqF rfl rfl (by omega)) ?_
                                  refine xV rfl rfl rfl (v_pick_true rfl rfl) ?_
                                  refine xV rfl rfl rfl (v_move rfl) ?_
                                  refine rl_split (s := 243) rfl (fun g49_10 => ?_) (fun g49_10 => ?_)
                                  · try with_reducible exact ft_elim g49_10
                                    all_goals
                                      try replace g49_10 := of_decide_eq_true g49_10
                                      simp at g49_10
                                  · try with_reducible exact tf_elim g49_10
                                    all_goals
                                      try replace g49_10 := of_decide_eq_false g49_10
                                      refine rl_vg (met_on rfl rfl rfl rfl) rfl rfl (S := fun _ => True) trivial (v_move rfl) ?_
                                      refine rl_vg (met_on rfl rfl rfl rfl) rfl rfl (S := fun _ => True) trivial (v_eqlF rfl rfl (by omega)) ?_
                                      refine rl_vg (met_on rfl rfl rfl rfl) rfl rfl (S := fun _ => True) trivial (v_move rfl) ?_
                                      refine rl_split (s := 246) rfl (fun g49_13 => ?_) (fun g49_13 => ?_)
                                      · try with_reducible exact ft_elim g49_13
                                        all_goals
                                          try replace g49_13 := of_decide_eq_true g49_13
                                          refine rl_vg (met_on rfl rfl rfl rfl) rfl rfl (S := fun _ => True) trivial (v_move rfl) ?_
                                          refine rl_vg (met_on rfl rfl rfl rfl) rfl rfl (S := fun _ => True) trivial (v_move rfl) ?_
                                          refine rl_kg (met_on rfl rfl rfl rfl) (k_callf Try.func30 rfl rfl rfl rfl ?_)
                                          refine Calls.mono (liveS_calls (l := l) (m := m) (b := b) (c := c) (o := o) (ss := ss) _ (by omega) (hw.xQ)) ?_
                                          rw [hvu, hlv (by omega)]
                                          rintro _ w ⟨rfl, hw⟩
                                          refine ⟨_, rfl, ?_⟩
                                          first | (refine rl_vg (met_on rfl rfl rfl rfl) rfl rfl (S := fun _ => True) trivial (v_neqT rfl rfl (by omega)) ?_) | (refine rl_vg (met_on rfl rfl rfl rfl) rfl rfl (S := fun _ => True) trivial (v_neqF rfl rfl (by first | omega | rfl)) ?_) | (refine rl_vg (met_on rfl rfl rfl rfl) rfl rfl (S := fun _ => True) trivial (v_neq rfl rfl) ?_)
                                          first | (refine rl_vg (met_on rfl rfl rfl rfl) rfl rfl (S := fun _ => True) trivial (v_pick_true rfl rfl) ?_) | (refine rl_vg (met_on rfl rfl rfl rfl) rfl rfl (S := fun _ => True) trivial (v_pick_false rfl rfl) ?_) | (refine rl_vg (met_on rfl rfl rfl rfl) rfl rfl (S := fun _ => True) trivial (v_pick rfl rfl rfl) ?_)
                                          first | (refine xV rfl rfl rfl (v_pick_true rfl rfl) ?_) | (refine xV rfl rfl rfl (v_pick_false rfl rfl) ?_) | (refine xV rfl rfl rfl (v_pick rfl rfl rfl) ?_)
                                          refine rl_nil (g_le (xK (xK (xK (xK (xK (xK (xK (xK (xK (xK (xK (xK (xK (xK (xK (xK (xK (xK (xK (xK (xK (xK (xK (xK (Fr.le_refl _))))))))))))))))))))))))) ?_)
                                          refine g_cond_false rfl ?_
                                          refine g_skip (g_seq ?_)
                                          refine g_region ?_
                                          refine xV rfl rfl rfl (v_move rfl) ?_
                                          first | (refine xV rfl rfl rfl (v_eqlT rfl rfl (by first | omega | rfl)) ?_) | (refine xV rfl rfl rfl (v_eqlF rfl rfl (by omega)) ?_) | (refine xV rfl rfl rfl (v_eql rfl rfl) ?_)
                                          refine rl_nil (g_le (xK (xK (Fr.le_refl _))) ?_)
                                          refine g_cond rfl (fun h16 => ?_) (fun h16 => ?_)
                                          · try with_reducible exact ft_elim h16
                                            all_goals
                                              try replace h16 := of_decide_eq_true h16
                                              refine g_region ?_
                                              refine xV rfl rfl rfl (v_move rfl) ?_
                                              first | (refine xV rfl rfl rfl (v_add rfl rfl (by omega)) ?_) | (refine xV rfl rfl rfl (v_addW rfl rfl) ?_)
                                              refine xV rfl rfl rfl (v_assign rfl) ?_
                                              refine rl_nil (g_le (xK (xK (xK (Fr.le_refl _)))) ?_)
                                              refine g_inBlock ?_
                                              refine g_region ?_
                                              refine xV rfl rfl rfl (v_move rfl) ?_
                                              first | (refine xV rfl rfl rfl (v_add rfl rfl (by omega)) ?_) | (refine xV rfl rfl rfl (v_addW rfl rfl) ?_)
                                              refine xV rfl rfl rfl (v_assign rfl) ?_
                                              refine rl_nil (g_le (xK (xK (xK (Fr.le_refl _)))) ?_)
                                              exact g_le (by repeat (first | exact Fr.le_nil _ | refine Fr.le_cons rfl ?_)) (ih2 (k + 1, cn + 1, j + 1) w ⟨by simp only; omega, by simp only; omega, by dsimp only; rw [hcn]; have h0 := hkd.1.1 (by omega); split <;> split <;> omega, hw.xQ⟩ (by simp only; omega))
                                          · try with_reducible exact tf_elim h16
                                            all_goals
                                              try replace h16 := of_decide_eq_false h16
                                              refine g_skip (g_inBlock ?_)
                                              refine g_region ?_
                                              refine xV rfl rfl rfl (v_move rfl) ?_
                                              first | (refine xV rfl rfl rfl (v_add rfl rfl (by omega)) ?_) | (refine xV rfl rfl rfl (v_addW rfl rfl) ?_)
                                              refine xV rfl rfl rfl (v_assign rfl) ?_
                                              refine rl_nil (g_le (xK (xK (xK (Fr.le_refl _)))) ?_)
                                              exact g_le (by repeat (first | exact Fr.le_nil _ | refine Fr.le_cons rfl ?_)) (ih2 (k + 1, cn, j + 1) w ⟨by simp only; omega, by simp only; omega, by dsimp only; rw [hcn]; have h0 := mt hkd.1.2 (by omega); split <;> split <;> omega, hw.xQ⟩ (by simp only; omega))
                                      · try with_reducible exact tf_elim g49_13
                                        all_goals
                                          try replace g49_13 := of_decide_eq_false g49_13
                                          refine rl_off (met_off rfl rfl rfl rfl rfl) rfl rfl ?_
                                          refine rl_off (met_off rfl rfl rfl rfl rfl) rfl rfl ?_
                                          refine rl_off (met_off rfl rfl rfl rfl rfl) rfl rfl ?_
                                          refine rl_off (met_off rfl rfl rfl rfl rfl) rfl rfl ?_
                                          refine rl_vg (met_on rfl rfl rfl rfl) rfl rfl (S := fun _ => True) trivial (v_pick_false rfl rfl) ?_
                                          refine xV rfl rfl rfl (v_pick_false rfl rfl) ?_
                                          refine rl_nil (g_le (xK (xK (xK (xK (xK (xK (xK (xK (xK (xK (xK (xK (xK (xK (xK (xK (xK (xK (xK (xK (xK (xK (xK (xK (Fr.le_refl _))))))))))))))))))))))))) ?_)
                                          refine g_cond_false rfl ?_
                                          refine g_skip (g_seq ?_)
                                          refine g_region ?_
                                          refine xV rfl rfl rfl (v_move rfl) ?_
                                          refine xV rfl rfl rfl (v_eqlT rfl rfl (by omega)) ?_
                                          refine rl_nil (g_le (xK (xK (Fr.le_refl _))) ?_)
                                          refine g_cond rfl (fun h16 => ?_) (fun h16 => ?_)
                                          · try with_reducible exact ft_elim h16
                                            all_goals
                                              try replace h16 := of_decide_eq_true h16
                                              refine g_region ?_
                                              refine xV rfl rfl rfl (v_move rfl) ?_
                                              refine xV rfl rfl rfl (v_add rfl rfl (by omega)) ?_
                                              refine xV rfl rfl rfl (v_assign rfl) ?_
                                              refine rl_nil (g_le (xK (xK (xK (Fr.le_refl _)))) ?_)
                                              refine g_inBlock ?_
                                              refine g_region ?_
                                              refine xV rfl rfl rfl (v_move rfl) ?_
                                              refine xV rfl rfl rfl (v_add rfl rfl (by omega)) ?_
                                              refine xV rfl rfl rfl (v_assign rfl) ?_
                                              refine rl_nil (g_le (xK (xK (xK (Fr.le_refl _)))) ?_)
                                              exact g_le (by repeat (first | exact Fr.le_nil _ | refine Fr.le_cons rfl ?_)) (ih2 (k + 1, cn + 1, j + 1) w ⟨by simp only; omega, by simp only; omega, by dsimp only; rw [hcn]; have h0 := hkd.1.1 (by omega); split <;> split <;> omega, hw.xQ⟩ (by simp only; omega))
                                          · try with_reducible exact tf_elim h16
                                            all_goals
                                              try replace h16 := of_decide_eq_false h16
                                              refine g_skip (g_inBlock ?_)
                                              refine g_region ?_
                                              refine xV rfl rfl rfl (v_move rfl) ?_
                                              first | (refine xV rfl rfl rfl (v_add rfl rfl (by omega)) ?_) | (refine xV rfl rfl rfl (v_addW rfl rfl) ?_)
                                              refine xV rfl rfl rfl (v_assign rfl) ?_
                                              refine rl_nil (g_le (xK (xK (xK (Fr.le_refl _)))) ?_)
                                              exact g_le (by repeat (first | exact Fr.le_nil _ | refine Fr.le_cons rfl ?_)) (ih2 (k + 1, cn, j + 1) w ⟨by simp only; omega, by simp only; omega, by dsimp only; rw [hcn]; have h0 := mt hkd.1.2 (by omega); split <;> split <;> omega, hw.xQ⟩ (by simp only; omega))
                              · try with_reducible exact tf_elim g49_6
                                all_goals
                                  try replace g49_6 := of_decide_eq_false g49_6
                                  refine rl_off (met_off rfl rfl rfl rfl rfl) rfl rfl ?_
                                  refine rl_off (met_off rfl rfl rfl rfl rfl) rfl rfl ?_
                                  refine xV rfl rfl rfl (v_pick_false rfl rfl) ?_
                                  refine xV rfl rfl rfl (v_move rfl) ?_
                                  refine rl_vg (met_on rfl rfl rfl rfl) rfl rfl (S := fun _ => True) trivial (v_move rfl) ?_
                                  refine rl_vg (met_on rfl rfl rfl rfl) rfl rfl (S := fun _ => True) trivial (v_eqlF rfl rfl (by omega)) ?_
                                  refine rl_vg (met_on rfl rfl rfl rfl) rfl rfl (S := fun _ => True) trivial (v_move rfl) ?_
                                  refine rl_split (s := 246) rfl (fun g49_13 => ?_) (fun g49_13 => ?_)
                                  · try with_reducible exact ft_elim g49_13
                                    all_goals
                                      try replace g49_13 := of_decide_eq_true g49_13
                                      refine rl_vg (met_on rfl rfl rfl rfl) rfl rfl (S := fun _ => True) trivial (v_move rfl) ?_
                                      refine rl_vg (met_on rfl rfl rfl rfl) rfl rfl (S := fun _ => True) trivial (v_move rfl) ?_
                                      refine rl_kg (met_on rfl rfl rfl rfl) (k_callf Try.func30 rfl rfl rfl rfl ?_)
                                      refine Calls.mono (liveS_calls (l := l) (m := m) (b := b) (c := c) (o := o) (ss := ss) _ (by omega) (hw.xQ)) ?_
                                      rw [hvu, hlv (by omega)]
                                      rintro _ w ⟨rfl, hw⟩
                                      refine ⟨_, rfl, ?_⟩
                                      first | (refine rl_vg (met_on rfl rfl rfl rfl) rfl rfl (S := fun _ => True) trivial (v_neqT rfl rfl (by omega)) ?_) | (refine rl_vg (met_on rfl rfl rfl rfl) rfl rfl (S := fun _ => True) trivial (v_neqF rfl rfl (by first | omega | rfl)) ?_) | (refine rl_vg (met_on rfl rfl rfl rfl) rfl rfl (S := fun _ => True) trivial (v_neq rfl rfl) ?_)
                                      first | (refine rl_vg (met_on rfl rfl rfl rfl) rfl rfl (S := fun _ => True) trivial (v_pick_true rfl rfl) ?_) | (refine rl_vg (met_on rfl rfl rfl rfl) rfl rfl (S := fun _ => True) trivial (v_pick_false rfl rfl) ?_) | (refine rl_vg (met_on rfl rfl rfl rfl) rfl rfl (S := fun _ => True) trivial (v_pick rfl rfl rfl) ?_)
                                      first | (refine xV rfl rfl rfl (v_pick_true rfl rfl) ?_) | (refine xV rfl rfl rfl (v_pick_false rfl rfl) ?_) | (refine xV rfl rfl rfl (v_pick rfl rfl rfl) ?_)
                                      refine rl_nil (g_le (xK (xK (xK (xK (xK (xK (xK (xK (xK (xK (xK (xK (xK (xK (xK (xK (xK (xK (xK (xK (xK (xK (xK (Fr.le_refl _)))))))))))))))))))))))) ?_)
                                      refine g_cond_false rfl ?_
                                      refine g_skip (g_seq ?_)
                                      refine g_region ?_
                                      refine xV rfl rfl rfl (v_move rfl) ?_
                                      first | (refine xV rfl rfl rfl (v_eqlT rfl rfl (by first | omega | rfl)) ?_) | (refine xV rfl rfl rfl (v_eqlF rfl rfl (by omega)) ?_) | (refine xV rfl rfl rfl (v_eql rfl rfl) ?_)
                                      refine rl_nil (g_le (xK (xK (Fr.le_refl _))) ?_)
                                      refine g_cond rfl (fun h16 => ?_) (fun h16 => ?_)
                                      · try with_reducible exact ft_elim h16
                                        all_goals
                                          try replace h16 := of_decide_eq_true h16
                                          refine g_region ?_
                                          refine xV rfl rfl rfl (v_move rfl) ?_
                                          first | (refine xV rfl rfl rfl (v_add rfl rfl (by omega)) ?_) | (refine xV rfl rfl rfl (v_addW rfl rfl) ?_)
                                          refine xV rfl rfl rfl (v_assign rfl) ?_
                                          refine rl_nil (g_le (xK (xK (xK (Fr.le_refl _)))) ?_)
                                          refine g_inBlock ?_
                                          refine g_region ?_
                                          refine xV rfl rfl rfl (v_move rfl) ?_
                                          first | (refine xV rfl rfl rfl (v_add rfl rfl (by omega)) ?_) | (refine xV rfl rfl rfl (v_addW rfl rfl) ?_)
                                          refine xV rfl rfl rfl (v_assign rfl) ?_
                                          refine rl_nil (g_le (xK (xK (xK (Fr.le_refl _)))) ?_)
                                          exact g_le (by repeat (first | exact Fr.le_nil _ | refine Fr.le_cons rfl ?_)) (ih2 (k + 1, cn + 1, j + 1) w ⟨by simp only; omega, by simp only; omega, by dsimp only; rw [hcn]; have h0 := hkd.1.1 (by omega); split <;> split <;> omega, hw.xQ⟩ (by simp only; omega))
                                      · try with_reducible exact tf_elim h16
                                        all_goals
                                          try replace h16 := of_decide_eq_false h16
                                          refine g_skip (g_inBlock ?_)
                                          refine g_region ?_
                                          refine xV rfl rfl rfl (v_move rfl) ?_
                                          first | (refine xV rfl rfl rfl (v_add rfl rfl (by omega)) ?_) | (refine xV rfl rfl rfl (v_addW rfl rfl) ?_)
                                          refine xV rfl rfl rfl (v_assign rfl) ?_
                                          refine rl_nil (g_le (xK (xK (xK (Fr.le_refl _)))) ?_)
                                          exact g_le (by repeat (first | exact Fr.le_nil _ | refine Fr.le_cons rfl ?_)) (ih2 (k + 1, cn, j + 1) w ⟨by simp only; omega, by simp only; omega, by dsimp only; rw [hcn]; have h0 := mt hkd.1.2 (by omega); split <;> split <;> omega, hw.xQ⟩ (by simp only; omega))
                                  · try with_reducible exact tf_elim g49_13
                                    all_goals
                                      try replace g49_13 := of_decide_eq_false g49_13
                                      refine rl_off (met_off rfl rfl rfl rfl rfl) rfl rfl ?_
                                      refine rl_off (met_off rfl rfl rfl rfl rfl) rfl rfl ?_
                                      refine rl_off (met_off rfl rfl rfl rfl rfl) rfl rfl ?_
                                      refine rl_off (met_off rfl rfl rfl rfl rfl) rfl rfl ?_
                                      refine rl_vg (met_on rfl rfl rfl rfl) rfl rfl (S := fun _ => True) trivial (v_pick_false rfl rfl) ?_
                                      refine xV rfl rfl rfl (v_pick_false rfl rfl) ?_
                                      refine rl_nil (g_le (xK (xK (xK (xK (xK (xK (xK (xK (xK (xK (xK (xK (xK (xK (xK (xK (xK (xK (xK (xK (xK (xK (xK (Fr.le_refl _)))))))))))))))))))))))) ?_)
                                      refine g_cond_false rfl ?_
                                      refine g_skip (g_seq ?_)
                                      refine g_region ?_
                                      refine xV rfl rfl rfl (v_move rfl) ?_
                                      refine xV rfl rfl rfl (v_eqlF rfl rfl (by omega)) ?_
                                      refine rl_nil (g_le (xK (xK (Fr.le_refl _))) ?_)
                                      refine g_cond rfl (fun h16 => ?_) (fun h16 => ?_)
                                      · try with_reducible exact ft_elim h16
                                        all_goals
                                          try replace h16 := of_decide_eq_true h16
                                          refine g_region ?_
                                          refine xV rfl rfl rfl (v_move rfl) ?_
                                          first | (refine xV rfl rfl rfl (v_add rfl rfl (by omega)) ?_) | (refine xV rfl rfl rfl (v_addW rfl rfl) ?_)
                                          refine xV rfl rfl rfl (v_assign rfl) ?_
                                          refine rl_nil (g_le (xK (xK (xK (Fr.le_refl _)))) ?_)
                                          refine g_inBlock ?_
                                          refine g_region ?_
                                          refine xV rfl rfl rfl (v_move rfl) ?_
                                          first | (refine xV rfl rfl rfl (v_add rfl rfl (by omega)) ?_) | (refine xV rfl rfl rfl (v_addW rfl rfl) ?_)
                                          refine xV rfl rfl rfl (v_assign rfl) ?_
                                          refine rl_nil (g_le (xK (xK (xK (Fr.le_refl _)))) ?_)
                                          exact g_le (by repeat (first | exact Fr.le_nil _ | refine Fr.le_cons rfl ?_)) (ih2 (k + 1, cn + 1, j + 1) w ⟨by simp only; omega, by simp only; omega, by dsimp only; rw [hcn]; have h0 := hkd.1.1 (by omega); split <;> split <;> omega, hw.xQ⟩ (by simp only; omega))
                                      · try with_reducible exact tf_elim h16
                                        all_goals
                                          try replace h16 := of_decide_eq_false h16
                                          refine g_skip (g_inBlock ?_)
                                          refine g_region ?_
                                          refine xV rfl rfl rfl (v_move rfl) ?_
                                          refine xV rfl rfl rfl (v_add rfl rfl (by omega)) ?_
                                          refine xV rfl rfl rfl (v_assign rfl) ?_
                                          refine rl_nil (g_le (xK (xK (xK (Fr.le_refl _)))) ?_)
                                          exact g_le (by repeat (first | exact Fr.le_nil _ | refine Fr.le_cons rfl ?_)) (ih2 (k + 1, cn, j + 1) w ⟨by simp only; omega, by simp only; omega, by dsimp only; rw [hcn]; have h0 := mt hkd.1.2 (by omega); split <;> split <;> omega, hw.xQ⟩ (by simp only; omega))
                          · try with_reducible exact tf_elim g49_2
                            all_goals
                              try replace g49_2 := of_decide_eq_false g49_2
                              refine rl_off (met_off rfl rfl rfl rfl rfl) rfl rfl ?_
                              refine rl_off (met_off rfl rfl rfl rfl rfl) rfl rfl ?_
                              refine xV rfl rfl rfl (v_pick_false rfl rfl) ?_
                              refine xV rfl rfl rfl (v_move rfl) ?_
                              refine rl_off (met_off rfl rfl rfl rfl rfl) rfl rfl ?_
                              refine rl_off (met_off rfl rfl rfl rfl rfl) rfl rfl ?_
                              refine xV rfl rfl rfl (v_pick_false rfl rfl) ?_
                              refine xV rfl rfl rfl (v_move rfl) ?_
                              refine rl_vg (met_on rfl rfl rfl rfl) rfl rfl (S := fun _ => True) trivial (v_move rfl) ?_
                              refine rl_vg (met_on rfl rfl rfl rfl) rfl rfl (S := fun _ => True) trivial (v_eqlT rfl rfl (by omega)) ?_
                              refine rl_vg (met_on rfl rfl rfl rfl) rfl rfl (S := fun _ => True) trivial (v_move rfl) ?_
                              refine rl_split (s := 246) rfl (fun g49_13 => ?_) (fun g49_13 => ?_)
                              · try with_reducible exact ft_elim g49_13
                                all_goals
                                  try replace g49_13 := of_decide_eq_true g49_13
                                  refine rl_vg (met_on rfl rfl rfl rfl) rfl rfl (S := fun _ => True) trivial (v_move rfl) ?_
                                  refine rl_vg (met_on rfl rfl rfl rfl) rfl rfl (S := fun _ => True) trivial (v_move rfl) ?_
                                  refine rl_kg (met_on rfl rfl rfl rfl) (k_callf Try.func30 rfl rfl rfl rfl ?_)
                                  refine Calls.mono (liveS_calls (l := l) (m := m) (b := b) (c := c) (o := o) (ss := ss) _ (by omega) (hw.xQ)) ?_
                                  rw [hvu, hlv (by omega)]
                                  rintro _ w ⟨rfl, hw⟩
                                  refine ⟨_, rfl, ?_⟩
                                  refine rl_vg (met_on rfl rfl rfl rfl) rfl rfl (S := fun _ => True) trivial (v_neqF rfl rfl (by omega)) ?_
                                  refine rl_vg (met_on rfl rfl rfl rfl) rfl rfl (S := fun _ => True) trivial (v_pick_true rfl rfl) ?_
                                  refine xV rfl rfl rfl (v_pick_false rfl rfl) ?_
                                  refine rl_nil (g_le (xK (xK (xK (xK (xK (xK (xK (xK (xK (xK (xK (xK (xK (xK (xK (xK (xK (xK (xK (xK (xK (xK (Fr.le_refl _))))))))))))))))))))))) ?_)
                                  refine g_cond_false rfl ?_
                                  refine g_skip (g_seq ?_)
                                  refine g_region ?_
                                  refine xV rfl rfl rfl (v_move rfl) ?_
                                  refine xV rfl rfl rfl (v_eqlF rfl rfl (by omega)) ?_
                                  refine rl_nil (g_le (xK (xK (Fr.le_refl _))) ?_)
                                  refine g_cond rfl (fun h16 => ?_) (fun h16 => ?_)
                                  · try with_reducible exact ft_elim h16
                                    all_goals
                                      try replace h16 := of_decide_eq_true h16
                                      refine g_region ?_
                                      refine xV rfl rfl rfl (v_move rfl) ?_
                                      first | (refine xV rfl rfl rfl (v_add rfl rfl (by omega)) ?_) | (refine xV rfl rfl rfl (v_addW rfl rfl) ?_)
                                      refine xV rfl rfl rfl (v_assign rfl) ?_
                                      refine rl_nil (g_le (xK (xK (xK (Fr.le_refl _)))) ?_)
                                      refine g_inBlock ?_
                                      refine g_region ?_
                                      refine xV rfl rfl rfl (v_move rfl) ?_
                                      first | (refine xV rfl rfl rfl (v_add rfl rfl (by omega)) ?_) | (refine xV rfl rfl rfl (v_addW rfl rfl) ?_)
                                      refine xV rfl rfl rfl (v_assign rfl) ?_
                                      refine rl_nil (g_le (xK (xK (xK (Fr.le_refl _)))) ?_)
                                      exact g_le (by repeat (first | exact Fr.le_nil _ | refine Fr.le_cons rfl ?_)) (ih2 (k + 1, cn + 1, j + 1) w ⟨by simp only; omega, by simp only; omega, by dsimp only; rw [hcn]; have h0 := hkd.1.1 (by omega); split <;> split <;> omega, hw.xQ⟩ (by simp only; omega))
                                  · try with_reducible exact tf_elim h16
                                    all_goals
                                      try replace h16 := of_decide_eq_false h16
                                      refine g_skip (g_inBlock ?_)
                                      refine g_region ?_
                                      refine xV rfl rfl rfl (v_move rfl) ?_
                                      refine xV rfl rfl rfl (v_add rfl rfl (by omega)) ?_
                                      refine xV rfl rfl rfl (v_assign rfl) ?_
                                      refine rl_nil (g_le (xK (xK (xK (Fr.le_refl _)))) ?_)
                                      exact g_le (by repeat (first | exact Fr.le_nil _ | refine Fr.le_cons rfl ?_)) (ih2 (k + 1, cn, j + 1) w ⟨by simp only; omega, by simp only; omega, by dsimp only; rw [hcn]; have h0 := mt hkd.1.2 (by omega); split <;> split <;> omega, hw.xQ⟩ (by simp only; omega))
                              · try with_reducible exact tf_elim g49_13
                                all_goals
                                  try replace g49_13 := of_decide_eq_false g49_13
                                  refine rl_off (met_off rfl rfl rfl rfl rfl) rfl rfl ?_
                                  refine rl_off (met_off rfl rfl rfl rfl rfl) rfl rfl ?_
                                  refine rl_off (met_off rfl rfl rfl rfl rfl) rfl rfl ?_
                                  refine rl_off (met_off rfl rfl rfl rfl rfl) rfl rfl ?_
                                  first | (refine rl_vg (met_on rfl rfl rfl rfl) rfl rfl (S := fun _ => True) trivial (v_pick_true rfl rfl) ?_) | (refine rl_vg (met_on rfl rfl rfl rfl) rfl rfl (S := fun _ => True) trivial (v_pick_false rfl rfl) ?_) | (refine rl_vg (met_on rfl rfl rfl rfl) rfl rfl (S := fun _ => True) trivial (v_pick rfl rfl rfl) ?_)
                                  first | (refine xV rfl rfl rfl (v_pick_true rfl rfl) ?_) | (refine xV rfl rfl rfl (v_pick_false rfl rfl) ?_) | (refine xV rfl rfl rfl (v_pick rfl rfl rfl) ?_)
                                  refine rl_nil (g_le (xK (xK (xK (xK (xK (xK (xK (xK (xK (xK (xK (xK (xK (xK (xK (xK (xK (xK (xK (xK (xK (xK (Fr.le_refl _))))))))))))))))))))))) ?_)
                                  refine g_cond_false rfl ?_
                                  refine g_skip (g_seq ?_)
                                  refine g_region ?_
                                  refine xV rfl rfl rfl (v_move rfl) ?_
                                  first | (refine xV rfl rfl rfl (v_eqlT rfl rfl (by first | omega | rfl)) ?_) | (refine xV rfl rfl rfl (v_eqlF rfl rfl (by omega)) ?_) | (refine xV rfl rfl rfl (v_eql rfl rfl) ?_)
                                  refine rl_nil (g_le (xK (xK (Fr.le_refl _))) ?_)
                                  refine g_cond rfl (fun h16 => ?_) (fun h16 => ?_)
                                  · try with_reducible exact ft_elim h16
                                    all_goals
                                      try replace h16 := of_decide_eq_true h16
                                      refine g_region ?_
                                      refine xV rfl rfl rfl (v_move rfl) ?_
                                      first | (refine xV rfl rfl rfl (v_add rfl rfl (by omega)) ?_) | (refine xV rfl rfl rfl (v_addW rfl rfl) ?_)
                                      refine xV rfl rfl rfl (v_assign rfl) ?_
                                      refine rl_nil (g_le (xK (xK (xK (Fr.le_refl _)))) ?_)
                                      refine g_inBlock ?_
                                      refine g_region ?_
                                      refine xV rfl rfl rfl (v_move rfl) ?_
                                      first | (refine xV rfl rfl rfl (v_add rfl rfl (by omega)) ?_) | (refine xV rfl rfl rfl (v_addW rfl rfl) ?_)
                                      refine xV rfl rfl rfl (v_assign rfl) ?_
                                      refine rl_nil (g_le (xK (xK (xK (Fr.le_refl _)))) ?_)
                                      exact g_le (by repeat (first | exact Fr.le_nil _ | refine Fr.le_cons rfl ?_)) (ih2 (k + 1, cn + 1, j + 1) w ⟨by simp only; omega, by simp only; omega, by dsimp only; rw [hcn]; have h0 := hkd.1.1 (by omega); split <;> split <;> omega, hw.xQ⟩ (by simp only; omega))
                                  · try with_reducible exact tf_elim h16
                                    all_goals
                                      try replace h16 := of_decide_eq_false h16
                                      refine g_skip (g_inBlock ?_)
                                      refine g_region ?_
                                      refine xV rfl rfl rfl (v_move rfl) ?_
                                      first | (refine xV rfl rfl rfl (v_add rfl rfl (by omega)) ?_) | (refine xV rfl rfl rfl (v_addW rfl rfl) ?_)
                                      refine xV rfl rfl rfl (v_assign rfl) ?_
                                      refine rl_nil (g_le (xK (xK (xK (Fr.le_refl _)))) ?_)
                                      exact g_le (by repeat (first | exact Fr.le_nil _ | refine Fr.le_cons rfl ?_)) (ih2 (k + 1, cn, j + 1) w ⟨by simp only; omega, by simp only; omega, by dsimp only; rw [hcn]; have h0 := mt hkd.1.2 (by omega); split <;> split <;> omega, hw.xQ⟩ (by simp only; omega))
              · try with_reducible exact tf_elim h12
                all_goals
                  try replace h12 := of_decide_eq_false h12
                  refine g_exit rfl (g_seq (g_seq ?_))
                  obtain rfl : cn = 1 := by rw [hcn, if_pos (by omega)]
                  have hct := K.count
                  refine g_region ?_
                  refine xV rfl rfl rfl (v_move rfl) ?_
                  refine xV rfl rfl rfl (v_neqF rfl rfl (by omega)) ?_
                  refine xV rfl rfl rfl (v_move rfl) ?_
                  refine rl_split (s := 259) rfl (fun g53_2 => ?_) (fun g53_2 => ?_)
                  · try with_reducible exact ft_elim g53_2
                    all_goals
                      try replace g53_2 := of_decide_eq_true g53_2
                      simp at g53_2
                  · try with_reducible exact tf_elim g53_2
                    all_goals
                      try replace g53_2 := of_decide_eq_false g53_2
                      refine rl_vg (met_on rfl rfl rfl rfl) rfl rfl (S := fun _ => True) trivial (v_move rfl) ?_
                      refine rl_kg (met_on rfl rfl rfl rfl) (k_callf Try.func23 rfl rfl rfl rfl ?_)
                      refine Calls.mono (free_calls (l := l) (m := m) (b := b) (c := c) (o := o) (ss := ss) (by omega) (hw.xQ)) ?_
                      rw [ofS_len]
                      rintro _ w ⟨fv2, rfl, hw⟩
                      obtain ⟨fa2, fc2, rfl, _, _, _⟩ := hw.own_shape
                      have hw := hw.drop
                      refine ⟨_, rfl, ?_⟩
                      refine rl_vg (met_on rfl rfl rfl rfl) rfl rfl (S := fun _ => True) trivial (v_lenSlice T.sl_61_3_1 rfl) ?_
                      refine rl_vg (met_on rfl rfl rfl rfl) rfl rfl (S := fun _ => True) trivial (v_move rfl) ?_
                      refine rl_kg (met_on rfl rfl rfl rfl) (k_callf Try.func27 rfl rfl rfl rfl ?_)
                      refine Calls.mono (sealed_calls (l := l) (m := m) (b := b) (c := c) (o := o) (ss := ss) (by omega) (hw.xQ)) ?_
                      rw [ofS_len]
                      rintro _ w ⟨sv2, rfl, hw⟩
                      obtain ⟨sa2, sc2, rfl, _, _, _⟩ := hw.own_shape
                      have hw := hw.drop
                      refine ⟨_, rfl, ?_⟩
                      refine rl_vg (met_on rfl rfl rfl rfl) rfl rfl (S := fun _ => True) trivial (v_lenSlice T.sl_61_3_1 rfl) ?_
                      refine rl_vg (met_on rfl rfl rfl rfl) rfl rfl (S := fun _ => True) trivial (v_add rfl rfl (by omega)) ?_
                      refine rl_vg (met_on rfl rfl rfl rfl) rfl rfl (S := fun _ => True) trivial (v_add rfl rfl (by omega)) ?_
                      refine rl_vg (met_on rfl rfl rfl rfl) rfl rfl (S := fun _ => True) trivial (v_move rfl) ?_
                      refine rl_vg (met_on rfl rfl rfl rfl) rfl rfl (S := fun _ => True) trivial (v_neqF rfl rfl (by omega)) ?_
                      refine xV rfl rfl rfl (v_pick_false rfl rfl) ?_
                      refine rl_nil (g_le (xK (xK (xK (xK (xK (xK (xK (xK (xK (xK (xK (xK (xK (xK (xK (Fr.le_refl _)))))))))))))))) ?_)
                      refine g_cond_false rfl ?_
                      refine g_skip (g_seq ?_)
                      refine g_region ?_
                      refine xV rfl rfl rfl (v_assign rfl) ?_
                      refine rl_nil (g_le (xK (Fr.le_refl _)) ?_)
                      obtain ⟨pa2, pc2, hpv, _, _, hpa⟩ := (hw.xP (A := OwnSl 58 3 pv qs.length ((qs.map Prod.fst).flatMap Pl.cells))).own_shape
                      subst hpv
                      obtain ⟨ra2, rc2, hrv, _, _, hra⟩ := (hw.xP (A := OwnSl 9 1 rv qs.length (qs.map fun q => Value.string q.2))).own_shape
                      subst hrv
                      refine g_block ?_
                      refine g_loopC (σ := Nat) (fun C z => (27, .int .i64 (z : Nat)) :: C) [(0, _), (1, _), (2, _), (6, _), (8, _), (9, _), (10, _), (11, _), (12, _), (13, _), (14, _), (15, _), (24, _), (25, _), (46, _), (47, _), (48, _), (49, _), (52, _), (53, _), (54, _), (55, _), (56, _), (57, _), (58, _), (59, _), (60, _), (61, _), (62, _), (63, _), (64, _), (210, _), (211, _), (212, _), (257, _), (258, _), (259, _), (260, _), (261, _), (262, _), (263, _), (264, _), (265, _), (266, _), (267, _), (268, _), (269, _), (270, _)] (by repeat (first | exact Fr.le_nil _ | refine Fr.le_cons rfl ?_)) (fun z w => z ≤ qs.length ∧ Sat (envOf W) w (MdAt m p md :: pt l (.cells [Value.pointer (some ⟨m, 0, none⟩), .int .i64 o, .slice (some ⟨b, 0, none⟩) (ss : List Sg).length c].toArray 47 (0, 0)) :: OwnSl 104 3 (.slice (some ⟨b, 0, none⟩) (ss).length c) (ss).length ((ss).flatMap Sg.cells) :: PwAt p pw :: OwnSl 58 3 ((.slice pa2 qs.length pc2)) (qs : List Row14).length (((qs : List Row14).map Prod.fst).flatMap Pl.cells) :: OwnSl 9 1 ((.slice ra2 qs.length rc2)) (qs : List Row14).length ((qs : List Row14).map fun q => Value.string q.2) :: [RO (hpOf W)])) (fun z => qs.length - z) ?_ 0 (by repeat (first | exact Fr.le_nil _ | refine Fr.le_cons rfl ?_)) ⟨by simp, hw.xQ⟩
                      rintro k w ⟨hk, hw⟩ ih2
                      refine g_seq (g_seq ?_)
                      refine g_region ?_
                      refine xV rfl rfl rfl (v_move rfl) ?_
                      refine xV rfl rfl rfl (v_move rfl) ?_
                      refine xV rfl rfl rfl (v_lenSlice T.sl_70_58_3 rfl) ?_
                      refine xV rfl rfl rfl (v_lss rfl rfl) ?_
                      refine rl_nil (g_le (xK (xK (xK (xK (Fr.le_refl _))))) ?_)
                      refine g_cond rfl (fun h18 => ?_) (fun h18 => ?_)
                      · try with_reducible exact ft_elim h18
                        all_goals
                          try replace h18 := of_decide_eq_true h18
                          refine g_skip (g_seq (g_block (g_seq ?_)))
                          have hkl : k < qs.length := by omega
                          obtain ⟨q, hq⟩ : ∃ q, qs[k]? = some q := ⟨_, List.getElem?_eq_getElem hkl⟩
                          obtain ⟨pg, rfl⟩ := hpa (by omega)
                          obtain ⟨rg, rfl⟩ := hra (by omega)
                          have hsub := subAt_flat (f := Pl.cells) (sz := 3) (fun _ => rfl) (show (qs.map Prod.fst)[k]? = some q.1 by rw [List.getElem?_map, hq]; rfl)
                          rw [show 0 + k * 3 = 0 + (k : Int).toNat * 3 by omega] at hsub
                          dsimp only [Pl.cells] at hsub
                          have hsr : (qs.map fun q => Value.string q.2)[0 + (k : Int).toNat * 1]? = some (.string q.2) := by rw [show 0 + (k : Int).toNat * 1 = k by omega, List.getElem?_map, hq]; rfl
                          obtain ⟨hrd, hrk⟩ := P.read K (List.mem_of_getElem? hq)
                          have hwq := P.fit.1 q.1 (List.mem_map_of_mem (List.mem_of_getElem? hq))
                          unfold within at hwq
                          have hwu := usedS_bound K.us' q.1.seg hwq.1 hwq.2.1
                          refine g_drawB ord_f6_r58_S14T (by kernel_rfl) T.mixed (fun w hw => (hw.pick .at0).drop) hw (fun w hw => ?_)
                          refine rs_a 0 rfl rfl rfl rfl (v_move rfl) ?_
                          refine rs_a 1 rfl rfl rfl rfl (v_nilCheck rfl) ?_
                          refine rs_a 2 rfl rfl rfl rfl (v_fieldAddr0 T.fld_47_0_0 rfl) ?_
                          refine rs_a 4 rfl rfl rfl rfl (v_move rfl) ?_
                          refine rs_a 5 rfl rfl rfl rfl (v_move rfl) ?_
                          refine rs_a 6 rfl rfl rfl rfl (v_indexAddr T.sl_70_58_3 rfl rfl (by omega) (by omega)) ?_
                          refine rs_a 7 rfl rfl rfl rfl (v_fieldAddr T.fld_58_0_0 rfl) ?_
                          refine rs_a 9 rfl rfl rfl rfl (v_move rfl) ?_
                          refine rs_a 10 rfl rfl rfl rfl (v_move rfl) ?_
                          refine rs_a 11 rfl rfl rfl rfl (v_indexAddr T.sl_70_58_3 rfl rfl (by omega) (by omega)) ?_
                          refine rs_a 12 rfl rfl rfl rfl (v_fieldAddr T.fld_58_1_1 rfl) ?_
                          refine rs_a 14 rfl rfl rfl rfl (v_move rfl) ?_
                          refine rs_a 15 rfl rfl rfl rfl (v_move rfl) ?_
                          refine rs_a 16 rfl rfl rfl rfl (v_indexAddr T.sl_70_58_3 rfl rfl (by omega) (by omega)) ?_
                          refine rs_a 17 rfl rfl rfl rfl (v_fieldAddr T.fld_58_2_2 rfl) ?_
                          refine rs_v 3 rfl rfl rfl rfl (OpV.mono (v_load T.scal_24 rfl) (fun w hw => by exact sat_cell hw (by (repeat first | with_reducible exact xH | apply xT); first | done | fail) rfl)) (by exact Sat.sub hw (by (repeat (first | with_reducible exact Sub.refl _ | exact Sub.nil _ | (apply Sub.cons; focus ((repeat (first | with_reducible exact Pick.here _ | apply Pick.there)); (first | done | fail))) | with_reducible apply Sub.drop)); first | done | fail)) ?_
                          refine rs_v 8 rfl rfl rfl rfl (OpV.mono (v_load T.scal_3 rfl) (fun w hw => by exact own_at0 hw (by (repeat first | with_reducible exact xH | apply xT); first | done | fail) (by assumption) rfl)) (by exact Sat.sub hw (by (repeat (first | with_reducible exact Sub.refl _ | exact Sub.nil _ | (apply Sub.cons; focus ((repeat (first | with_reducible exact Pick.here _ | apply Pick.there)); (first | done | fail))) | with_reducible apply Sub.drop)); first | done | fail)) ?_
                          refine rs_v 13 rfl rfl rfl rfl (OpV.mono (v_load T.scal_3 rfl) (fun w hw => by exact own_at hw (by (repeat first | with_reducible exact xH | apply xT); first | done | fail) (by assumption) rfl)) (by exact Sat.sub hw (by (repeat (first | with_reducible exact Sub.refl _ | exact Sub.nil _ | (apply Sub.cons; focus ((repeat (first | with_reducible exact Pick.here _ | apply Pick.there)); (first | done | fail))) | with_reducible apply Sub.drop)); first | done | fail)) ?_
                          refine rs_kv 18 rfl rfl rfl rfl (by exact own_at hw (by (repeat first | with_reducible exact xH | apply xT); first | done | fail) (by assumption) rfl) (v_load T.scal_3 rfl) ?_
                          refine rs_k 19 rfl rfl (k_callf Try.func31 rfl rfl rfl rfl ?_)
                          refine Calls.mono (mread_calls m p md q.1.seg q.1.off q.1.len (by omega) hw) ?_
                          rw [hrd]
                          rintro _ w ⟨rfl, hw⟩
                          refine ⟨_, rfl, ?_⟩
                          refine ⟨fun hn => absurd (by decide) hn, ?_⟩
                          refine rs_kv 20 rfl rfl rfl rfl (S' := fun _ => True) trivial (v_move rfl) ?_
                          refine rs_a 21 rfl rfl rfl rfl (v_extract rfl rfl) ?_
                          refine rs_a 22 rfl rfl rfl rfl (v_extract rfl rfl) ?_
                          refine rs_kv 23 rfl rfl rfl rfl (S' := fun _ => True) trivial (v_assign rfl) ?_
                          refine rs_kv 24 rfl rfl rfl rfl (S' := fun _ => True) trivial (v_assign rfl) ?_
                          refine rs_done (g_le (xK (xK (xK (xK (xK (xK (xK (xK (xK (xK (xK (xK (xK (xK (xK (xK (xK (xK (xK (xK (xK (xK (xK (xK (xK (Fr.le_refl _)))))))))))))))))))))))))) ?_)
                          refine g_seq ?_
                          refine g_region ?_
                          refine xV rfl rfl rfl (v_move rfl) ?_
                          refine xV rfl rfl rfl (v_neqF rfl rfl (by omega)) ?_
                          refine xV rfl rfl rfl (v_move rfl) ?_
                          refine rl_split (s := 302) rfl (fun g59_2 => ?_) (fun g59_2 => ?_)
                          · try with_reducible exact ft_elim g59_2
                            all_goals
                              try replace g59_2 := of_decide_eq_true g59_2
                              simp at g59_2
                          · try with_reducible exact tf_elim g59_2
                            all_goals
                              try replace g59_2 := of_decide_eq_false g59_2
                              refine rl_vg (met_on rfl rfl rfl rfl) rfl rfl (S := fun _ => True) trivial (v_move rfl) ?_
                              refine rl_vg (met_on rfl rfl rfl rfl) rfl rfl (S := fun _ => True) trivial (v_move rfl) ?_
                              refine rl_vg (met_on rfl rfl rfl rfl) rfl rfl (S := fun _ => True) trivial (v_move rfl) ?_
                              refine rl_vg (met_on rfl rfl rfl rfl) rfl rfl (S := fun _ => True) trivial (v_indexAddr T.sl_54_9_1 rfl rfl (by omega) (by omega)) ?_
                              refine rl_vg (met_on rfl rfl rfl rfl) rfl rfl (by exact own_cell hw (by (repeat first | with_reducible exact xH | apply xT); first | done | fail) (by first | rfl | assumption)) (v_load T.scal_9 rfl) ?_
                              refine rl_vg (met_on rfl rfl rfl rfl) rfl rfl (S := fun _ => True) trivial (v_neqStrF rfl rfl (by first | rfl | assumption)) ?_
                              refine xV rfl rfl rfl (v_pick_false rfl rfl) ?_
                              refine xV rfl rfl rfl (v_move rfl) ?_
                              refine rl_split (s := 310) rfl (fun g59_10 => ?_) (fun g59_10 => ?_)
                              · try with_reducible exact ft_elim g59_10
                                all_goals
                                  try replace g59_10 := of_decide_eq_true g59_10
                                  simp at g59_10
                              · try with_reducible exact tf_elim g59_10
                                all_goals
                                  try replace g59_10 := of_decide_eq_false g59_10
                                  refine rl_vg (met_on rfl rfl rfl rfl) rfl rfl (S := fun _ => True) trivial (v_move rfl) ?_
                                  refine rl_vg (met_on rfl rfl rfl rfl) rfl rfl (S := fun _ => True) trivial (v_move rfl) ?_
                                  refine rl_vg (met_on rfl rfl rfl rfl) rfl rfl (S := fun _ => True) trivial (v_move rfl) ?_
                                  refine rl_vg (met_on rfl rfl rfl rfl) rfl rfl (S := fun _ => True) trivial (v_indexAddr T.sl_70_58_3 rfl rfl (by omega) (by omega)) ?_
                                  refine rl_vg (met_on rfl rfl rfl rfl) rfl rfl (S := fun _ => True) trivial (v_fieldAddr T.fld_58_0_0 rfl) ?_
                                  refine rl_vg (met_on rfl rfl rfl rfl) rfl rfl (by exact own_at0 hw (by (repeat first | with_reducible exact xH | apply xT); first | done | fail) (by assumption) rfl) (v_load T.scal_3 rfl) ?_
                                  refine rl_kg (met_on rfl rfl rfl rfl) (k_callf Try.func28 rfl rfl rfl rfl ?_)
                                  refine Calls.mono (kindS_calls (l := l) (m := m) (b := b) (c := c) (o := o) (ss := ss) q.1.seg (by omega) (hw.xQ)) ?_
                                  rintro _ w ⟨rfl, hw⟩
                                  refine ⟨_, rfl, ?_⟩
                                  refine rl_vg (met_on rfl rfl rfl rfl) rfl rfl (S := fun _ => True) trivial (v_eqlF rfl rfl (by omega)) ?_
                                  refine xV rfl rfl rfl (v_pick_false rfl rfl) ?_
                                  refine rl_nil (g_le (xK (xK (xK (xK (xK (xK (xK (xK (xK (xK (xK (xK (xK (xK (xK (xK (xK (xK (xK (xK (xK (xK (Fr.le_refl _))))))))))))))))))))))) ?_)
                                  refine g_cond_false rfl ?_
                                  refine g_skip (g_inBlock ?_)
                                  refine g_region ?_
                                  refine xV rfl rfl rfl (v_move rfl) ?_
                                  refine xV rfl rfl rfl (v_add rfl rfl (by omega)) ?_
                                  refine xV rfl rfl rfl (v_assign rfl) ?_
                                  refine rl_nil (g_le (xK (xK (xK (Fr.le_refl _)))) ?_)
                                  exact g_le (by repeat (first | exact Fr.le_nil _ | refine Fr.le_cons rfl ?_)) (ih2 (k + 1) w ⟨by omega, hw.xQ⟩ (by omega))
                      · try with_reducible exact tf_elim h18
                        all_goals
                          try replace h18 := of_decide_eq_false h18
                          refine g_exit rfl (g_inBlock ?_)
                          refine g_region ?_
                          refine xV rfl rfl rfl (v_move rfl) ?_
                          refine xV rfl rfl rfl (v_add rfl rfl (by omega)) ?_
                          refine xV rfl rfl rfl (v_assign rfl) ?_
                          refine rl_nil (g_le (xK (xK (xK (Fr.le_refl _)))) ?_)
                          exact g_le (by repeat (first | exact Fr.le_nil _ | refine Fr.le_cons rfl ?_)) (ih (i + 1, o, ss, md, pw, .slice pa2 qs.length pc2, .slice ra2 qs.length rc2, qs) w ⟨by simp only; omega, K, hsl, by simp only; omega, P, by simp only; omega, hw.xQ⟩ (by simp only; omega))
          · intro joinb2
            refine g_block (g_seq ?_)
            refine g_region ?_
            refine xV rfl rfl rfl (v_eql rfl rfl) ?_
            refine xV rfl rfl rfl (v_assign rfl) ?_
            refine rl_nil (g_le (xK (xK (Fr.le_refl _))) ?_)
            refine g_cond rfl (fun h3 => ?_) (fun h3 => ?_)
            · try with_reducible exact ft_elim h3
              all_goals
                try replace h3 := of_decide_eq_true h3
                refine g_seq ?_
                refine g_region ?_
                refine xV rfl rfl rfl (v_move rfl) ?_
                refine xV rfl rfl rfl (v_fieldAddr0 T.fld_72_1_1 rfl) ?_
                refine rl_v rfl rfl rfl (by exact sat_cell hw (by (repeat first | with_reducible exact xH | apply xT); first | done | fail) rfl) (v_load T.scal_9 rfl) ?_
                refine rl_k rfl (k_callf Try.func22 rfl rfl rfl rfl ?_)
                refine Calls.mono (append_calls (l := l) (m := m) (p := p) (b := b) (c := c) (o := o) (ss := ss) (md := md) (pw := pw) x.bytes K.I.len ⟨K.I.o0, K.I.o1⟩ K.I.us K.I.pok (by omega) (hw.xQ)) ?_
                have hap := app_k K x.bytes
                generalize appL o ss md pw x.bytes = r at hap ⊢
                rintro _ w ⟨rfl, hw⟩
                refine ⟨_, rfl, ?_⟩
                refine xV rfl rfl rfl (v_move rfl) ?_
                refine xV rfl rfl rfl (v_extract rfl rfl) ?_
                refine xV rfl rfl rfl (v_extract rfl rfl) ?_
                refine rl_k rfl (k_alloc hw T.zero_58 rfl rfl (fun bk17_7 w hw => ?_))
                refine rl_k rfl (k_storeWhole hw T.agg_58_3 rfl rfl (by simp [Value.oneCell']) rfl (by (repeat first | with_reducible exact xH | apply xT); first | done | fail) rfl (fun w hw => ?_))
                refine xV rfl rfl rfl (v_assign rfl) ?_
                refine rl_nil (g_le (xK (xK (xK (xK (xK (xK (xK (xK (xK (Fr.le_refl _)))))))))) ?_)
                refine g_seq ?_
                have hro : 0 ≤ r.o ∧ r.o < r.ss.length ∧ r.ss.length = ss.length := by
                  rcases hap with ⟨e, he, rfl, _⟩ | ⟨at_, hA⟩
                  · exact ⟨K.I.o0, K.I.o1, rfl⟩
                  · exact ⟨hA.K.I.o0, hA.K.I.o1, hA.len⟩
                refine g_region ?_
                refine xV rfl rfl rfl (v_move rfl) ?_
                refine rl_k rfl (k_callf Try.func24 rfl rfl rfl rfl ?_)
                refine Calls.mono (open_calls (l := l) (m := m) (b := b) (c := c) (o := r.o) (ss := r.ss) ⟨hro.1, hro.2.1⟩ (by omega) (hw.xQ)) ?_
                rintro _ w ⟨rfl, hw⟩
                refine ⟨_, rfl, ?_⟩
                refine xV rfl rfl rfl (v_move rfl) ?_
                refine xV rfl rfl rfl (v_extract rfl rfl) ?_
                refine xV rfl rfl rfl (v_extract rfl rfl) ?_
                refine xV rfl rfl rfl (v_assign rfl) ?_
                refine xV rfl rfl rfl (v_assign rfl) ?_
                refine rl_nil (g_le (xK (xK (xK (xK (xK (xK (xK (Fr.le_refl _)))))))) ?_)
                refine g_seq (g_seq ?_)
                refine g_region ?_
                refine xV rfl rfl rfl (v_move rfl) ?_
                refine xV rfl rfl rfl (v_neq rfl rfl) ?_
                refine rl_nil (g_le (xK (xK (Fr.le_refl _))) ?_)
                refine g_cond rfl (fun h4 => ?_) (fun h4 => ?_)
                · try with_reducible exact ft_elim h4
                  all_goals
                    try replace h4 := of_decide_eq_true h4
                    have hz := hw
                    clear hw
                    rcases hap with ⟨e, he, rfl, _⟩ | ⟨at_, hA⟩
                    rotate_left
                    · exact absurd hA.bad h4
                    dsimp only at hz ⊢
                    have hw := hz
                    refine g_seq (g_seq ?_)
                    refine g_region ?_
                    refine xV rfl rfl rfl (v_move rfl) ?_
                    refine xV rfl rfl rfl (v_move rfl) ?_
                    refine xV rfl rfl rfl (v_neqF rfl rfl (by omega)) ?_
                    refine xV rfl rfl rfl (v_move rfl) ?_
                    refine rl_split (s := 84) rfl (fun g20_3 => ?_) (fun g20_3 => ?_)
                    · try with_reducible exact ft_elim g20_3
                      all_goals
                        try replace g20_3 := of_decide_eq_true g20_3
                        simp at g20_3
                    · try with_reducible exact tf_elim g20_3
                      all_goals
                        try replace g20_3 := of_decide_eq_false g20_3
                        refine rl_vg (met_on rfl rfl rfl rfl) rfl rfl (S := fun _ => True) trivial (v_move rfl) ?_
                        refine rl_vg (met_on rfl rfl rfl rfl) rfl rfl (S := fun _ => True) trivial (v_move rfl) ?_
                        refine rl_vg (met_on rfl rfl rfl rfl) rfl rfl (S := fun _ => True) trivial (v_neqF rfl rfl (by omega)) ?_
                        refine xV rfl rfl rfl (v_pick_false rfl rfl) ?_
                        refine xV rfl rfl rfl (v_move rfl) ?_
                        refine rl_split (s := 89) rfl (fun g20_8 => ?_) (fun g20_8 => ?_)
                        · try with_reducible exact ft_elim g20_8
                          all_goals
                            try replace g20_8 := of_decide_eq_true g20_8
                            simp at g20_8
                        · try with_reducible exact tf_elim g20_8
                          all_goals
                            try replace g20_8 := of_decide_eq_false g20_8
                            refine rl_vg (met_on rfl rfl rfl rfl) rfl rfl (S := fun _ => True) trivial (v_move rfl) ?_
                            refine rl_kg (met_on rfl rfl rfl rfl) (k_callf Try.func23 rfl rfl rfl rfl ?_)
                            refine Calls.mono (free_calls (l := l) (m := m) (b := b) (c := c) (o := o) (ss := ss) (by omega) (hw.xQ)) ?_
                            rintro _ w ⟨fv2, rfl, hw⟩
                            refine ⟨_, rfl, ?_⟩
                            refine rl_vg (met_on rfl rfl rfl rfl) rfl rfl (S := fun _ => True) trivial (v_move rfl) ?_
                            refine rl_kg (met_on rfl rfl rfl rfl) (k_callf Try.func29 rfl rfl rfl rfl ?_)
                            refine Calls.mono (same_calls (xs := ofS 1 ss 0) (ys := ofS 1 ss 0) (hw.xQ)) ?_
                            rw [decide_eq_true rfl]
                            rintro _ w ⟨rfl, hw⟩
                            refine ⟨_, rfl, ?_⟩
                            refine rl_vg (met_on rfl rfl rfl rfl) rfl rfl (S := fun _ => True) trivial (v_not rfl) ?_
                            refine xV rfl rfl rfl (v_pick_false rfl rfl) ?_
                            refine rl_nil (g_le (xK (xK (xK (xK (xK (xK (xK (xK (xK (xK (xK (xK (xK (xK (xK (xK (xK (Fr.le_refl _)))))))))))))))))) ?_)
                            refine g_cond_false rfl ?_
                            refine g_skip (g_exit rfl ?_)
                            exact joinb2 (o, ss, md, pw, .slice pa2 qs.length pc2, .slice ra2 qs.length rc2, qs) _ _ (by repeat (first | exact Fr.le_nil _ | refine Fr.le_cons rfl ?_)) ⟨K, hsl, by simp only; omega, P, by simp only; omega, hw.xQ⟩
                · try with_reducible exact tf_elim h4
                  all_goals
                    try replace h4 := of_decide_eq_false h4
                    have hz := hw
                    clear hw
                    rcases hap with ⟨e, he, rfl, _⟩ | ⟨at_, hA⟩
                    · exact absurd he h4
                    have P2 := P.app K hA
                    obtain ⟨ra, rb, o2, ss2, md2, pw2⟩ := r
                    obtain ⟨hb0, K2, hp2, hl2, hv2, hat2, ha2, hu2, _, hs2, hway⟩ := hA
                    dsimp only at hb0 K2 hp2 hl2 hv2 hat2 ha2 hu2 hs2 hway P2 hz ⊢
                    subst hb0
                    subst hat2
                    dsimp only at hz ⊢
                    have hw := hz
                    have hu3 := K2.I.us _ (List.mem_of_getElem? (sgAt_some K2.I.o0 K2.I.o1))
                    have hu4 := K2.I.size
                    have hu5 := K.I.us _ (List.mem_of_getElem? (sgAt_some K.I.o0 K.I.o1))
                    have hu6 := K.I.size
                    have hk2 : o2 ≠ o → kindS ss2 o = 2 := fun hne => by
                      have h9 := sgAt_some (ss := ss2) K.I.o0 (by rw [hl2]; exact K.I.o1)
                      rw [hs2, putL_get K.I.o0 K.I.o1 K2.I.o0 (by rw [← hl2]; exact K2.I.o1), if_neg (by have := K.I.o0; omega), if_pos (by have := K.I.o0; omega)] at h9
                      unfold kindS; rw [if_pos ⟨K.I.o0, by rw [hl2]; exact K.I.o1⟩, hs2, ← Option.some.inj h9]
                    have hfz : o2 ≠ o → 0 < (ofS 1 ss 0).length ∧ ((ofS 1 ss 0).map (Value.int .i64))[0]? = some (.int .i64 o2) := fun hne => by
                      rcases hway with ⟨h, _⟩ | ⟨_, _, _, hk, hi⟩
                      · exact absurd h hne
                      · have hc : 0 < ss.countP (fun x => decide (x.kind = 1)) := List.countP_pos_iff.2 ⟨_, List.mem_of_getElem? (sgAt_some K2.I.o0 (by rw [← hl2]; exact K2.I.o1)), by simpa using hk⟩
                        refine ⟨by rw [ofS_len]; exact hc, ?_⟩
                        rw [List.getElem?_map, ofS_head ss 0 hc, ← hi]; rfl
                    have hway2 : (o2 = o ∧ at_ = (sgAt ss o).used) ∨ (o2 ≠ o ∧ at_ = 0 ∧ size - (sgAt ss o).used < x.bytes.size) := hway.elim .inl (fun h => .inr ⟨h.1, h.2.1, h.2.2.1⟩)
                    refine g_skip (g_seq (g_seq ?_))
                    refine g_region ?_
                    refine xV rfl rfl rfl (v_fieldAddr0 T.fld_58_2_2 rfl) ?_
                    refine rl_v rfl rfl rfl (by exact sat_cell hw (by (repeat first | with_reducible exact xH | apply xT); first | done | fail) rfl) (v_load T.scal_3 rfl) ?_
                    refine xV rfl rfl rfl (v_fieldAddr0 T.fld_72_1_1 rfl) ?_
                    refine rl_v rfl rfl rfl (by exact sat_cell hw (by (repeat first | with_reducible exact xH | apply xT); first | done | fail) rfl) (v_load T.scal_9 rfl) ?_
                    refine xV rfl rfl rfl (v_lenStr T.str_9 rfl) ?_
                    refine xV rfl rfl rfl (v_neqF rfl rfl (by omega)) ?_
                    refine xV rfl rfl rfl (v_move rfl) ?_
                    refine rl_split (s := 102) rfl (fun g22_6 => ?_) (fun g22_6 => ?_)
                    · try with_reducible exact ft_elim g22_6
                      all_goals
                        try replace g22_6 := of_decide_eq_true g22_6
                        simp at g22_6
                    · try with_reducible exact tf_elim g22_6
                      all_goals
                        try replace g22_6 := of_decide_eq_false g22_6
                        refine rl_vg (met_on rfl rfl rfl rfl) rfl rfl (S := fun _ => True) trivial (v_fieldAddr0 T.fld_58_0_0 rfl) ?_
                        refine rl_vg (met_on rfl rfl rfl rfl) rfl rfl (by exact sat_cell hw (by (repeat first | with_reducible exact xH | apply xT); first | done | fail) rfl) (v_load T.scal_3 rfl) ?_
                        refine rl_vg (met_on rfl rfl rfl rfl) rfl rfl (S := fun _ => True) trivial (v_move rfl) ?_
                        refine rl_vg (met_on rfl rfl rfl rfl) rfl rfl (S := fun _ => True) trivial (v_neqF rfl rfl (by omega)) ?_
                        refine xV rfl rfl rfl (v_pick_false rfl rfl) ?_
                        refine xV rfl rfl rfl (v_move rfl) ?_
                        refine rl_split (s := 108) rfl (fun g22_12 => ?_) (fun g22_12 => ?_)
                        · try with_reducible exact ft_elim g22_12
                          all_goals
                            try replace g22_12 := of_decide_eq_true g22_12
                            simp at g22_12
                        · try with_reducible exact tf_elim g22_12
                          all_goals
                            try replace g22_12 := of_decide_eq_false g22_12
                            refine rl_vg (met_on rfl rfl rfl rfl) rfl rfl (S := fun _ => True) trivial (v_fieldAddr0 T.fld_58_1_1 rfl) ?_
                            refine rl_vg (met_on rfl rfl rfl rfl) rfl rfl (by exact sat_cell hw (by (repeat first | with_reducible exact xH | apply xT); first | done | fail) rfl) (v_load T.scal_3 rfl) ?_
                            refine rl_vg (met_on rfl rfl rfl rfl) rfl rfl (S := fun _ => True) trivial (v_fieldAddr0 T.fld_58_2_2 rfl) ?_
                            refine rl_vg (met_on rfl rfl rfl rfl) rfl rfl (by exact sat_cell hw (by (repeat first | with_reducible exact xH | apply xT); first | done | fail) rfl) (v_load T.scal_3 rfl) ?_
                            refine rl_vg (met_on rfl rfl rfl rfl) rfl rfl (S := fun _ => True) trivial (v_add rfl rfl (by omega)) ?_
                            refine rl_vg (met_on rfl rfl rfl rfl) rfl rfl (S := fun _ => True) trivial (v_move rfl) ?_
                            refine rl_vg (met_on rfl rfl rfl rfl) rfl rfl (S := fun _ => True) trivial (v_neqF rfl rfl (by omega)) ?_
                            refine xV rfl rfl rfl (v_pick_false rfl rfl) ?_
                            refine xV rfl rfl rfl (v_move rfl) ?_
                            refine rl_split (s := 117) rfl (fun g22_21 => ?_) (fun g22_21 => ?_)
                            · try with_reducible exact ft_elim g22_21
                              all_goals
                                try replace g22_21 := of_decide_eq_true g22_21
                                simp at g22_21
                            · try with_reducible exact tf_elim g22_21
                              all_goals
                                try replace g22_21 := of_decide_eq_false g22_21
                                refine rl_vg (met_on rfl rfl rfl rfl) rfl rfl (S := fun _ => True) trivial (v_move rfl) ?_
                                refine rl_vg (met_on rfl rfl rfl rfl) rfl rfl (S := fun _ => True) trivial (v_move rfl) ?_
                                refine rl_vg (met_on rfl rfl rfl rfl) rfl rfl (S := fun _ => True) trivial (v_eql rfl rfl) ?_
                                refine rl_vg (met_on rfl rfl rfl rfl) rfl rfl (S := fun _ => True) trivial (v_move rfl) ?_
                                refine rl_split (s := 121) rfl (fun g22_25 => ?_) (fun g22_25 => ?_)
                                · try with_reducible exact ft_elim g22_25
                                  all_goals
                                    try replace g22_25 := of_decide_eq_true g22_25
                                    refine rl_vg (met_on rfl rfl rfl rfl) rfl rfl (S := fun _ => True) trivial (v_fieldAddr0 T.fld_58_1_1 rfl) ?_
                                    refine rl_vg (met_on rfl rfl rfl rfl) rfl rfl (by exact sat_cell hw (by (repeat first | with_reducible exact xH | apply xT); first | done | fail) rfl) (v_load T.scal_3 rfl) ?_
                                    refine rl_vg (met_on rfl rfl rfl rfl) rfl rfl (S := fun _ => True) trivial (v_move rfl) ?_
                                    refine rl_vg (met_on rfl rfl rfl rfl) rfl rfl (S := fun _ => True) trivial (v_neqF rfl rfl (by omega)) ?_
                                    refine rl_vg (met_on rfl rfl rfl rfl) rfl rfl (S := fun _ => True) trivial (v_pick_true rfl rfl) ?_
                                    refine xV rfl rfl rfl (v_pick_false rfl rfl) ?_
                                    refine xV rfl rfl rfl (v_move rfl) ?_
                                    refine rl_split (s := 128) rfl (fun g22_32 => ?_) (fun g22_32 => ?_)
                                    · try with_reducible exact ft_elim g22_32
                                      all_goals
                                        try replace g22_32 := of_decide_eq_true g22_32
                                        simp at g22_32
                                    · try with_reducible exact tf_elim g22_32
                                      all_goals
                                        try replace g22_32 := of_decide_eq_false g22_32
                                        refine rl_vg (met_on rfl rfl rfl rfl) rfl rfl (S := fun _ => True) trivial (v_move rfl) ?_
                                        refine rl_vg (met_on rfl rfl rfl rfl) rfl rfl (S := fun _ => True) trivial (v_move rfl) ?_
                                        refine rl_vg (met_on rfl rfl rfl rfl) rfl rfl (S := fun _ => True) trivial (v_neqF rfl rfl (by omega)) ?_
                                        refine rl_vg (met_on rfl rfl rfl rfl) rfl rfl (S := fun _ => True) trivial (v_move rfl) ?_
                                        refine rl_split (s := 132) rfl (fun g22_36 => ?_) (fun g22_36 => ?_)
                                        · try with_reducible exact ft_elim g22_36
                                          all_goals
                                            try replace g22_36 := of_decide_eq_true g22_36
                                            simp at g22_36
                                            omega
                                        · try with_reducible exact tf_elim g22_36
                                          all_goals
                                            try replace g22_36 := of_decide_eq_false g22_36
                                            refine rl_off (met_off rfl rfl rfl rfl rfl) rfl rfl ?_
                                            refine rl_off (met_off rfl rfl rfl rfl rfl) rfl rfl ?_
                                            refine rl_off (met_off rfl rfl rfl rfl rfl) rfl rfl ?_
                                            refine rl_off (met_off rfl rfl rfl rfl rfl) rfl rfl ?_
                                            refine rl_off (met_gone rfl rfl rfl rfl) rfl rfl ?_
                                            refine rl_off (met_gone rfl rfl rfl rfl) rfl rfl ?_
                                            refine rl_off (met_gone rfl rfl rfl rfl) rfl rfl ?_
                                            refine rl_off (met_gone rfl rfl rfl rfl) rfl rfl ?_
                                            refine rl_off (met_gone rfl rfl rfl rfl) rfl rfl ?_
                                            refine rl_off (met_off rfl rfl rfl rfl rfl) rfl rfl ?_
                                            refine rl_off (met_off rfl rfl rfl rfl rfl) rfl rfl ?_
                                            refine rl_off (met_gone rfl rfl rfl rfl) rfl rfl ?_
                                            refine rl_off (met_gone rfl rfl rfl rfl) rfl rfl ?_
                                            refine rl_off (met_gone rfl rfl rfl rfl) rfl rfl ?_
                                            refine rl_off (met_off rfl rfl rfl rfl rfl) rfl rfl ?_
                                            refine rl_off (met_off rfl rfl rfl rfl rfl) rfl rfl ?_
                                            refine rl_off (met_gone rfl rfl rfl rfl) rfl rfl ?_
                                            refine rl_off (met_gone rfl rfl rfl rfl) rfl rfl ?_
                                            refine rl_off (met_gone rfl rfl rfl rfl) rfl rfl ?_
                                            refine rl_off (met_gone rfl rfl rfl rfl) rfl rfl ?_
                                            refine rl_off (met_gone rfl rfl rfl rfl) rfl rfl ?_
                                            refine rl_off (met_gone rfl rfl rfl rfl) rfl rfl ?_
                                            refine rl_off (met_gone rfl rfl rfl rfl) rfl rfl ?_
                                            refine rl_off (met_off rfl rfl rfl rfl rfl) rfl rfl ?_
                                            refine rl_off (met_off rfl rfl rfl rfl rfl) rfl rfl ?_
                                            refine rl_off (met_gone rfl rfl rfl rfl) rfl rfl ?_
                                            refine rl_off (met_gone rfl rfl rfl rfl) rfl rfl ?_
                                            refine rl_off (met_gone rfl rfl rfl rfl) rfl rfl ?_
                                            refine rl_off (met_gone rfl rfl rfl rfl) rfl rfl ?_
                                            refine rl_off (met_off rfl rfl rfl rfl rfl) rfl rfl ?_
                                            refine rl_vg (met_on rfl rfl rfl rfl) rfl rfl (S := fun _ => True) trivial (v_pick_false rfl rfl) ?_
                                            refine xV rfl rfl rfl (v_pick_false rfl rfl) ?_
                                            refine rl_nil (g_le (xK (xK (xK (xK (xK (xK (xK (xK (xK (xK (xK (xK (xK (xK (xK (xK (xK (xK (xK (xK (xK (xK (xK (xK (xK (xK (xK (xK (xK (xK (xK (xK (xK (xK (xK (xK (xK (xK (xK (xK (xK (xK (xK (xK (xK (xK (xK (xK (xK (xK (xK (xK (xK (xK (xK (xK (xK (xK (xK (xK (xK (xK (xK (xK (xK (xK (xK (xK (xK (xK (xK (xK (xK (xK (xK (Fr.le_refl _)))))))))))))))))))))))))))))))))))))))))))))))))))))))))))))))))))))))))))) ?_)
                                            refine g_cond_false rfl ?_
                                            refine g_skip (g_seq ?_)
                                            have hlq : ((qs.map Prod.fst).flatMap Pl.cells).length = qs.length * 3 := own_len (hw.xP (A := OwnSl 58 3 (.slice pa2 qs.length pc2) qs.length ((qs.map Prod.fst).flatMap Pl.cells)))
                                            refine g_region ?_
                                            refine xV rfl rfl rfl (v_move rfl) ?_
                                            refine rl_v rfl rfl rfl (by exact sat_cells hw (by (repeat first | with_reducible exact xH | apply xT); first | done | fail) ⟨rfl, rfl, rfl, trivial⟩) (v_loadAgg (vs := [_, _, _]) T.agg_58_3 rfl rfl) ?_
                                            refine rl_k rfl (k_buildSlice (cells := [_, _, _]) hw T.sl_70_58_3 T.zero_58 rfl rfl rfl rfl rfl rfl (fun bk24_2 w hw => ?_))
                                            refine rl_k rfl (k_append (news := [_, _, _]) hw T.sl_70_58_3 T.zero_58 T.bytes_58_24 rfl (by decide) rfl rfl (by (repeat first | with_reducible exact xH | apply xT); first | done | fail) rfl (by exact sat_cells hw (by (repeat first | with_reducible exact xH | apply xT); first | done | fail) ⟨rfl, rfl, rfl, trivial⟩) (by simp [Value.oneCell']) (by omega) (by simp only [maxLen]; omega) rfl (fun vv24_3 w hw hnil => ?_))
                                            refine xV rfl rfl rfl (v_assign rfl) ?_
                                            refine rl_nil (g_le (xK (xK (xK (xK (xK (Fr.le_refl _)))))) ?_)
                                            have hlq2 : (qs.map fun q => Value.string q.2).length = qs.length * 1 := by simp
                                            refine g_region ?_
                                            refine xV rfl rfl rfl (v_move rfl) ?_
                                            refine xV rfl rfl rfl (v_fieldAddr0 T.fld_72_1_1 rfl) ?_
                                            refine rl_v rfl rfl rfl (by exact sat_cell hw (by (repeat first | with_reducible exact xH | apply xT); first | done | fail) rfl) (v_load T.scal_9 rfl) ?_
                                            refine rl_k rfl (k_buildSlice (cells := [_]) hw T.sl_54_9_1 T.zero_9 rfl rfl rfl rfl rfl rfl (fun bk25_3 w hw => ?_))
                                            refine rl_k rfl (k_append (news := [_]) hw T.sl_54_9_1 T.zero_9 T.bytes_9_16 rfl (by decide) rfl rfl (by (repeat first | with_reducible exact xH | apply xT); first | done | fail) rfl (by exact sat_cells hw (by (repeat first | with_reducible exact xH | apply xT); first | done | fail) ⟨rfl, trivial⟩) (by simp [Value.oneCell']) (by omega) (by simp only [maxLen]; omega) rfl (fun vv25_4 w hw hnil => ?_))
                                            refine xV rfl rfl rfl (v_assign rfl) ?_
                                            refine rl_nil (g_le (xK (xK (xK (xK (xK (xK (Fr.le_refl _))))))) ?_)
                                            refine g_inBlock ?_
                                            refine joinb2 (o2, ss2, md2, pw2, vv24_3, vv25_4, qs ++ [(⟨o2, at_, x.bytes.size⟩, x.bytes)]) _ _ (by repeat (first | exact Fr.le_nil _ | refine Fr.le_cons rfl ?_)) ⟨K2, by simp only; omega, by simp only; omega, P2, by simp only [List.length_append, List.length_singleton]; omega, ?_⟩
                                            dsimp only
                                            simp only [List.map_append, List.flatMap_append, List.length_append, List.map_cons, List.map_nil, List.flatMap_cons, List.flatMap_nil, List.append_nil, List.length_cons, List.length_nil, Nat.zero_add]
                                            exact hw.xQ
                                · try with_reducible exact tf_elim g22_25
                                  all_goals
                                    try replace g22_25 := of_decide_eq_false g22_25
                                    refine rl_off (met_off rfl rfl rfl rfl rfl) rfl rfl ?_
                                    refine rl_off (met_off rfl rfl rfl rfl rfl) rfl rfl ?_
                                    refine rl_off (met_off rfl rfl rfl rfl rfl) rfl rfl ?_
                                    refine rl_off (met_off rfl rfl rfl rfl rfl) rfl rfl ?_
                                    refine rl_vg (met_on rfl rfl rfl rfl) rfl rfl (S := fun _ => True) trivial (v_pick_false rfl rfl) ?_
                                    refine xV rfl rfl rfl (v_pick_false rfl rfl) ?_
                                    refine xV rfl rfl rfl (v_move rfl) ?_
                                    refine rl_vg (met_on rfl rfl rfl rfl) rfl rfl (S := fun _ => True) trivial (v_move rfl) ?_
                                    refine rl_vg (met_on rfl rfl rfl rfl) rfl rfl (S := fun _ => True) trivial (v_move rfl) ?_
                                    refine rl_vg (met_on rfl rfl rfl rfl) rfl rfl (S := fun _ => True) trivial (v_neqT rfl rfl (by omega)) ?_
                                    refine rl_vg (met_on rfl rfl rfl rfl) rfl rfl (S := fun _ => True) trivial (v_move rfl) ?_
                                    refine rl_split (s := 132) rfl (fun g22_36 => ?_) (fun g22_36 => ?_)
                                    · try with_reducible exact ft_elim g22_36
                                      all_goals
                                        try replace g22_36 := of_decide_eq_true g22_36
                                        have hne : o2 ≠ o := by omega
                                        obtain ⟨hfl, hfh⟩ := hfz hne
                                        have hkk := hk2 hne
                                        obtain ⟨fg, rfl⟩ := hfa hfl
                                        have hfh2 : ((ofS 1 ss 0).map (Value.int .i64))[0 + (0 : Int).toNat * 1]? = some (.int .i64 o2) := hfh
                                        refine rl_vg (met_on rfl rfl rfl rfl) rfl rfl (S := fun _ => True) trivial (v_move rfl) ?_
                                        refine rl_vg (met_on rfl rfl rfl rfl) rfl rfl (S := fun _ => True) trivial (v_lenSlice T.sl_61_3_1 rfl) ?_
                                        refine rl_vg (met_on rfl rfl rfl rfl) rfl rfl (S := fun _ => True) trivial (v_eqlF rfl rfl (by omega)) ?_
                                        refine rl_vg (met_on rfl rfl rfl rfl) rfl rfl (S := fun _ => True) trivial (v_move rfl) ?_
                                        refine rl_split (s := 136) rfl (fun g22_40 => ?_) (fun g22_40 => ?_)
                                        · try with_reducible exact ft_elim g22_40
                                          all_goals
                                            try replace g22_40 := of_decide_eq_true g22_40
                                            simp at g22_40
                                        · try with_reducible exact tf_elim g22_40
                                          all_goals
                                            try replace g22_40 := of_decide_eq_false g22_40
                                            refine rl_vg (met_on rfl rfl rfl rfl) rfl rfl (S := fun _ => True) trivial (v_move rfl) ?_
                                            refine rl_vg (met_on rfl rfl rfl rfl) rfl rfl (S := fun _ => True) trivial (v_move rfl) ?_
                                            refine rl_vg (met_on rfl rfl rfl rfl) rfl rfl (S := fun _ => True) trivial (v_indexAddr T.sl_61_3_1 rfl rfl (by omega) (by omega)) ?_
                                            refine rl_vg (met_on rfl rfl rfl rfl) rfl rfl (by exact own_cell hw (by (repeat first | with_reducible exact xH | apply xT); first | done | fail) (by first | rfl | assumption)) (v_load T.scal_3 rfl) ?_
                                            refine rl_vg (met_on rfl rfl rfl rfl) rfl rfl (S := fun _ => True) trivial (v_neqF rfl rfl (by omega)) ?_
                                            refine rl_vg (met_on rfl rfl rfl rfl) rfl rfl (S := fun _ => True) trivial (v_pick_false rfl rfl) ?_
                                            refine rl_vg (met_on rfl rfl rfl rfl) rfl rfl (S := fun _ => True) trivial (v_move rfl) ?_
                                            refine rl_split (s := 143) rfl (fun g22_47 => ?_) (fun g22_47 => ?_)
                                            · try with_reducible exact ft_elim g22_47
                                              all_goals
                                                try replace g22_47 := of_decide_eq_true g22_47
                                                simp at g22_47
                                            · try with_reducible exact tf_elim g22_47
                                              all_goals
                                                try replace g22_47 := of_decide_eq_false g22_47
                                                refine rl_vg (met_on rfl rfl rfl rfl) rfl rfl (S := fun _ => True) trivial (v_fieldAddr0 T.fld_58_1_1 rfl) ?_
                                                refine rl_vg (met_on rfl rfl rfl rfl) rfl rfl (by exact sat_cell hw (by (repeat first | with_reducible exact xH | apply xT); first | done | fail) rfl) (v_load T.scal_3 rfl) ?_
                                                refine rl_vg (met_on rfl rfl rfl rfl) rfl rfl (S := fun _ => True) trivial (v_neqF rfl rfl (by omega)) ?_
                                                refine rl_vg (met_on rfl rfl rfl rfl) rfl rfl (S := fun _ => True) trivial (v_pick_false rfl rfl) ?_
                                                refine rl_vg (met_on rfl rfl rfl rfl) rfl rfl (S := fun _ => True) trivial (v_move rfl) ?_
                                                refine rl_split (s := 148) rfl (fun g22_52 => ?_) (fun g22_52 => ?_)
                                                · try with_reducible exact ft_elim g22_52
                                                  all_goals
                                                    try replace g22_52 := of_decide_eq_true g22_52
                                                    simp at g22_52
                                                · try with_reducible exact tf_elim g22_52
                                                  all_goals
                                                    try replace g22_52 := of_decide_eq_false g22_52
                                                    refine rl_vg (met_on rfl rfl rfl rfl) rfl rfl (S := fun _ => True) trivial (v_move rfl) ?_
                                                    refine rl_vg (met_on rfl rfl rfl rfl) rfl rfl (S := fun _ => True) trivial (v_move rfl) ?_
                                                    refine rl_vg (met_on rfl rfl rfl rfl) rfl rfl (S := fun _ => True) trivial (v_sub rfl rfl (by omega)) ?_
                                                    refine rl_vg (met_on rfl rfl rfl rfl) rfl rfl (S := fun _ => True) trivial (v_fieldAddr0 T.fld_72_1_1 rfl) ?_
                                                    refine rl_vg (met_on rfl rfl rfl rfl) rfl rfl (by exact sat_cell hw (by (repeat first | with_reducible exact xH | apply xT); first | done | fail) rfl) (v_load T.scal_9 rfl) ?_
                                                    refine rl_vg (met_on rfl rfl rfl rfl) rfl rfl (S := fun _ => True) trivial (v_lenStr T.str_9 rfl) ?_
                                                    refine rl_vg (met_on rfl rfl rfl rfl) rfl rfl (S := fun _ => True) trivial (v_geqF rfl rfl (by omega)) ?_
                                                    refine rl_vg (met_on rfl rfl rfl rfl) rfl rfl (S := fun _ => True) trivial (v_pick_false rfl rfl) ?_
                                                    refine rl_vg (met_on rfl rfl rfl rfl) rfl rfl (S := fun _ => True) trivial (v_move rfl) ?_
                                                    refine rl_split (s := 157) rfl (fun g22_61 => ?_) (fun g22_61 => ?_)
                                                    · try with_reducible exact ft_elim g22_61
                                                      all_goals
                                                        try replace g22_61 := of_decide_eq_true g22_61
                                                        simp at g22_61
                                                    · try with_reducible exact tf_elim g22_61
                                                      all_goals
                                                        try replace g22_61 := of_decide_eq_false g22_61
                                                        refine rl_vg (met_on rfl rfl rfl rfl) rfl rfl (S := fun _ => True) trivial (v_move rfl) ?_
                                                        refine rl_vg (met_on rfl rfl rfl rfl) rfl rfl (S := fun _ => True) trivial (v_move rfl) ?_
                                                        refine rl_kg (met_on rfl rfl rfl rfl) (k_callf Try.func28 rfl rfl rfl rfl ?_)
                                                        refine Calls.mono (kindS_calls (l := l) (m := m) (b := b) (c := c) (o := o2) (ss := ss2) o (by omega) (hw.xQ)) ?_
                                                        rintro _ w ⟨rfl, hw⟩
                                                        refine ⟨_, rfl, ?_⟩
                                                        refine rl_vg (met_on rfl rfl rfl rfl) rfl rfl (S := fun _ => True) trivial (v_neqF rfl rfl (by omega)) ?_
                                                        refine rl_vg (met_on rfl rfl rfl rfl) rfl rfl (S := fun _ => True) trivial (v_pick_false rfl rfl) ?_
                                                        refine rl_vg (met_on rfl rfl rfl rfl) rfl rfl (S := fun _ => True) trivial (v_pick_true rfl rfl) ?_
                                                        refine xV rfl rfl rfl (v_pick_false rfl rfl) ?_
                                                        refine rl_nil (g_le (xK (xK (xK (xK (xK (xK (xK (xK (xK (xK (xK (xK (xK (xK (xK (xK (xK (xK (xK (xK (xK (xK (xK (xK (xK (xK (xK (xK (xK (xK (xK (xK (xK (xK (xK (xK (xK (xK (xK (xK (xK (xK (xK (xK (xK (xK (xK (xK (xK (xK (xK (xK (xK (xK (xK (xK (xK (xK (xK (xK (xK (xK (xK (xK (xK (xK (xK (xK (xK (xK (xK (xK (xK (xK (xK (xK (xK (xK (Fr.le_refl _))))))))))))))))))))))))))))))))))))))))))))))))))))))))))))))))))))))))))))))) ?_)
                                                        refine g_cond_false rfl ?_
                                                        refine g_skip (g_seq ?_)
                                                        have hlq : ((qs.map Prod.fst).flatMap Pl.cells).length = qs.length * 3 := own_len (hw.xP (A := OwnSl 58 3 (.slice pa2 qs.length pc2) qs.length ((qs.map Prod.fst).flatMap Pl.cells)))
                                                        refine g_region ?_
                                                        refine xV rfl rfl rfl (v_move rfl) ?_
                                                        refine rl_v rfl rfl rfl (by exact sat_cells hw (by (repeat first | with_reducible exact xH | apply xT); first | done | fail) ⟨rfl, rfl, rfl, trivial⟩) (v_loadAgg (vs := [_, _, _]) T.agg_58_3 rfl rfl) ?_
                                                        refine rl_k rfl (k_buildSlice (cells := [_, _, _]) hw T.sl_70_58_3 T.zero_58 rfl rfl rfl rfl rfl rfl (fun bk24_2 w hw => ?_))
                                                        refine rl_k rfl (k_append (news := [_, _, _]) hw T.sl_70_58_3 T.zero_58 T.bytes_58_24 rfl (by decide) rfl rfl (by (repeat first | with_reducible exact xH | apply xT); first | done | fail) rfl (by exact sat_cells hw (by (repeat first | with_reducible exact xH | apply xT); first | done | fail) ⟨rfl, rfl, rfl, trivial⟩) (by simp [Value.oneCell']) (by omega) (by simp only [maxLen]; omega) rfl (fun vv24_3 w hw hnil => ?_))
                                                        refine xV rfl rfl rfl (v_assign rfl) ?_
                                                        refine rl_nil (g_le (xK (xK (xK (xK (xK (Fr.le_refl _)))))) ?_)
                                                        have hlq2 : (qs.map fun q => Value.string q.2).length = qs.length * 1 := by simp
                                                        refine g_region ?_
                                                        refine xV rfl rfl rfl (v_move rfl) ?_
                                                        refine xV rfl rfl rfl (v_fieldAddr0 T.fld_72_1_1 rfl) ?_
                                                        refine rl_v rfl rfl rfl (by exact sat_cell hw (by (repeat first | with_reducible exact xH | apply xT); first | done | fail) rfl) (v_load T.scal_9 rfl) ?_
                                                        refine rl_k rfl (k_buildSlice (cells := [_]) hw T.sl_54_9_1 T.zero_9 rfl rfl rfl rfl rfl rfl (fun bk25_3 w hw => ?_))
                                                        refine rl_k rfl (k_append (news := [_]) hw T.sl_54_9_1 T.zero_9 T.bytes_9_16 rfl (by decide) rfl rfl (by (repeat first | with_reducible exact xH | apply xT); first | done | fail) rfl (by exact sat_cells hw (by (repeat first | with_reducible exact xH | apply xT); first | done | fail) ⟨rfl, trivial⟩) (by simp [Value.oneCell']) (by omega) (by simp only [maxLen]; omega) rfl (fun vv25_4 w hw hnil => ?_))
                                                        refine xV rfl rfl rfl (v_assign rfl) ?_
                                                        refine rl_nil (g_le (xK (xK (xK (xK (xK (xK (Fr.le_refl _))))))) ?_)
                                                        refine g_inBlock ?_
                                                        refine joinb2 (o2, ss2, md2, pw2, vv24_3, vv25_4, qs ++ [(⟨o2, at_, x.bytes.size⟩, x.bytes)]) _ _ (by repeat (first | exact Fr.le_nil _ | refine Fr.le_cons rfl ?_)) ⟨K2, by simp only; omega, by simp only; omega, P2, by simp only [List.length_append, List.length_singleton]; omega, ?_⟩
                                                        dsimp only
                                                        simp only [List.map_append, List.flatMap_append, List.length_append, List.map_cons, List.map_nil, List.flatMap_cons, List.flatMap_nil, List.append_nil, List.length_cons, List.length_nil, Nat.zero_add]
                                                        exact hw.xQ
                                    · try with_reducible exact tf_elim g22_36
                                      all_goals
                                        try replace g22_36 := of_decide_eq_false g22_36
                                        simp at g22_36
                                        omega
            · try with_reducible exact tf_elim h3
              all_goals
                try replace h3 := of_decide_eq_false h3
                refine g_seq (g_seq ?_)
                refine g_region ?_
                refine xV rfl rfl rfl (v_eql rfl rfl) ?_
                refine xV rfl rfl rfl (v_assign rfl) ?_
                refine rl_nil (g_le (xK (xK (Fr.le_refl _))) ?_)
                refine g_cond rfl (fun h7 => ?_) (fun h7 => ?_)
                · try with_reducible exact ft_elim h7
                  all_goals
                    try replace h7 := of_decide_eq_true h7
                    refine g_skip ?_
                    refine g_cond rfl (fun h8 => ?_) (fun h8 => ?_)
                    · try with_reducible exact ft_elim h8
                      all_goals
                        try replace h8 := of_decide_eq_true h8
                        refine g_seq ?_
                        refine g_region ?_
                        refine xV rfl rfl rfl (v_assign rfl) ?_
                        refine rl_nil (g_le (xK (Fr.le_refl _)) ?_)
                        refine g_seq ?_
                        refine g_region ?_
                        refine xV rfl rfl rfl (v_assign rfl) ?_
                        refine rl_nil (g_le (xK (Fr.le_refl _)) ?_)
                        refine g_seq (g_seq ?_)
                        refine g_region ?_
                        refine xV rfl rfl rfl (v_assign rfl) ?_
                        refine rl_nil (g_le (xK (Fr.le_refl _)) ?_)
                        refine g_block ?_
                        refine g_loopC (σ := Nat × Value × Value) (fun C z => (22, .int .i64 (z.1 : Nat)) :: (20, z.2.1) :: (21, z.2.2) :: C) [(0, _), (1, _), (2, _), (6, _), (8, _), (9, _), (10, _), (11, _), (12, _), (13, _), (14, _), (15, _), (46, _), (47, _), (48, _), (49, _), (52, _), (53, _), (54, _), (55, _), (56, _), (57, _), (58, _), (59, _), (60, _), (61, _), (62, _), (63, _), (64, _), (65, _), (66, _), (174, _), (175, _)] (by repeat (first | exact Fr.le_nil _ | refine Fr.le_cons rfl ?_)) (fun z w => z.1 ≤ qs.length ∧ Sat (envOf W) w (OwnSl 58 3 ((z.2.1)) ((thin (pickV x.a 3) (qs.take z.1) 0) : List Row14).length ((((thin (pickV x.a 3) (qs.take z.1) 0) : List Row14).map Prod.fst).flatMap Pl.cells) :: OwnSl 9 1 ((z.2.2)) ((thin (pickV x.a 3) (qs.take z.1) 0) : List Row14).length (((thin (pickV x.a 3) (qs.take z.1) 0) : List Row14).map fun q => Value.string q.2) :: pt bk12_4 (.cells [Value.int .i64 x.kind, .string x.bytes, .int .i64 x.a, .int .i64 x.b, .slice pa pn pc].toArray 72 (0, 0)) :: pt l (.cells [Value.pointer (some ⟨m, 0, none⟩), .int .i64 o, .slice (some ⟨b, 0, none⟩) (ss : List Sg).length c].toArray 47 (0, 0)) :: OwnSl 104 3 (.slice (some ⟨b, 0, none⟩) (ss).length c) (ss).length ((ss).flatMap Sg.cells) :: MdAt m p md :: PwAt p pw :: OwnSl 58 3 ((.slice pa2 qs.length pc2)) (qs : List Row14).length (((qs : List Row14).map Prod.fst).flatMap Pl.cells) :: OwnSl 9 1 ((.slice ra2 qs.length rc2)) (qs : List Row14).length ((qs : List Row14).map fun q => Value.string q.2) :: [RO (hpOf W)])) (fun z => qs.length - z.1) ?_ (0, .slice none 0 0, .slice none 0 0) (by repeat (first | exact Fr.le_nil _ | refine Fr.le_cons rfl ?_)) ⟨by simp, by dsimp only; simp only [List.take_zero, thin, List.map_nil, List.flatMap_nil, List.length_nil]; exact ((hw.own_nil 9 1).own_nil 58 3).xQ⟩
                        rintro ⟨k, kv, ov⟩ w ⟨hk, hw⟩ ih2
                        dsimp only at hk hw ih2 ⊢
                        refine g_seq (g_seq ?_)
                        refine g_region ?_
                        refine xV rfl rfl rfl (v_move rfl) ?_
                        refine xV rfl rfl rfl (v_move rfl) ?_
                        refine xV rfl rfl rfl (v_lenSlice T.sl_70_58_3 rfl) ?_
                        refine xV rfl rfl rfl (v_lss rfl rfl) ?_
                        refine rl_nil (g_le (xK (xK (xK (xK (Fr.le_refl _))))) ?_)
                        refine g_cond rfl (fun h9 => ?_) (fun h9 => ?_)
                        · try with_reducible exact ft_elim h9
                          all_goals
                            try replace h9 := of_decide_eq_true h9
                            refine g_skip (g_seq (g_block (g_seq ?_)))
                            have hkl : k < qs.length := by omega
                            obtain ⟨q, hq⟩ : ∃ q, qs[k]? = some q := ⟨_, List.getElem?_eq_getElem hkl⟩
                            have htk : qs.take (k + 1) = qs.take k ++ [q] := by rw [List.take_add_one, hq]; rfl
                            have hthn := thin_snoc (pickV x.a 3) q (qs.take k) 0
                            rw [← htk, List.length_take, Nat.min_eq_left (by omega), Int.zero_add] at hthn
                            have hthl : (thin (pickV x.a 3) (qs.take k) 0).length ≤ k := by have h9 := (thin_sub (pickV x.a 3) (qs.take k) 0).length_le; rw [List.length_take] at h9; omega
                            generalize thin (pickV x.a 3) (qs.take k) 0 = kp at hw hthn hthl
                            obtain ⟨ka, kc, rfl, _, _, _⟩ := (hw.xP (A := OwnSl 58 3 kv kp.length ((kp.map Prod.fst).flatMap Pl.cells))).own_shape
                            obtain ⟨oa, oc, rfl, _, _, _⟩ := (hw.xP (A := OwnSl 9 1 ov kp.length (kp.map fun q => Value.string q.2))).own_shape
                            obtain ⟨_, _, hpe, _, _, hpa⟩ := (hw.xP (A := OwnSl 58 3 (.slice pa2 qs.length pc2) qs.length ((qs.map Prod.fst).flatMap Pl.cells))).own_shape
                            obtain ⟨_, _, hre, _, _, hra⟩ := (hw.xP (A := OwnSl 9 1 (.slice ra2 qs.length rc2) qs.length (qs.map fun q => Value.string q.2))).own_shape
                            cases hpe
                            cases hre
                            obtain ⟨pg, rfl⟩ := hpa (by omega)
                            obtain ⟨rg, rfl⟩ := hra (by omega)
                            have hsub := subAt_flat (f := Pl.cells) (sz := 3) (fun _ => rfl) (show (qs.map Prod.fst)[k]? = some q.1 by rw [List.getElem?_map, hq]; rfl)
                            rw [show 0 + k * 3 = 0 + (k : Int).toNat * 3 by omega] at hsub
                            dsimp only [Pl.cells] at hsub
                            have hsr : (qs.map fun q => Value.string q.2)[0 + (k : Int).toNat * 1]? = some (.string q.2) := by rw [show 0 + (k : Int).toNat * 1 = k by omega, List.getElem?_map, hq]; rfl
                            have hlk : ((kp.map Prod.fst).flatMap Pl.cells).length = kp.length * 3 := own_len (hw.xP (A := OwnSl 58 3 (.slice ka kp.length kc) kp.length ((kp.map Prod.fst).flatMap Pl.cells)))
                            have hlk2 : (kp.map fun q => Value.string q.2).length = kp.length * 1 := by simp
                            refine g_region ?_
                            refine xV rfl rfl rfl (v_move rfl) ?_
                            refine xV rfl rfl rfl (v_remP rfl rfl (by omega) (by omega)) ?_
                            refine xV rfl rfl rfl (v_fieldAddr0 T.fld_72_2_2 rfl) ?_
                            refine rl_v rfl rfl rfl (by exact sat_cell hw (by (repeat first | with_reducible exact xH | apply xT); first | done | fail) rfl) (v_load T.scal_3 rfl) ?_
                            refine rl_k rfl (k_callf Try.func20 rfl rfl rfl rfl ?_)
                            refine Calls.mono (pickV_calls x.a 3 (by omega) (by omega) hw) ?_
                            rintro _ w ⟨rfl, hw⟩
                            refine ⟨_, rfl, ?_⟩
                            refine xV rfl rfl rfl (v_neq rfl rfl) ?_
                            refine rl_nil (g_le (xK (xK (xK (xK (xK (xK (Fr.le_refl _))))))) ?_)
                            refine g_cond rfl (fun h10 => ?_) (fun h10 => ?_)
                            · try with_reducible exact ft_elim h10
                              all_goals
                                try replace h10 := of_decide_eq_true h10
                                refine g_seq ?_
                                refine g_region ?_
                                refine xV rfl rfl rfl (v_move rfl) ?_
                                refine xV rfl rfl rfl (v_move rfl) ?_
                                refine xV rfl rfl rfl (v_move rfl) ?_
                                refine xV rfl rfl rfl (v_indexAddr T.sl_70_58_3 rfl rfl (by omega) (by omega)) ?_
                                refine rl_v rfl rfl rfl (by exact own_cells hw (by (repeat first | with_reducible exact xH | apply xT); first | done | fail) (by assumption)) (v_loadAgg (vs := [_, _, _]) T.agg_58_3 rfl rfl) ?_
                                refine rl_k rfl (k_buildSlice (cells := [_, _, _]) hw T.sl_70_58_3 T.zero_58 rfl rfl rfl rfl rfl rfl (fun bk34_5 w hw => ?_))
                                refine rl_k rfl (k_append (news := [_, _, _]) hw T.sl_70_58_3 T.zero_58 T.bytes_58_24 rfl (by decide) rfl rfl (by (repeat first | with_reducible exact xH | apply xT); first | done | fail) rfl (by exact sat_cells hw (by (repeat first | with_reducible exact xH | apply xT); first | done | fail) ⟨rfl, rfl, rfl, trivial⟩) (by simp [Value.oneCell']) (by omega) (by simp only [maxLen]; omega) rfl (fun vv34_6 w hw hnil => ?_))
                                refine xV rfl rfl rfl (v_assign rfl) ?_
                                refine rl_nil (g_le (xK (xK (xK (xK (xK (xK (xK (xK (Fr.le_refl _))))))))) ?_)
                                refine g_region ?_
                                refine xV rfl rfl rfl (v_move rfl) ?_
                                refine xV rfl rfl rfl (v_move rfl) ?_
                                refine xV rfl rfl rfl (v_move rfl) ?_
                                refine xV rfl rfl rfl (v_indexAddr T.sl_54_9_1 rfl rfl (by omega) (by omega)) ?_
                                refine rl_v rfl rfl rfl (by exact own_cell hw (by (repeat first | with_reducible exact xH | apply xT); first | done | fail) (by first | rfl | assumption)) (v_load T.scal_9 rfl) ?_
                                refine rl_k rfl (k_buildSlice (cells := [_]) hw T.sl_54_9_1 T.zero_9 rfl rfl rfl rfl rfl rfl (fun bk35_5 w hw => ?_))
                                refine rl_k rfl (k_append (news := [_]) hw T.sl_54_9_1 T.zero_9 T.bytes_9_16 rfl (by decide) rfl rfl (by (repeat first | with_reducible exact xH | apply xT); first | done | fail) rfl (by exact sat_cells hw (by (repeat first | with_reducible exact xH | apply xT); first | done | fail) ⟨rfl, trivial⟩) (by simp [Value.oneCell']) (by omega) (by simp only [maxLen]; omega) rfl (fun vv35_6 w hw hnil => ?_))
                                refine xV rfl rfl rfl (v_assign rfl) ?_
                                refine rl_nil (g_le (xK (xK (xK (xK (xK (xK (xK (xK (Fr.le_refl _))))))))) ?_)
                                refine g_inBlock ?_
                                refine g_region ?_
                                refine xV rfl rfl rfl (v_move rfl) ?_
                                refine xV rfl rfl rfl (v_add rfl rfl (by omega)) ?_
                                refine xV rfl rfl rfl (v_assign rfl) ?_
                                refine rl_nil (g_le (xK (xK (xK (Fr.le_refl _)))) ?_)
                                refine g_le (by repeat (first | exact Fr.le_nil _ | refine Fr.le_cons rfl ?_)) (ih2 (k + 1, vv34_6, vv35_6) w ⟨by simp only; omega, ?_⟩ (by simp only; omega))
                                rw [if_pos h10] at hthn
                                dsimp only
                                rw [hthn]
                                simp only [List.map_append, List.flatMap_append, List.length_append, List.map_cons, List.map_nil, List.flatMap_cons, List.flatMap_nil, List.append_nil, List.length_cons, List.length_nil, Nat.zero_add]
                                exact hw.xQ
                            · try with_reducible exact tf_elim h10
                              all_goals
                                try replace h10 := of_decide_eq_false h10
                                refine g_skip (g_inBlock ?_)
                                refine g_region ?_
                                refine xV rfl rfl rfl (v_move rfl) ?_
                                refine xV rfl rfl rfl (v_add rfl rfl (by omega)) ?_
                                refine xV rfl rfl rfl (v_assign rfl) ?_
                                refine rl_nil (g_le (xK (xK (xK (Fr.le_refl _)))) ?_)
                                refine g_le (by repeat (first | exact Fr.le_nil _ | refine Fr.le_cons rfl ?_)) (ih2 (k + 1, .slice ka kp.length kc, .slice oa kp.length oc) w ⟨by simp only; omega, ?_⟩ (by simp only; omega))
                                rw [if_neg (by simpa using h10), List.append_nil] at hthn
                                dsimp only
                                rw [hthn]
                                exact hw.xQ
                        · try with_reducible exact tf_elim h9
                          all_goals
                            try replace h9 := of_decide_eq_false h9
                            refine g_exit rfl (g_seq ?_)
                            obtain rfl : k = qs.length := by omega
                            rw [List.take_length] at hw
                            have hsub := thin_sub (pickV x.a 3) qs 0
                            obtain ⟨hfit, P2⟩ := P.settle hsub
                            have hkl := hsub.length_le
                            generalize thin (pickV x.a 3) qs 0 = kp at hw hsub hfit P2 hkl
                            have K2 := settle_k K hfit
                            have hsS := srcA_own (ps := kp.map Prod.fst) (by simp) (by omega) (hw.xP (A := OwnSl 58 3 kv kp.length ((kp.map Prod.fst).flatMap Pl.cells)))
                            refine g_region ?_
                            refine xV rfl rfl rfl (v_move rfl) ?_
                            refine xV rfl rfl rfl (v_move rfl) ?_
                            refine rl_k rfl (k_callf Try.func26 rfl rfl rfl rfl ?_)
                            refine Calls.mono (settle_fit (l := l) (m := m) (b := b) (c := c) (o := o) (ss := ss) (by omega) K.us' hsS (fun q hq => by have h8 := hfit.1 q hq; unfold within at h8; have h9 := usedS_bound K.us' q.seg h8.1 h8.2.1; omega) hfit (hw.xQ)) ?_
                            rintro _ w ⟨rfl, hw⟩
                            refine ⟨_, rfl, ?_⟩
                            refine xV rfl rfl rfl (v_assign rfl) ?_
                            refine rl_nil (g_le (xK (xK (xK (xK (Fr.le_refl _))))) ?_)
                            refine g_seq (g_seq ?_)
                            refine g_region ?_
                            refine xV rfl rfl rfl (v_move rfl) ?_
                            refine xV rfl rfl rfl (v_neqF rfl rfl (by omega)) ?_
                            refine rl_nil (g_le (xK (xK (Fr.le_refl _))) ?_)
                            refine g_cond_false rfl ?_
                            refine g_skip (g_seq ?_)
                            refine g_region ?_
                            refine xV rfl rfl rfl (v_move rfl) ?_
                            refine xV rfl rfl rfl (v_assign rfl) ?_
                            refine rl_nil (g_le (xK (xK (Fr.le_refl _))) ?_)
                            refine g_region ?_
                            refine xV rfl rfl rfl (v_move rfl) ?_
                            refine xV rfl rfl rfl (v_assign rfl) ?_
                            refine rl_nil (g_le (xK (xK (Fr.le_refl _))) ?_)
                            refine g_inBlock ?_
                            refine joinb2 (o, settled ss (kp.map Prod.fst), md, pw, kv, ov, kp) _ _ (by repeat (first | exact Fr.le_nil _ | refine Fr.le_cons rfl ?_)) ⟨K2, by simp only; rw [settled_len]; omega, by simp only; omega, P2, by simp only; omega, hw.xQ⟩
                    · try with_reducible exact tf_elim h8
                      all_goals
                        try replace h8 := of_decide_eq_false h8
                        refine g_skip (g_inBlock ?_)
                        exact joinb2 (o, ss, md, pw, .slice pa2 qs.length pc2, .slice ra2 qs.length rc2, qs) _ _ (by repeat (first | exact Fr.le_nil _ | refine Fr.le_cons rfl ?_)) ⟨K, hsl, by simp only; omega, P, by simp only; omega, hw.xQ⟩
                · try with_reducible exact tf_elim h7
                  all_goals
                    try replace h7 := of_decide_eq_false h7
                    refine g_region ?_
                    refine xV rfl rfl rfl (v_eql rfl rfl) ?_
                    refine xV rfl rfl rfl (v_assign rfl) ?_
                    refine rl_nil (g_le (xK (xK (Fr.le_refl _))) ?_)
                    refine g_cond rfl (fun h8 => ?_) (fun h8 => ?_)
                    · try with_reducible exact ft_elim h8
                      all_goals
                        try replace h8 := of_decide_eq_true h8
                        refine g_seq ?_
                        refine g_region ?_
                        refine xV rfl rfl rfl (v_assign rfl) ?_
                        refine rl_nil (g_le (xK (Fr.le_refl _)) ?_)
                        refine g_seq ?_
                        refine g_region ?_
                        refine xV rfl rfl rfl (v_assign rfl) ?_
                        refine rl_nil (g_le (xK (Fr.le_refl _)) ?_)
                        refine g_seq (g_seq ?_)
                        refine g_region ?_
                        refine xV rfl rfl rfl (v_assign rfl) ?_
                        refine rl_nil (g_le (xK (Fr.le_refl _)) ?_)
                        refine g_block ?_
                        refine g_loopC (σ := Nat × Value × Value) (fun C z => (22, .int .i64 (z.1 : Nat)) :: (20, z.2.1) :: (21, z.2.2) :: C) [(0, _), (1, _), (2, _), (6, _), (8, _), (9, _), (10, _), (11, _), (12, _), (13, _), (14, _), (15, _), (46, _), (47, _), (48, _), (49, _), (52, _), (53, _), (54, _), (55, _), (56, _), (57, _), (58, _), (59, _), (60, _), (61, _), (62, _), (63, _), (64, _), (65, _), (66, _), (174, _), (175, _), (176, _)] (by repeat (first | exact Fr.le_nil _ | refine Fr.le_cons rfl ?_)) (fun z w => z.1 ≤ qs.length ∧ Sat (envOf W) w (OwnSl 58 3 ((z.2.1)) ((thin (pickV x.a 3) (qs.take z.1) 0) : List Row14).length ((((thin (pickV x.a 3) (qs.take z.1) 0) : List Row14).map Prod.fst).flatMap Pl.cells) :: OwnSl 9 1 ((z.2.2)) ((thin (pickV x.a 3) (qs.take z.1) 0) : List Row14).length (((thin (pickV x.a 3) (qs.take z.1) 0) : List Row14).map fun q => Value.string q.2) :: pt bk12_4 (.cells [Value.int .i64 x.kind, .string x.bytes, .int .i64 x.a, .int .i64 x.b, .slice pa pn pc].toArray 72 (0, 0)) :: pt l (.cells [Value.pointer (some ⟨m, 0, none⟩), .int .i64 o, .slice (some ⟨b, 0, none⟩) (ss : List Sg).length c].toArray 47 (0, 0)) :: OwnSl 104 3 (.slice (some ⟨b, 0, none⟩) (ss).length c) (ss).length ((ss).flatMap Sg.cells) :: MdAt m p md :: PwAt p pw :: OwnSl 58 3 ((.slice pa2 qs.length pc2)) (qs : List Row14).length (((qs : List Row14).map Prod.fst).flatMap Pl.cells) :: OwnSl 9 1 ((.slice ra2 qs.length rc2)) (qs : List Row14).length ((qs : List Row14).map fun q => Value.string q.2) :: [RO (hpOf W)])) (fun z => qs.length - z.1) ?_ (0, .slice none 0 0, .slice none 0 0) (by repeat (first | exact Fr.le_nil _ | refine Fr.le_cons rfl ?_)) ⟨by simp, by dsimp only; simp only [List.take_zero, thin, List.map_nil, List.flatMap_nil, List.length_nil]; exact ((hw.own_nil 9 1).own_nil 58 3).xQ⟩
                        rintro ⟨k, kv, ov⟩ w ⟨hk, hw⟩ ih2
                        dsimp only at hk hw ih2 ⊢
                        refine g_seq (g_seq ?_)
                        refine g_region ?_
                        refine xV rfl rfl rfl (v_move rfl) ?_
                        refine xV rfl rfl rfl (v_move rfl) ?_
                        refine xV rfl rfl rfl (v_lenSlice T.sl_70_58_3 rfl) ?_
                        refine xV rfl rfl rfl (v_lss rfl rfl) ?_
                        refine rl_nil (g_le (xK (xK (xK (xK (Fr.le_refl _))))) ?_)
                        refine g_cond rfl (fun h9 => ?_) (fun h9 => ?_)
                        · try with_reducible exact ft_elim h9
                          all_goals
                            try replace h9 := of_decide_eq_true h9
                            refine g_skip (g_seq (g_block (g_seq ?_)))
                            have hkl : k < qs.length := by omega
                            obtain ⟨q, hq⟩ : ∃ q, qs[k]? = some q := ⟨_, List.getElem?_eq_getElem hkl⟩
                            have htk : qs.take (k + 1) = qs.take k ++ [q] := by rw [List.take_add_one, hq]; rfl
                            have hthn := thin_snoc (pickV x.a 3) q (qs.take k) 0
                            rw [← htk, List.length_take, Nat.min_eq_left (by omega), Int.zero_add] at hthn
                            have hthl : (thin (pickV x.a 3) (qs.take k) 0).length ≤ k := by have h9 := (thin_sub (pickV x.a 3) (qs.take k) 0).length_le; rw [List.length_take] at h9; omega
                            generalize thin (pickV x.a 3) (qs.take k) 0 = kp at hw hthn hthl
                            obtain ⟨ka, kc, rfl, _, _, _⟩ := (hw.xP (A := OwnSl 58 3 kv kp.length ((kp.map Prod.fst).flatMap Pl.cells))).own_shape
                            obtain ⟨oa, oc, rfl, _, _, _⟩ := (hw.xP (A := OwnSl 9 1 ov kp.length (kp.map fun q => Value.string q.2))).own_shape
                            obtain ⟨_, _, hpe, _, _, hpa⟩ := (hw.xP (A := OwnSl 58 3 (.slice pa2 qs.length pc2) qs.length ((qs.map Prod.fst).flatMap Pl.cells))).own_shape
                            obtain ⟨_, _, hre, _, _, hra⟩ := (hw.xP (A := OwnSl 9 1 (.slice ra2 qs.length rc2) qs.length (qs.map fun q => Value.string q.2))).own_shape
                            cases hpe
                            cases hre
                            obtain ⟨pg, rfl⟩ := hpa (by omega)
                            obtain ⟨rg, rfl⟩ := hra (by omega)
                            have hsub := subAt_flat (f := Pl.cells) (sz := 3) (fun _ => rfl) (show (qs.map Prod.fst)[k]? = some q.1 by rw [List.getElem?_map, hq]; rfl)
                            rw [show 0 + k * 3 = 0 + (k : Int).toNat * 3 by omega] at hsub
                            dsimp only [Pl.cells] at hsub
                            have hsr : (qs.map fun q => Value.string q.2)[0 + (k : Int).toNat * 1]? = some (.string q.2) := by rw [show 0 + (k : Int).toNat * 1 = k by omega, List.getElem?_map, hq]; rfl
                            have hlk : ((kp.map Prod.fst).flatMap Pl.cells).length = kp.length * 3 := own_len (hw.xP (A := OwnSl 58 3 (.slice ka kp.length kc) kp.length ((kp.map Prod.fst).flatMap Pl.cells)))
                            have hlk2 : (kp.map fun q => Value.string q.2).length = kp.length * 1 := by simp
                            refine g_region ?_
                            refine xV rfl rfl rfl (v_move rfl) ?_
                            refine xV rfl rfl rfl (v_remP rfl rfl (by omega) (by omega)) ?_
                            refine xV rfl rfl rfl (v_fieldAddr0 T.fld_72_2_2 rfl) ?_
                            refine rl_v rfl rfl rfl (by exact sat_cell hw (by (repeat first | with_reducible exact xH | apply xT); first | done | fail) rfl) (v_load T.scal_3 rfl) ?_
                            refine rl_k rfl (k_callf Try.func20 rfl rfl rfl rfl ?_)
                            refine Calls.mono (pickV_calls x.a 3 (by omega) (by omega) hw) ?_
                            rintro _ w ⟨rfl, hw⟩
                            refine ⟨_, rfl, ?_⟩
                            refine xV rfl rfl rfl (v_neq rfl rfl) ?_
                            refine rl_nil (g_le (xK (xK (xK (xK (xK (xK (Fr.le_refl _))))))) ?_)
                            refine g_cond rfl (fun h10 => ?_) (fun h10 => ?_)
                            · try with_reducible exact ft_elim h10
                              all_goals
                                try replace h10 := of_decide_eq_true h10
                                refine g_seq ?_
                                refine g_region ?_
                                refine xV rfl rfl rfl (v_move rfl) ?_
                                refine xV rfl rfl rfl (v_move rfl) ?_
                                refine xV rfl rfl rfl (v_move rfl) ?_
                                refine xV rfl rfl rfl (v_indexAddr T.sl_70_58_3 rfl rfl (by omega) (by omega)) ?_
                                refine rl_v rfl rfl rfl (by exact own_cells hw (by (repeat first | with_reducible exact xH | apply xT); first | done | fail) (by assumption)) (v_loadAgg (vs := [_, _, _]) T.agg_58_3 rfl rfl) ?_
                                refine rl_k rfl (k_buildSlice (cells := [_, _, _]) hw T.sl_70_58_3 T.zero_58 rfl rfl rfl rfl rfl rfl (fun bk34_5 w hw => ?_))
                                refine rl_k rfl (k_append (news := [_, _, _]) hw T.sl_70_58_3 T.zero_58 T.bytes_58_24 rfl (by decide) rfl rfl (by (repeat first | with_reducible exact xH | apply xT); first | done | fail) rfl (by exact sat_cells hw (by (repeat first | with_reducible exact xH | apply xT); first | done | fail) ⟨rfl, rfl, rfl, trivial⟩) (by simp [Value.oneCell']) (by omega) (by simp only [maxLen]; omega) rfl (fun vv34_6 w hw hnil => ?_))
                                refine xV rfl rfl rfl (v_assign rfl) ?_
                                refine rl_nil (g_le (xK (xK (xK (xK (xK (xK (xK (xK (Fr.le_refl _))))))))) ?_)
                                refine g_region ?_
                                refine xV rfl rfl rfl (v_move rfl) ?_
                                refine xV rfl rfl rfl (v_move rfl) ?_
                                refine xV rfl rfl rfl (v_move rfl) ?_
                                refine xV rfl rfl rfl (v_indexAddr T.sl_54_9_1 rfl rfl (by omega) (by omega)) ?_
                                refine rl_v rfl rfl rfl (by exact own_cell hw (by (repeat first | with_reducible exact xH | apply xT); first | done | fail) (by first | rfl | assumption)) (v_load T.scal_9 rfl) ?_
                                refine rl_k rfl (k_buildSlice (cells := [_]) hw T.sl_54_9_1 T.zero_9 rfl rfl rfl rfl rfl rfl (fun bk35_5 w hw => ?_))
                                refine rl_k rfl (k_append (news := [_]) hw T.sl_54_9_1 T.zero_9 T.bytes_9_16 rfl (by decide) rfl rfl (by (repeat first | with_reducible exact xH | apply xT); first | done | fail) rfl (by exact sat_cells hw (by (repeat first | with_reducible exact xH | apply xT); first | done | fail) ⟨rfl, trivial⟩) (by simp [Value.oneCell']) (by omega) (by simp only [maxLen]; omega) rfl (fun vv35_6 w hw hnil => ?_))
                                refine xV rfl rfl rfl (v_assign rfl) ?_
                                refine rl_nil (g_le (xK (xK (xK (xK (xK (xK (xK (xK (Fr.le_refl _))))))))) ?_)
                                refine g_inBlock ?_
                                refine g_region ?_
                                refine xV rfl rfl rfl (v_move rfl) ?_
                                refine xV rfl rfl rfl (v_add rfl rfl (by omega)) ?_
                                refine xV rfl rfl rfl (v_assign rfl) ?_
                                refine rl_nil (g_le (xK (xK (xK (Fr.le_refl _)))) ?_)
                                refine g_le (by repeat (first | exact Fr.le_nil _ | refine Fr.le_cons rfl ?_)) (ih2 (k + 1, vv34_6, vv35_6) w ⟨by simp only; omega, ?_⟩ (by simp only; omega))
                                rw [if_pos h10] at hthn
                                dsimp only
                                rw [hthn]
                                simp only [List.map_append, List.flatMap_append, List.length_append, List.map_cons, List.map_nil, List.flatMap_cons, List.flatMap_nil, List.append_nil, List.length_cons, List.length_nil, Nat.zero_add]
                                exact hw.xQ
                            · try with_reducible exact tf_elim h10
                              all_goals
                                try replace h10 := of_decide_eq_false h10
                                refine g_skip (g_inBlock ?_)
                                refine g_region ?_
                                refine xV rfl rfl rfl (v_move rfl) ?_
                                refine xV rfl rfl rfl (v_add rfl rfl (by omega)) ?_
                                refine xV rfl rfl rfl (v_assign rfl) ?_
                                refine rl_nil (g_le (xK (xK (xK (Fr.le_refl _)))) ?_)
                                refine g_le (by repeat (first | exact Fr.le_nil _ | refine Fr.le_cons rfl ?_)) (ih2 (k + 1, .slice ka kp.length kc, .slice oa kp.length oc) w ⟨by simp only; omega, ?_⟩ (by simp only; omega))
                                rw [if_neg (by simpa using h10), List.append_nil] at hthn
                                dsimp only
                                rw [hthn]
                                exact hw.xQ
                        · try with_reducible exact tf_elim h9
                          all_goals
                            try replace h9 := of_decide_eq_false h9
                            refine g_exit rfl (g_seq ?_)
                            obtain rfl : k = qs.length := by omega
                            rw [List.take_length] at hw
                            have hsub := thin_sub (pickV x.a 3) qs 0
                            obtain ⟨hfit, P2⟩ := P.settle hsub
                            have hkl := hsub.length_le
                            generalize thin (pickV x.a 3) qs 0 = kp at hw hsub hfit P2 hkl
                            have K2 := settle_k K hfit
                            have hsS := srcA_own (ps := kp.map Prod.fst) (by simp) (by omega) (hw.xP (A := OwnSl 58 3 kv kp.length ((kp.map Prod.fst).flatMap Pl.cells)))
                            refine g_region ?_
                            refine xV rfl rfl rfl (v_move rfl) ?_
                            refine xV rfl rfl rfl (v_move rfl) ?_
                            refine rl_k rfl (k_callf Try.func26 rfl rfl rfl rfl ?_)
                            refine Calls.mono (settle_fit (l := l) (m := m) (b := b) (c := c) (o := o) (ss := ss) (by omega) K.us' hsS (fun q hq => by have h8 := hfit.1 q hq; unfold within at h8; have h9 := usedS_bound K.us' q.seg h8.1 h8.2.1; omega) hfit (hw.xQ)) ?_
                            rintro _ w ⟨rfl, hw⟩
                            refine ⟨_, rfl, ?_⟩
                            refine xV rfl rfl rfl (v_assign rfl) ?_
                            refine rl_nil (g_le (xK (xK (xK (xK (Fr.le_refl _))))) ?_)
                            refine g_seq (g_seq ?_)
                            refine g_region ?_
                            refine xV rfl rfl rfl (v_move rfl) ?_
                            refine xV rfl rfl rfl (v_neqF rfl rfl (by omega)) ?_
                            refine rl_nil (g_le (xK (xK (Fr.le_refl _))) ?_)
                            refine g_cond_false rfl ?_
                            refine g_skip (g_seq ?_)
                            refine g_region ?_
                            refine xV rfl rfl rfl (v_move rfl) ?_
                            refine xV rfl rfl rfl (v_assign rfl) ?_
                            refine rl_nil (g_le (xK (xK (Fr.le_refl _))) ?_)
                            refine g_region ?_
                            refine xV rfl rfl rfl (v_move rfl) ?_
                            refine xV rfl rfl rfl (v_assign rfl) ?_
                            refine rl_nil (g_le (xK (xK (Fr.le_refl _))) ?_)
                            refine g_inBlock ?_
                            refine joinb2 (o, settled ss (kp.map Prod.fst), md, pw, kv, ov, kp) _ _ (by repeat (first | exact Fr.le_nil _ | refine Fr.le_cons rfl ?_)) ⟨K2, by simp only; rw [settled_len]; omega, by simp only; omega, P2, by simp only; omega, hw.xQ⟩
                    · try with_reducible exact tf_elim h8
                      all_goals
                        try replace h8 := of_decide_eq_false h8
                        refine g_skip (g_inBlock ?_)
                        exact joinb2 (o, ss, md, pw, .slice pa2 qs.length pc2, .slice ra2 qs.length rc2, qs) _ _ (by repeat (first | exact Fr.le_nil _ | refine Fr.le_cons rfl ?_)) ⟨K, hsl, by simp only; omega, P, by simp only; omega, hw.xQ⟩
      · try with_reducible exact tf_elim h2
        all_goals
          try replace h2 := of_decide_eq_false h2
          refine g_exit rfl (g_seq ?_)
          refine g_region ?_
          refine xV rfl rfl rfl (v_assign rfl) ?_
          refine rl_nil (g_le (xK (Fr.le_refl _)) ?_)
          refine g_ret1 Try.func6 rfl rfl ?_
          exact ⟨rfl, hw.xQ⟩

set_option maxRecDepth 100000 in
theorem SegmentThree_lifted (os : Os) (started : os.Started) (H : Type) (enc : TypeId × Value → H) :
    ReturnsInHanded {} Try.checked os 6 .any (Rows.segmentThreeSpec.pre6 enc Try.prog Try.f6 Rows.segmentThreeRow.domain false) (Rows.segmentThreeSpec.post enc Try.prog Try.f6 false true false false) := by
  refine returnsInHanded_of_change_sized (C := Try.checked) T.own started (by kernel_rfl) Try.func6
    (ChangeSpec.witness6 (enc := enc) (C := Try.checked) false ⟨#[], #[(.int .i64 0), (.int .i64 0), (.slice none 0 0)], []⟩ 8 (by kernel_rfl) (by kernel_rfl) (by kernel_rfl) (by kernel_rfl)) ?_
  intro W base args ds gs before hval0 hW hcnd hsz0 _
  have hval : ∀ (j : Nat) t v, Try.f6.params[j]? = some t → args[j]? = some v → Value.okWide Try.prog W .any base t v := hval0
  have hW' := hW
  obtain ⟨p, q, hA0, hV, rfl, hfz, hnd⟩ := hW
  have hA : DataW.TrodAll enc Try.prog W 0 (fun _ => true) true Try.f6.params.toList args.toList ds p := hA0
  obtain ⟨rfl, rfl⟩ := trodVars_none hV
  have hsz : (DataW.weightsEach Try.prog (Try.f6.params.toList ++ []) (ds ++ [])).all (· ≤ reachBytes) = true := hsz0
  rw [List.append_nil, List.append_nil] at hsz
  rw [Try.params6] at hA hval hsz
  obtain ⟨v0, vs0, d0, ds0, p0, q0, hargs, rfl, rfl, h0, r0⟩ := trodAll_cons hA
  obtain ⟨v1, vs1, d1, ds1, p1, q1, rfl, rfl, rfl, h1, r1⟩ := trodAll_cons r0
  obtain ⟨v2, vs2, d2, ds2, p2, q2, rfl, rfl, rfl, h2, r2⟩ := trodAll_cons r1
  obtain ⟨rfl, rfl, rfl⟩ := trodAll_nil r2
  obtain rfl : args = #[v0, v1, v2] := by cases args; simp_all
  have lt0 : ∀ x ∈ p0, x.block < W.heap.size := by obtain ⟨m, hm⟩ := h0; exact DataW.trod_lt m _ _ _ hm
  obtain ⟨x0, w0⟩ := arg_of (j := 0) (reads_int T.int_3_i64) h0 hsz rfl rfl
  have lt1 : ∀ x ∈ p1, x.block < W.heap.size := by obtain ⟨m, hm⟩ := h1; exact DataW.trod_lt m _ _ _ hm
  obtain ⟨x1, w1⟩ := arg_of (j := 1) (reads_int T.int_3_i64) h1 hsz rfl rfl
  have lt2 : ∀ x ∈ p2, x.block < W.heap.size := by obtain ⟨m, hm⟩ := h2; exact DataW.trod_lt m _ _ _ hm
  obtain ⟨x2, w2⟩ := arg_of (j := 2) (reads_sl T.sl_69_72_5 T.bytes_72_64 (by decide) reads_Op14) h2 hsz rfl rfl
  obtain ⟨n0, rfl⟩ := okWide_int Try.underlying3 (hval 0 3 v0 rfl rfl)
  obtain ⟨n1, rfl⟩ := okWide_int Try.underlying3 (hval 1 3 v1 rfl rfl)
  obtain ⟨a2, l2, c2, rfl⟩ := okWide_slice Try.underlying69 (hval 2 69 v2 rfl rfl)
  obtain ⟨hc0, hr0⟩ := w0
  cases hc0
  obtain ⟨hc1, hr1⟩ := w1
  cases hc1
  refine (SegmentThree_law hr0 hr1 w2).mono fun e W' ⟨he, hb⟩ => ?_
  have bel := hb.below
  subst he
  exact ⟨_, rfl, _, _, _, [], _, [], hW', trodAll_mk1 (shut_bool Try.underlying4 _), (trodAll_cons_mk (Below.trod T.laidOut (by kernel_rfl) (of_decide_eq_true (by kernel_rfl)) h0 bel lt0) (trodAll_cons_mk (Below.trod T.laidOut (by kernel_rfl) (of_decide_eq_true (by kernel_rfl)) h1 bel lt1) (trodAll_cons_mk (Below.trod T.laidOut (by kernel_rfl) (of_decide_eq_true (by kernel_rfl)) h2 bel lt2) trodAll_mk0))), rfl, bel.frame _, fun h => by cases h⟩
theorem SegmentThree_holds : Rows.SegmentThreeSaid :=
  OpenClaim.holds_of_wide 6 Try.f6 rfl rfl rfl rfl rfl rfl rfl ⟨rfl, rfl, rfl, rfl, rfl⟩ rfl rfl rfl rfl rfl (by kernel_rfl) Try.func6 (by kernel_rfl)
    (of_decide_eq_true (by kernel_rfl)) (by unfold Func.isWrapper; rw [if_neg (of_decide_eq_false (by kernel_rfl))]; exact ⟨rfl, rfl⟩)
    (fun os started H enc _ => SegmentThree_lifted os started H enc)
#print axioms SegmentThree_holds

end Go.Proofs.Ytipdklbedpkobaa
