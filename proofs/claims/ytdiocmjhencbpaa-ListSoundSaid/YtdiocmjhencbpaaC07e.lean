/-
  The search tree over any pages: what comes of a page with a secret put in.
-/
import Derived.Test.YtdiocmjhencbpaaC07d
namespace Go.Proofs.Ytdiocmjhencbpaa
set_option maxRecDepth 8000
set_option linter.unusedSimpArgs false
set_option linter.unusedVariables false
open Go Xe
theorem els_insert {g : Hp} {cells ecs : List Value} {es : List En} {e : En} (i : Nat) (h : Els rdEn 2 g cells es) (hi : i ≤ es.length) (hl : ecs.length = 2) (he : rdEn g ecs e) : Els rdEn 2 g (cells.take (i * 2) ++ ecs ++ cells.drop (i * 2)) (es.take i ++ [e] ++ es.drop i) :=
  ((h.take i hi).append (.one hl he)).append (h.drop i)
theorem kid_flat {ks : List Kd} {i : Nat} : (ks.flatMap Kd.cells).take (i * 5) = (ks.take i).flatMap Kd.cells := by
  induction i generalizing ks with
  | zero => simp
  | succ i ih =>
    cases ks with
    | nil => simp
    | cons k ks =>
      rw [List.flatMap_cons, List.take_succ_cons, List.flatMap_cons, ← ih, show (i + 1) * 5 = k.cells.length + i * 5 by simp; omega, List.take_length_add_append]
theorem kid_flat_drop {ks : List Kd} {i : Nat} : (ks.flatMap Kd.cells).drop (i * 5) = (ks.drop i).flatMap Kd.cells := by
  induction i generalizing ks with
  | zero => simp
  | succ i ih =>
    cases ks with
    | nil => simp
    | cons k ks =>
      rw [List.flatMap_cons, List.drop_succ_cons, ← ih, show (i + 1) * 5 = k.cells.length + i * 5 by simp; omega, List.drop_length_add_append]
theorem one_kids {ks : List Kd} : ∀ u ∈ ks.flatMap Kd.cells, u.oneCell' = true := by
  intro u hu
  obtain ⟨k, _, hk⟩ := List.mem_flatMap.1 hu
  simp only [Kd.cells, List.mem_cons, List.not_mem_nil, or_false] at hk
  rcases hk with rfl | rfl | rfl | rfl | rfl <;> simp [Value.oneCell']
theorem kids_len (ks : List Kd) : (ks.flatMap Kd.cells).length = ks.length * 5 := by
  induction ks with
  | nil => rfl
  | cons k ks ih => rw [List.flatMap_cons, List.length_append, ih]; simp; omega
theorem searchI_le {es : List En} {name : ByteArray} : searchI es name ≤ es.length := by
  have key : ∀ (d i j : Nat), j - i = d → i ≤ j → bsGo es name i j ≤ j := by
    intro d
    induction d using Nat.strongRecOn with
    | ind d ih =>
      intro i j hd hij
      by_cases h : i < j
      · rw [bsGo_lt h]
        split
        · exact ih (j - ((i + j) / 2 + 1)) (by omega) _ _ rfl (by omega)
        · exact Nat.le_trans (ih ((i + j) / 2 - i) (by omega) _ _ rfl (by omega)) (by omega)
      · rw [bsGo_ge h]; exact hij
  exact key _ 0 es.length rfl (Nat.zero_le _)
theorem ord_f58_r10_C07e : orderOfB Try.f58 10 [11] (.a 1 (.a 2 (.a 4 (.a 9 (.a 10 (.v 0 (.v 3 (.a 5 (.a 6 (.v 7 (.k 8 (.k 11 (.k 12 (.a 13 (.a 14 (.k 15 (.k 16 .done))))))))))))))))) = true := by kernel_rfl
set_option maxHeartbeats 2000000 in
theorem put_calls {τ : Type} (D : Pg τ) (k : Nat) : ∀ {E : Env} {w : World} {L : List As} {g : Hp} {s : τ} {A : As} (r : Rf) (_ : r.ok) {e : En} {ecs : List Value} (_ : rdEn g ecs e) (deep : Int) (_ : 0 ≤ deep) (_ : deep + k = 9) (_ : D.I g s A) (_ : Sat E w (A :: RO g :: L)),
    Calls Try.prog 58 #[.agg #[.iface D.t D.u], .agg r.cells.toArray, .agg ecs.toArray, .int .i64 deep] w fun v w' =>
    ∃ g' A' a c, g.le g' ∧ D.I g' (putO D.ops k s r e).2.2 A' ∧ v = .returned (.tuple #[.slice a (putO D.ops k s r e).1.length c, .int .i64 (putO D.ops k s r e).2.1]) ∧ (rdSl 56 3 rdNd) g' [.slice a (putO D.ops k s r e).1.length c] (putO D.ops k s r e).1 ∧ (∀ x ∈ (putO D.ops k s r e).1, x.small) ∧ Sat E w' (A' :: RO g' :: L) := by
  induction k using Nat.strongRecOn with
  | ind k ih =>
  intro E w L g s A r hr e ecs hecs deep hd0 hk hI hw
  obtain ⟨va, vn, vc, rfl, hre⟩ := en_told hecs
  refine calls_of_g (n := 102) Try.func58 rfl rfl rfl ?_
  change G _ _ _ _ _ [(0, _), (1, _), (2, _), (3, _)] _
  refine g_seq ?_
  refine g_region ?_
  refine rl_k rfl (k_box hw rfl rfl rfl (fun bk0_0 w hw => ?_))
  refine rl_k rfl (k_box hw rfl rfl rfl (fun bk0_1 w hw => ?_))
  refine rl_k rfl (k_box hw rfl rfl rfl (fun bk0_2 w hw => ?_))
  refine xV rfl rfl rfl (v_assign rfl) ?_
  refine xV rfl rfl rfl (v_assign rfl) ?_
  refine rl_nil (g_le (xK (xK (xK (xK (xK (Fr.le_refl _)))))) ?_)
  refine g_seq ?_
  refine g_region ?_
  refine rl_v rfl rfl rfl (by exact sat_cells hw (by (repeat first | with_reducible exact xH | apply xT); first | done | fail) ⟨rfl, trivial⟩) (v_loadAgg (vs := [_]) T.agg_101_1 rfl rfl) ?_
  refine rl_v rfl rfl rfl (by exact sat_cells hw (by (repeat first | with_reducible exact xH | apply xT); first | done | fail) ⟨rfl, rfl, rfl, rfl, trivial⟩) (v_loadAgg (vs := [_, _, _, _]) T.agg_26_4 rfl rfl) ?_
  refine xV rfl rfl rfl (v_move rfl) ?_
  refine rl_k rfl (k_callf Try.func63 rfl rfl rfl rfl ?_)
  refine Calls.mono (at_calls D r hr k deep hk hI (hw.xQ)) ?_
  generalize hq : atO D.ops k s r = q
  obtain ⟨x, bad, s1⟩ := q
  dsimp only
  rintro _ w ⟨g1, A1, ea, ec, ka, kc, cells, hg1, hI1, rfl, hels, hfine, hsm, hw⟩
  refine ⟨_, rfl, ?_⟩
  refine xV rfl rfl rfl (v_move rfl) ?_
  refine xV rfl rfl rfl (v_extract rfl rfl) ?_
  refine xV rfl rfl rfl (v_extract rfl rfl) ?_
  refine rl_k rfl (k_alloc hw T.zero_117 rfl rfl (fun bk1_7 w hw => ?_))
  refine rl_k rfl (k_storeWhole hw T.agg_117_3 rfl rfl (by simp [Value.oneCell']) rfl (by (repeat first | with_reducible exact xH | apply xT); first | done | fail) rfl (fun w hw => ?_))
  refine xV rfl rfl rfl (v_assign rfl) ?_
  refine rl_nil (g_le (xK (xK (xS rfl (xS rfl (xS rfl (xS rfl (xS rfl (xS rfl (xS rfl (Fr.le_refl _)))))))))) ?_)
  refine g_seq (g_seq ?_)
  refine g_region ?_
  refine xV rfl rfl rfl (v_move rfl) ?_
  refine xV rfl rfl rfl (v_neq rfl rfl) ?_
  refine rl_nil (g_le (xK (xS rfl (Fr.le_refl _))) ?_)
  refine g_cond rfl (fun h1 => ?_) (fun h1 => ?_)
  · try with_reducible exact ft_elim h1
    all_goals
      try replace h1 := of_decide_eq_true h1
      refine g_seq ?_
      refine g_region ?_
      refine xV rfl rfl rfl (v_move rfl) ?_
      refine xV rfl rfl rfl (v_assign rfl) ?_
      refine xV rfl rfl rfl (v_assign rfl) ?_
      refine rl_nil (g_le (xK (xK (xS rfl (Fr.le_refl _)))) ?_)
      refine g_ret2 Try.func58 rfl rfl rfl ?_
      rw [putO_bad D.ops hq h1]
      exact ⟨g1, A1, none, 0, hg1, hI1, rfl, rdSl_nil _, by simp, hw.xQ⟩
  · try with_reducible exact tf_elim h1
    all_goals
      try replace h1 := of_decide_eq_false h1
      obtain rfl : bad = 0 := by omega
      obtain ⟨q, rfl, hat⟩ := atO_zero D.ops hq
      have hsm1 := hsm.1
      have hsm2 := hsm.2.1
      have hsm3 := hsm.2.2.1
      have hsm4 := hsm.2.2.2
      refine g_skip (g_seq (g_seq ?_))
      refine g_region ?_
      refine xV rfl rfl rfl (v_fieldAddr0 T.fld_117_0_0 rfl) ?_
      refine xV rfl rfl rfl (v_fieldAddr0 T.fld_84_0_0 rfl) ?_
      refine rl_v rfl rfl rfl (by exact sat_cell hw (by (repeat first | with_reducible exact xH | apply xT); first | done | fail) rfl) (v_load T.scal_4 rfl) ?_
      refine rl_nil (g_le (xK (xS rfl (xS rfl (Fr.le_refl _)))) ?_)
      refine g_cutc (σ := Nd × Hp × τ × As × Option Addr × Nat × Option Addr × Nat × List Value) (fun C x => C) [(8, _), (9, _), (10, _)] (by repeat (first | exact Fr.le_nil _ | refine Fr.le_cons rfl ?_)) (fun z w => g.le z.2.1 ∧ D.I z.2.1 z.2.2.1 z.2.2.2.1 ∧ putO D.ops (q + 1) s r e = (splitN z.1, 0, z.2.2.1) ∧ Els rdEn 2 z.2.1 z.2.2.2.2.2.2.2.2 z.1.entries ∧ (∀ y ∈ z.1.kids, y.ok) ∧ z.1.mid ∧ (z.1.leaf = true → z.1.kids = []) ∧ (z.1.leaf = false → z.1.entries = []) ∧ Sat E w (pt bk1_7 (.cells [.bool z.1.leaf, .slice z.2.2.2.2.1 z.1.entries.length z.2.2.2.2.2.1, .slice z.2.2.2.2.2.2.1 z.1.kids.length z.2.2.2.2.2.2.2.1].toArray 117 (0, 0)) :: z.2.2.2.1 :: OwnSl 40 2 (.slice z.2.2.2.2.1 z.1.entries.length z.2.2.2.2.2.1) z.1.entries.length z.2.2.2.2.2.2.2.2 :: OwnSl 104 5 (.slice z.2.2.2.2.2.2.1 z.1.kids.length z.2.2.2.2.2.2.2.1) z.1.kids.length (z.1.kids.flatMap Kd.cells) :: RO z.2.1 :: L)) ?_ ?_
      · skip
        rintro ⟨x2, g2, s2, A2, ea2, ec2, ka2, kc2, cells2⟩ w ⟨jg, jI, jp, jels, jk, jm, jl1, jl2, hw⟩
        dsimp only at jg jI jp jels jk jm jl1 jl2 hw ⊢
        all_goals
          refine g_seq (g_seq ?_)
          obtain ⟨g3, hg3, hnd, hw⟩ := nd_stands jels jk jm (hw.xQ : Sat E w (RO g2 :: OwnSl 40 2 (.slice ea2 x2.entries.length ec2) x2.entries.length cells2 :: OwnSl 104 5 (.slice ka2 x2.kids.length kc2) x2.kids.length (x2.kids.flatMap Kd.cells) :: pt bk1_7 (.cells [.bool x2.leaf, .slice ea2 x2.entries.length ec2, .slice ka2 x2.kids.length kc2].toArray 117 (0, 0)) :: A2 :: L))
          have hss := split_small jm jl1 jl2
          refine g_region ?_
          refine rl_v rfl rfl rfl (by exact sat_cells hw (by (repeat first | with_reducible exact xH | apply xT); first | done | fail) ⟨rfl, rfl, rfl, trivial⟩) (v_loadAgg (vs := [_, _, _]) T.agg_117_3 rfl rfl) ?_
          refine rl_k rfl (k_callf Try.func70 rfl rfl rfl rfl ?_)
          refine Calls.mono (size_calls x2.leaf ea2 ka2 _ ec2 _ kc2 hw) ?_
          rw [show (if x2.leaf = true then x2.entries.length else x2.kids.length) = sizeN x2 from rfl]
          rintro _ w ⟨rfl, hw⟩
          refine ⟨_, rfl, ?_⟩
          refine xV rfl rfl rfl (v_gtr rfl rfl) ?_
          refine rl_nil (g_le (xK (xS rfl (xS rfl (Fr.le_refl _)))) ?_)
          refine g_cond rfl (fun h6 => ?_) (fun h6 => ?_)
          · try with_reducible exact ft_elim h6
            all_goals
              try replace h6 := of_decide_eq_true h6
              refine g_seq ?_
              refine g_region ?_
              refine rl_v rfl rfl rfl (by exact sat_cells hw (by (repeat first | with_reducible exact xH | apply xT); first | done | fail) ⟨rfl, rfl, rfl, trivial⟩) (v_loadAgg (vs := [_, _, _]) T.agg_117_3 rfl rfl) ?_
              refine rl_k rfl (k_callf Try.func71 rfl rfl rfl rfl ?_)
              refine Calls.mono (halves_calls hnd jm (hw.xQ)) ?_
              rintro _ w ⟨g4, ha, hc, hg4, rfl, hrd, hw⟩
              refine ⟨_, rfl, ?_⟩
              refine xV rfl rfl rfl (v_assign rfl) ?_
              refine xV rfl rfl rfl (v_assign rfl) ?_
              refine rl_nil (g_le (xK (xK (xS rfl (xS rfl (Fr.le_refl _))))) ?_)
              refine g_ret2 Try.func58 rfl rfl rfl ?_
              have e9 : splitN x2 = halvesN x2 := if_pos (by omega)
              have e8 : (halvesN x2).length = 2 := by unfold halvesN; split <;> rfl
              rw [e9] at jp hss
              rw [jp]
              dsimp only
              rw [e8]
              exact ⟨g4, A2, ha, hc, jg.trans (hg3.trans hg4), D.mono (hg3.trans hg4) jI, rfl, hrd, hss, hw.xQ⟩
          · try with_reducible exact tf_elim h6
            all_goals
              try replace h6 := of_decide_eq_false h6
              refine g_skip (g_seq ?_)
              refine g_region ?_
              refine rl_v rfl rfl rfl (by exact sat_cells hw (by (repeat first | with_reducible exact xH | apply xT); first | done | fail) ⟨rfl, rfl, rfl, trivial⟩) (v_loadAgg (vs := [_, _, _]) T.agg_117_3 rfl rfl) ?_
              refine rl_k rfl (k_buildSlice (cells := [_, _, _]) hw T.sl_108_117_3 T.zero_117 rfl rfl rfl rfl rfl rfl (fun bk19_1 w hw => ?_))
              refine xV rfl rfl rfl (v_assign rfl) ?_
              refine xV rfl rfl rfl (v_assign rfl) ?_
              refine rl_nil (g_le (xK (xK (xS rfl (xS rfl (Fr.le_refl _))))) ?_)
              refine g_ret2 Try.func58 rfl rfl rfl ?_
              have e9 : splitN x2 = [x2] := if_neg (by omega)
              obtain ⟨g4, hg4, hrd, hw⟩ := (hw.xQ : Sat E w (RO g3 :: pt bk19_1 (.cells [.bool x2.leaf, .slice ea2 x2.entries.length ec2, .slice ka2 x2.kids.length kc2].toArray 117 (0, 0)) :: A2 :: L)).freeze_lit (R := rdNd) (sz := 3) (bytes := 56) mono_Nd (Els.one rfl hnd) rfl (by simp [maxLen]) (by simp [reachBytes])
              rw [e9] at jp hss
              rw [jp]
              exact ⟨g4, A2, _, _, jg.trans (hg3.trans hg4), D.mono (hg3.trans hg4) jI, rfl, hrd, hss, hw.xQ⟩
      · intro joinc2
        refine g_cond rfl (fun h2 => ?_) (fun h2 => ?_)
        · try with_reducible exact ft_elim h2
          all_goals
            try replace h2 := of_decide_eq_true h2
            refine g_seq ?_
            refine g_region ?_
            refine rl_v rfl rfl rfl (by exact sat_cells hw (by (repeat first | with_reducible exact xH | apply xT); first | done | fail) ⟨rfl, rfl, rfl, trivial⟩) (v_loadAgg (vs := [_, _, _]) T.agg_117_3 rfl rfl) ?_
            refine xV rfl rfl rfl (v_fieldAddr0 T.fld_40_0_0 rfl) ?_
            refine rl_v rfl rfl rfl (by exact sat_cell hw (by (repeat first | with_reducible exact xH | apply xT); first | done | fail) rfl) (v_load T.scal_9 rfl) ?_
            refine rl_k rfl (k_callf Try.func66 rfl rfl rfl rfl ?_)
            refine Calls.mono (search_calls x.leaf e.name hels rfl (by omega) (hw.xQ)) ?_
            rintro _ w ⟨rfl, hw⟩
            refine ⟨_, rfl, ?_⟩
            refine xV rfl rfl rfl (v_move rfl) ?_
            refine xV rfl rfl rfl (v_extract rfl rfl) ?_
            refine xV rfl rfl rfl (v_extract rfl rfl) ?_
            refine xV rfl rfl rfl (v_assign rfl) ?_
            refine xV rfl rfl rfl (v_assign rfl) ?_
            refine rl_nil (g_le (xK (xK (xS rfl (xS rfl (xS rfl (xS rfl (xS rfl (xS rfl (xS rfl (Fr.le_refl _)))))))))) ?_)
            refine g_seq ?_
            refine g_region ?_
            refine xV rfl rfl rfl (v_move rfl) ?_
            refine rl_nil (g_le (xK (Fr.le_refl _)) ?_)
            refine g_cond rfl (fun h3 => ?_) (fun h3 => ?_)
            · try with_reducible exact ft_elim h3
              all_goals
                try replace h3 := of_decide_eq_true h3
                have hfi : searchI x.entries e.name < x.entries.length := by unfold searchB at h3; simp only [Bool.and_eq_true, decide_eq_true_eq] at h3; exact h3.1
                have hcl := hels.len
                have hst : 0 + ((searchI x.entries e.name : Nat) : Int).toNat * 2 + 2 ≤ cells.length := by omega
                have hin : insN x e = ⟨x.leaf, x.entries.set (searchI x.entries e.name) e, x.kids⟩ := by unfold insN; rw [if_pos h3]
                obtain ⟨a9, c9, hv9, _, _, ha9⟩ := (hw.xP (A := OwnSl 40 2 (.slice ea x.entries.length ec) x.entries.length cells)).own_shape
                simp only [Value.slice.injEq] at hv9
                obtain ⟨rfl, _, rfl⟩ := hv9
                have hz := hw
                clear hw
                obtain ⟨gb, rfl⟩ := ha9 (by omega)
                have hw := hz
                refine g_region ?_
                refine xV rfl rfl rfl (v_fieldAddr0 T.fld_117_0_0 rfl) ?_
                refine xV rfl rfl rfl (v_fieldAddr0 T.fld_84_1_1 rfl) ?_
                refine rl_v rfl rfl rfl (by exact sat_cell hw (by (repeat first | with_reducible exact xH | apply xT); first | done | fail) rfl) (v_load T.scal_33 rfl) ?_
                refine xV rfl rfl rfl (v_move rfl) ?_
                refine rl_v rfl rfl rfl (by exact sat_cells hw (by (repeat first | with_reducible exact xH | apply xT); first | done | fail) ⟨rfl, rfl, trivial⟩) (v_loadAgg (vs := [_, _]) T.agg_40_2 rfl rfl) ?_
                refine xV rfl rfl rfl (v_indexAddr T.sl_33_40_2 rfl rfl (by omega) (by omega)) ?_
                refine rl_k rfl (k_storeOwnAgg hw T.agg_40_2 rfl rfl (by simp [Value.oneCell']) rfl (by (repeat first | with_reducible exact xH | apply xT); first | done | fail) (by assumption) (by omega) (fun w hw => ?_))
                refine rl_nil (g_le (xS rfl (xS rfl (xS rfl (xS rfl (xS rfl (xS rfl (Fr.le_refl _))))))) ?_)
                exact joinc2 (⟨x.leaf, x.entries.set (searchI x.entries e.name) e, x.kids⟩, g1, s1, A1, some ⟨gb, 0, none⟩, ec, ka, kc, _) w _ (by repeat (first | exact Fr.le_nil _ | refine Fr.le_cons rfl ?_)) ⟨hg1, hI1, by rw [putO_leaf D.ops hat h2, hin], hels.set hfi rfl (mono_En hg1 hre), hfine.2.2.1, ⟨by simp only [List.length_set]; omega, by simp only; omega⟩, fun _ => hsm3 h2, fun (hh : x.leaf = false) => absurd (h2.symm.trans hh) (by simp), by dsimp only; rw [List.length_set]; simp only [Int.toNat_natCast, Nat.zero_add] at hw; exact hw.xQ⟩
            · try with_reducible exact tf_elim h3
              all_goals
                try replace h3 := of_decide_eq_false h3
                have hin : insN x e = ⟨x.leaf, x.entries.take (searchI x.entries e.name) ++ [e] ++ x.entries.drop (searchI x.entries e.name), x.kids⟩ := by unfold insN; rw [if_neg (by simp [h3])]
                refine g_region ?_
                refine xV rfl rfl rfl (v_fieldAddr0 T.fld_117_0_0 rfl) ?_
                refine xV rfl rfl rfl (v_fieldAddr0 T.fld_84_1_1 rfl) ?_
                refine rl_v rfl rfl rfl (by exact sat_cell hw (by (repeat first | with_reducible exact xH | apply xT); first | done | fail) rfl) (v_load T.scal_33 rfl) ?_
                refine xV rfl rfl rfl (v_move rfl) ?_
                refine rl_v rfl rfl rfl (by exact sat_cells hw (by (repeat first | with_reducible exact xH | apply xT); first | done | fail) ⟨rfl, rfl, trivial⟩) (v_loadAgg (vs := [_, _]) T.agg_40_2 rfl rfl) ?_
                refine rl_k rfl (k_buildSlice (cells := [_, _]) hw T.sl_33_40_2 T.zero_40 rfl rfl rfl rfl rfl rfl (fun bk8_5 w hw => ?_))
                refine rl_k rfl (k_callf Try.func67 rfl rfl rfl rfl ?_)
                refine Calls.mono (insertEn_calls (vcells := [.string e.name, .slice va vn vc]) (i := searchI x.entries e.name) searchI_le (by omega) (hels.ones one_En) rfl (by simp [Value.oneCell']) (((hw.xP (A := pt bk8_5 (.cells [.string e.name, .slice va vn vc].toArray 40 (0, 0)))).lit_own (sz := 2) (n := 1) rfl (by simp [maxLen])).xQ)) ?_
                rintro _ w ⟨v9, rfl, hw⟩
                obtain ⟨b9, c9, rfl, _, _, _⟩ := hw.own_shape
                refine ⟨_, rfl, ?_⟩
                refine xV rfl rfl rfl (v_fieldAddr0 T.fld_117_0_0 rfl) ?_
                refine xV rfl rfl rfl (v_fieldAddr0 T.fld_84_1_1 rfl) ?_
                refine rl_k rfl (k_store hw T.scal_33 rfl rfl rfl (by (repeat first | with_reducible exact xH | apply xT); first | done | fail) rfl (by simp only [List.set, Int.reduceToNat, Nat.reduceMul, Nat.reduceAdd]; rfl) (fun w hw => ?_))
                refine rl_nil (g_le (xS rfl (xS rfl (xS rfl (xS rfl (xS rfl (xS rfl (xS rfl (xS rfl (xS rfl (Fr.le_refl _)))))))))) ?_)
                have hle := searchI_le (es := x.entries) (name := e.name)
                have hnl : (x.entries.take (searchI x.entries e.name) ++ [e] ++ x.entries.drop (searchI x.entries e.name)).length = x.entries.length + 1 := by simp only [List.length_append, List.length_take, List.length_drop, List.length_cons, List.length_nil]; omega
                exact joinc2 (⟨x.leaf, x.entries.take (searchI x.entries e.name) ++ [e] ++ x.entries.drop (searchI x.entries e.name), x.kids⟩, g1, s1, A1, b9, c9, ka, kc, _) w _ (by repeat (first | exact Fr.le_nil _ | refine Fr.le_cons rfl ?_)) ⟨hg1, hI1, by rw [putO_leaf D.ops hat h2, hin], els_insert _ hels hle rfl (mono_En hg1 hre), hfine.2.2.1, ⟨by simp only [hnl]; omega, by simp only; omega⟩, fun _ => hsm3 h2, fun (hh : x.leaf = false) => absurd (h2.symm.trans hh) (by simp), by dsimp only; rw [hnl]; exact hw.xQ⟩
        · try with_reducible exact tf_elim h2
          all_goals
            try replace h2 := of_decide_eq_false h2
            have hk0 := at1_kids D.ops hat h2
            have hbl := belowN_lt hk0 e.name
            obtain ⟨i, hi⟩ : ∃ i, i = belowN x.kids e.name := ⟨_, rfl⟩
            rw [← hi] at hbl
            obtain ⟨y, hy⟩ : ∃ y, x.kids[i]? = some y := ⟨_, List.getElem?_eq_getElem hbl⟩
            have hyok := hfine.2.2.1 y (List.mem_of_getElem? hy)
            have hsub := subAt_flat (f := Kd.cells) (sz := 5) (fun _ => rfl) hy
            have hsubr : SubAt (x.kids.flatMap Kd.cells) (0 + (i : Int).toNat * 5 + 1) y.ref.cells := hsub.2
            have hgy : x.kids.getD (belowN x.kids e.name) kd0 = y := by rw [← hi, List.getD_eq_getElem?_getD, hy]; rfl
            obtain ⟨a9, c9, hv9, _, _, ha9⟩ := (hw.xP (A := OwnSl 104 5 (.slice ka x.kids.length kc) x.kids.length (x.kids.flatMap Kd.cells))).own_shape
            simp only [Value.slice.injEq] at hv9
            obtain ⟨rfl, _, rfl⟩ := hv9
            have hz := hw
            clear hw
            obtain ⟨gb, rfl⟩ := ha9 (by omega)
            have hw := hz
            refine g_seq ?_
            refine g_region ?_
            refine rl_v rfl rfl rfl (by exact sat_cells hw (by (repeat first | with_reducible exact xH | apply xT); first | done | fail) ⟨rfl, rfl, rfl, trivial⟩) (v_loadAgg (vs := [_, _, _]) T.agg_117_3 rfl rfl) ?_
            refine xV rfl rfl rfl (v_fieldAddr0 T.fld_40_0_0 rfl) ?_
            refine rl_v rfl rfl rfl (by exact sat_cell hw (by (repeat first | with_reducible exact xH | apply xT); first | done | fail) rfl) (v_load T.scal_9 rfl) ?_
            refine rl_k rfl (k_callf Try.func68 rfl rfl rfl rfl ?_)
            refine Calls.mono (below_calls e.name x.leaf ea (some ⟨gb, 0, none⟩) x.entries.length ec kc hk0 (by omega) (hw.xQ)) ?_
            rw [← hi]
            rintro _ w ⟨rfl, hw⟩
            refine ⟨_, rfl, ?_⟩
            refine xV rfl rfl rfl (v_assign rfl) ?_
            refine rl_nil (g_le (xK (xS rfl (xS rfl (xS rfl (xS rfl (Fr.le_refl _)))))) ?_)
            refine g_seq ?_
            have hw := hw.xP (A := A1)
            refine g_drawB ord_f58_r10_C07e (by kernel_rfl) T.mixed (fun w hw => (hw.pick .at0).drop) hw (fun w hw => ?_)
            refine rs_a 1 rfl rfl rfl rfl (v_fieldAddr0 T.fld_117_0_0 rfl) ?_
            refine rs_a 2 rfl rfl rfl rfl (v_fieldAddr0 T.fld_84_2_2 rfl) ?_
            refine rs_a 4 rfl rfl rfl rfl (v_move rfl) ?_
            refine rs_a 9 rfl rfl rfl rfl (v_move rfl) ?_
            refine rs_a 10 rfl rfl rfl rfl (v_add rfl rfl (by omega)) ?_
            refine rs_v 0 rfl rfl rfl rfl (OpV.mono (v_loadAgg (vs := [_]) T.agg_101_1 rfl rfl) (fun w hw => by exact sat_cells hw (by (repeat first | with_reducible exact xH | apply xT); first | done | fail) ⟨rfl, trivial⟩)) (by exact Sat.sub hw (by (repeat (first | with_reducible exact Sub.refl _ | exact Sub.nil _ | (apply Sub.cons; focus ((repeat (first | with_reducible exact Pick.here _ | apply Pick.there)); (first | done | fail))) | with_reducible apply Sub.drop)); first | done | fail)) ?_
            refine rs_v 3 rfl rfl rfl rfl (OpV.mono (v_load T.scal_82 rfl) (fun w hw => by exact sat_cell hw (by (repeat first | with_reducible exact xH | apply xT); first | done | fail) rfl)) (by exact Sat.sub hw (by (repeat (first | with_reducible exact Sub.refl _ | exact Sub.nil _ | (apply Sub.cons; focus ((repeat (first | with_reducible exact Pick.here _ | apply Pick.there)); (first | done | fail))) | with_reducible apply Sub.drop)); first | done | fail)) ?_
            refine rs_a 5 rfl rfl rfl rfl (v_indexAddr T.sl_82_104_5 rfl rfl (by omega) (by omega)) ?_
            refine rs_a 6 rfl rfl rfl rfl (v_fieldAddr T.fld_104_1_1 rfl) ?_
            refine rs_v 7 rfl rfl rfl rfl (OpV.mono (v_loadAgg (vs := [_, _, _, _]) T.agg_26_4 rfl rfl) (fun w hw => by exact own_cells hw (by (repeat first | with_reducible exact xH | apply xT); first | done | fail) (by assumption))) (by exact Sat.sub hw (by (repeat (first | with_reducible exact Sub.refl _ | exact Sub.nil _ | (apply Sub.cons; focus ((repeat (first | with_reducible exact Pick.here _ | apply Pick.there)); (first | done | fail))) | with_reducible apply Sub.drop)); first | done | fail)) ?_
            refine rs_kv 8 rfl rfl rfl rfl (by exact sat_cells hw (by (repeat first | with_reducible exact xH | apply xT); first | done | fail) ⟨rfl, rfl, trivial⟩) (v_loadAgg (vs := [_, _]) T.agg_40_2 rfl rfl) ?_
            refine rs_k 11 rfl rfl (k_callf Try.func58 rfl rfl rfl rfl ?_)
            refine Calls.mono (ih q (by omega) y.ref hyok.2 (mono_En hg1 hre) (deep + 1) (by omega) (by omega) hI1 (hw.xQ)) ?_
            generalize hp : putO D.ops q s1 y.ref e = pq
            obtain ⟨l, b2, s2⟩ := pq
            dsimp only
            rintro _ w ⟨g2, A2, pa, pc, hg2, hI2, rfl, hrd, hss, hw⟩
            refine ⟨_, rfl, ?_⟩
            refine ⟨fun hn => absurd (by decide) hn, ?_⟩
            refine rs_kv 12 rfl rfl rfl rfl (S' := fun _ => True) trivial (v_move rfl) ?_
            refine rs_a 13 rfl rfl rfl rfl (v_extract rfl rfl) ?_
            refine rs_a 14 rfl rfl rfl rfl (v_extract rfl rfl) ?_
            refine rs_kv 15 rfl rfl rfl rfl (S' := fun _ => True) trivial (v_assign rfl) ?_
            refine rs_kv 16 rfl rfl rfl rfl (S' := fun _ => True) trivial (v_assign rfl) ?_
            refine rs_done (g_le (xK (xK (xS rfl (xS rfl (xS rfl (xS rfl (xS rfl (xS rfl (xS rfl (xS rfl (xS rfl (xS rfl (xS rfl (xS rfl (xS rfl (xS rfl (xS rfl (Fr.le_refl _)))))))))))))))))) ?_)
            have hpi := putO_inner D.ops (k := q) (e := e) hat h2 (hgy ▸ hp)
            refine g_seq (g_seq ?_)
            refine g_region ?_
            refine xV rfl rfl rfl (v_move rfl) ?_
            refine xV rfl rfl rfl (v_neq rfl rfl) ?_
            refine rl_nil (g_le (xK (xS rfl (Fr.le_refl _))) ?_)
            refine g_cond rfl (fun h4 => ?_) (fun h4 => ?_)
            · try with_reducible exact ft_elim h4
              all_goals
                try replace h4 := of_decide_eq_true h4
                refine g_seq ?_
                refine g_region ?_
                refine xV rfl rfl rfl (v_move rfl) ?_
                refine xV rfl rfl rfl (v_assign rfl) ?_
                refine xV rfl rfl rfl (v_assign rfl) ?_
                refine rl_nil (g_le (xK (xK (xS rfl (Fr.le_refl _)))) ?_)
                refine g_ret2 Try.func58 rfl rfl rfl ?_
                rw [if_pos h4] at hpi
                rw [hpi]
                exact ⟨g2, A2, none, 0, hg1.trans hg2, hI2, rfl, rdSl_nil _, by simp, hw.xQ⟩
            · try with_reducible exact tf_elim h4
              all_goals
                try replace h4 := of_decide_eq_false h4
                obtain rfl : b2 = 0 := by omega
                have hln := putO_len D.ops q (s := s1) (r := y.ref) (e := e) (by rw [hp])
                rw [hp] at hln
                dsimp only at hln
                rw [if_neg h4] at hpi
                refine g_skip (g_seq ?_)
                refine g_region ?_
                refine rl_v rfl rfl rfl (by exact sat_cells hw (by (repeat first | with_reducible exact xH | apply xT); first | done | fail) ⟨rfl, trivial⟩) (v_loadAgg (vs := [_]) T.agg_101_1 rfl rfl) ?_
                refine xV rfl rfl rfl (v_move rfl) ?_
                refine rl_k rfl (k_callf Try.func60 rfl rfl rfl rfl ?_)
                refine Calls.mono (lay_calls D hrd hss (by omega) hI2 (hw.xQ)) ?_
                generalize hly : layO D.ops s2 l [] = lq at hpi ⊢
                obtain ⟨ks, b3, s3⟩ := lq
                dsimp only at hpi ⊢
                rintro _ w ⟨g3, A3, qa, qc, hg3, hI3, rfl, hkok, hkl, hw⟩
                refine ⟨_, rfl, ?_⟩
                refine xV rfl rfl rfl (v_move rfl) ?_
                refine xV rfl rfl rfl (v_extract rfl rfl) ?_
                refine xV rfl rfl rfl (v_extract rfl rfl) ?_
                refine xV rfl rfl rfl (v_assign rfl) ?_
                refine xV rfl rfl rfl (v_assign rfl) ?_
                refine rl_nil (g_le (xK (xK (xS rfl (xS rfl (xS rfl (xS rfl (xS rfl (xS rfl (Fr.le_refl _))))))))) ?_)
                refine g_seq (g_seq ?_)
                refine g_region ?_
                refine xV rfl rfl rfl (v_move rfl) ?_
                refine xV rfl rfl rfl (v_neq rfl rfl) ?_
                refine rl_nil (g_le (xK (xS rfl (Fr.le_refl _))) ?_)
                refine g_cond rfl (fun h5 => ?_) (fun h5 => ?_)
                · try with_reducible exact ft_elim h5
                  all_goals
                    try replace h5 := of_decide_eq_true h5
                    refine g_seq ?_
                    refine g_region ?_
                    refine xV rfl rfl rfl (v_move rfl) ?_
                    refine xV rfl rfl rfl (v_assign rfl) ?_
                    refine xV rfl rfl rfl (v_assign rfl) ?_
                    refine rl_nil (g_le (xK (xK (xS rfl (Fr.le_refl _)))) ?_)
                    refine g_ret2 Try.func58 rfl rfl rfl ?_
                    rw [if_pos h5] at hpi
                    rw [hpi]
                    exact ⟨g3, A3, none, 0, (hg1.trans hg2).trans hg3, hI3, rfl, rdSl_nil _, by simp, hw.xQ⟩
                · try with_reducible exact tf_elim h5
                  all_goals
                    try replace h5 := of_decide_eq_false h5
                    obtain rfl : b3 = 0 := by omega
                    rw [if_neg h5, ← hi] at hpi
                    have hle9 := layO_len D.ops l s2 [] (by rw [hly])
                    rw [hly] at hle9
                    simp only [List.length_nil, Nat.zero_add] at hle9
                    obtain ⟨a8, c8, hv8, _, _, ha8⟩ := (hw.xP (A := OwnSl 104 5 (.slice qa ks.length qc) ks.length (ks.flatMap Kd.cells))).own_shape
                    simp only [Value.slice.injEq] at hv8
                    obtain ⟨rfl, _, rfl⟩ := hv8
                    have hz := hw
                    clear hw
                    obtain ⟨vb, rfl⟩ := ha8 (by omega)
                    have hw := hz
                    refine g_skip ?_
                    refine g_region ?_
                    refine xV rfl rfl rfl (v_fieldAddr0 T.fld_117_0_0 rfl) ?_
                    refine xV rfl rfl rfl (v_fieldAddr0 T.fld_84_2_2 rfl) ?_
                    refine rl_v rfl rfl rfl (by exact sat_cell hw (by (repeat first | with_reducible exact xH | apply xT); first | done | fail) rfl) (v_load T.scal_82 rfl) ?_
                    refine xV rfl rfl rfl (v_move rfl) ?_
                    refine xV rfl rfl rfl (v_move rfl) ?_
                    refine xV rfl rfl rfl (v_add rfl rfl (by omega)) ?_
                    refine xV rfl rfl rfl (v_move rfl) ?_
                    refine rl_k rfl (k_callf Try.func69 rfl rfl rfl rfl ?_)
                    refine Calls.mono (replaceKd_calls (i := i) (j := i + 1) (m := ks.length) (by omega) (by omega) (by omega) (by omega) (by omega) one_kids (kids_len ks) one_kids (hw.xQ)) ?_
                    rintro _ w ⟨v9, rfl, hw⟩
                    obtain ⟨b9, c9, rfl, _, _, _⟩ := hw.own_shape
                    refine ⟨_, rfl, ?_⟩
                    refine xV rfl rfl rfl (v_fieldAddr0 T.fld_117_0_0 rfl) ?_
                    refine xV rfl rfl rfl (v_fieldAddr0 T.fld_84_2_2 rfl) ?_
                    refine rl_k rfl (k_store hw T.scal_82 rfl rfl rfl (by (repeat first | with_reducible exact xH | apply xT); first | done | fail) rfl (by simp only [List.set, Int.reduceToNat, Nat.reduceMul, Nat.reduceAdd]; rfl) (fun w hw => ?_))
                    refine rl_nil (g_le (xS rfl (xS rfl (xS rfl (xS rfl (xS rfl (xS rfl (xS rfl (xS rfl (xS rfl (xS rfl (Fr.le_refl _))))))))))) ?_)
                    have hnl : (x.kids.take i ++ ks ++ x.kids.drop (i + 1)).length = i + ks.length + (x.kids.length - (i + 1)) := by simp only [List.length_append, List.length_take, List.length_drop]; omega
                    rw [kid_flat, kid_flat_drop, ← List.flatMap_append, ← List.flatMap_append] at hw
                    exact joinc2 (reN x i (i + 1) ks, g3, s3, A3, ea, ec, b9, c9, cells) w _ (by repeat (first | exact Fr.le_nil _ | refine Fr.le_cons rfl ?_)) ⟨(hg1.trans hg2).trans hg3, hI3, hpi, hels.mono mono_En (hg2.trans hg3), fun z hz => by simp only [reN, List.mem_append] at hz; rcases hz with (hz | hz) | hz; exact hfine.2.2.1 z (List.mem_of_mem_take hz); exact hkok z hz; exact hfine.2.2.1 z (List.mem_of_mem_drop hz), ⟨by simp only [reN]; omega, by simp only [reN, hnl]; omega⟩, fun (hh : x.leaf = true) => absurd (h2.symm.trans hh) (by simp), fun _ => hsm4 h2, by dsimp only [reN]; rw [hnl]; exact hw.xQ⟩
end Go.Proofs.Ytdiocmjhencbpaa
