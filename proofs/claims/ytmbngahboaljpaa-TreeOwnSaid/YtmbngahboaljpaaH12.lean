/-
  The laws' helper shows: a tree has just these secrets.
-/
import Derived.Test.YtmbngahboaljpaaH11
namespace Go.Proofs.Ytmbngahboaljpaa
set_option maxRecDepth 8000
set_option linter.unusedSimpArgs false
set_option linter.unusedVariables false
open Go Xe
def preE (now : List Sn) (k : Nat) : List En := (now.take k).flatMap fun x => x.node.entries
theorem preE_succ {now : List Sn} {k : Nat} {x : Sn} (h : now[k]? = some x) : preE now (k + 1) = preE now k ++ x.node.entries := by
  unfold preE
  rw [List.take_add_one, h]; simp
theorem preE_split {now : List Sn} {k : Nat} {x : Sn} (h : now[k]? = some x) : (now.flatMap fun x => x.node.entries) = preE now k ++ (x.node.entries ++ (now.drop (k + 1)).flatMap fun x => x.node.entries) := by
  obtain ⟨h1, h2⟩ := List.getElem?_eq_some_iff.1 h
  unfold preE
  rw [← List.flatMap_cons (f := fun x : Sn => x.node.entries), ← List.flatMap_append, ← h2, ← List.drop_eq_getElem_cons h1, List.take_append_drop]
theorem preE_all {now : List Sn} {k : Nat} (h : now.length ≤ k) : preE now k = now.flatMap fun x => x.node.entries := by unfold preE; rw [List.take_of_length_le h]
theorem preE_len {now : List Sn} {k : Nat} : (preE now k).length ≤ (now.flatMap fun x => x.node.entries).length := by
  have e : now = now.take k ++ now.drop k := (List.take_append_drop k now).symm
  conv => rhs; rw [e]
  rw [List.flatMap_append, List.length_append]; exact Nat.le_add_right _ _
theorem sec_told {g : Hp} {ecs : List Value} {o : Op7} (h : rdEn g ecs (secO o)) : ∃ b of_ cap, ecs = [.string o.name, .slice (some ⟨b, of_, none⟩) 1 cap] ∧ (rdSl 40 3 rdVn) g [.slice (some ⟨b, of_, none⟩) 1 cap] [⟨1, o.value, ByteArray.empty⟩] := by
  obtain ⟨c0, c1, rfl, ⟨h0, _⟩, h1⟩ := h
  simp only [List.cons.injEq, and_true] at h0
  subst h0
  have h2 := h1
  rcases h1 with ⟨a, _, h3⟩ | ⟨b, o', cap, h3, _⟩
  · simp [secO] at h3
  · simp only [List.cons.injEq, and_true, secO] at h3
    subst h3
    exact ⟨b, o', cap, rfl, h2⟩
theorem ord_f25_r23_H12 : orderOfB Try.f25 23 [] (.k 0 (.k 1 (.k 2 (.k 3 (.k 4 (.k 5 (.k 6 (.a 7 (.a 9 (.v 8 (.k 10 (.k 11 (.k 12 (.k 13 (.k 14 (.k 15 (.k 16 (.k 17 (.k 18 (.k 19 (.a 20 (.a 25 (.v 21 (.a 22 (.a 23 (.v 24 (.k 26 (.k 27 (.k 28 .done))))))))))))))))))))))))))))) = true := by kernel_rfl
set_option maxHeartbeats 4000000 in
theorem shows_calls {E : Env} {w : World} {L : List As} {g : Hp} {h : Nat} {s : List Nd} {A : As} {root : Rf} {hh : Nat} {u : Un hh} {la : Option Addr} {ln lc : Nat} {l : List Op7} (hl : (rdSl 72 5 rdOp7) g [.slice la ln lc] l) (m : MapOf l (entsU hh u)) (t : TreeAt s root hh u) (h8 : hh < 8) (hr : root.ok) (hI : HeapI h g s A) (hw : Sat E w (A :: RO g :: L)) :
    Calls Try.prog 25 #[.pointer (some ⟨h, 0, none⟩), .agg root.cells.toArray, .slice la ln lc] w fun v w' => ∃ g' A', g.le g' ∧ HeapI h g' s A' ∧ v = .returned (.bool true) ∧ Sat E w' (A' :: RO g' :: L) := by
  obtain ⟨rfl, hlb, hlc, hlm, _⟩ := rdSl_get hl
  simp only [reachBytes] at hlb
  have hml := m.len
  refine calls_of_g (n := 175) Try.func25 rfl rfl rfl ?_
  change G _ _ _ _ _ [(0, _), (1, _), (2, _)] _
  refine g_seq ?_
  refine g_region ?_
  refine rl_k rfl (k_box hw rfl rfl rfl (fun bk0_0 w hw => ?_))
  refine xV rfl rfl rfl (v_assign rfl) ?_
  refine rl_nil (g_le (xK (xK (Fr.le_refl _))) ?_)
  refine g_seq ?_
  refine g_region ?_
  refine xV rfl rfl rfl (v_move rfl) ?_
  refine xV rfl rfl rfl (v_mkIface T.ptr_26 rfl) ?_
  refine rl_v rfl rfl rfl (by exact sat_cells hw (by (repeat first | with_reducible exact xH | apply xT); first | done | fail) ⟨rfl, rfl, rfl, rfl, trivial⟩) (v_loadAgg (vs := [_, _, _, _]) T.agg_25_4 rfl rfl) ?_
  refine rl_k rfl (k_callf Try.func23 rfl rfl rfl rfl ?_)
  refine Calls.mono (tall_calls t h8 hr hI (hw.xQ)) ?_
  rintro _ w ⟨g1, A1, sa, sc, hg1, hI1, rfl, hnow, hw⟩
  refine ⟨_, rfl, ?_⟩
  refine xV rfl rfl rfl (v_move rfl) ?_
  refine xV rfl rfl rfl (v_extract rfl rfl) ?_
  refine xV rfl rfl rfl (v_extract rfl rfl) ?_
  refine xV rfl rfl rfl (v_assign rfl) ?_
  refine xV rfl rfl rfl (v_assign rfl) ?_
  refine rl_nil (g_le (xK (xK (xS rfl (xS rfl (xS rfl (xS rfl (xS rfl (xS rfl (xS rfl (Fr.le_refl _)))))))))) ?_)
  refine g_seq (g_seq ?_)
  refine g_region ?_
  refine xV rfl rfl rfl (v_move rfl) ?_
  refine xV rfl rfl rfl (v_neqF rfl rfl (by omega)) ?_
  refine rl_nil (g_le (xK (xS rfl (Fr.le_refl _))) ?_)
  refine g_cond_false rfl ?_
  refine g_skip (g_seq ?_)
  have hse := seen_ents hh 1 root u
  have hlf := seen_leaf (h := hh) (d := 1) (r := root) (u := u)
  generalize hnw : seenU hh 1 root u = now at hnow hse hlf
  obtain ⟨_, hnb, _, _, gn⟩ := rdSl_get hnow
  simp only [reachBytes] at hnb
  refine g_region ?_
  refine xV rfl rfl rfl (v_assign rfl) ?_
  refine rl_nil (g_le (xK (Fr.le_refl _)) ?_)
  refine g_seq ?_
  refine g_region ?_
  refine xV rfl rfl rfl (v_assign rfl) ?_
  refine rl_nil (g_le (xK (Fr.le_refl _)) ?_)
  refine g_seq (g_seq ?_)
  refine g_region ?_
  refine xV rfl rfl rfl (v_move rfl) ?_
  refine xV rfl rfl rfl (v_lenSlice T.sl_57_61_8 rfl) ?_
  refine xV rfl rfl rfl (v_move rfl) ?_
  refine rl_nil (g_le (xK (xK (xK (Fr.le_refl _)))) ?_)
  refine g_block ?_
  refine g_loopC (σ := Int × ByteArray × Int) (fun C x => (38, .int .i64 x.1) :: (9, .string x.2.1) :: (10, .int .i64 x.2.2) :: C) [(0, _), (2, _), (4, _), (6, _), (36, _), (37, _)] (by repeat (first | exact Fr.le_nil _ | refine Fr.le_cons rfl ?_)) (fun z w => 0 ≤ z.1 ∧ z.1 ≤ now.length ∧ z.2.1 = lastN (preE now z.1.toNat) ∧ z.2.2 = (preE now z.1.toNat).length ∧ Sat E w (A1 :: pt bk0_0 (.cells root.cells.toArray 25 (0, 0)) :: RO g1 :: L)) (fun z => (now.length - z.1).toNat) ?_ (0, ByteArray.empty, 0) (by repeat (first | exact Fr.le_nil _ | refine Fr.le_cons rfl ?_)) ⟨by simp, by simp, by simp [preE, lastN], by simp [preE], hw.xQ⟩
  rintro ⟨k, last, many⟩ w ⟨hk0, hk1, hla, hmn, hw⟩ ih
  dsimp only at hk0 hk1 hla hmn hw ih ⊢
  refine g_seq ?_
  refine g_region ?_
  refine xV rfl rfl rfl (v_lss rfl rfl) ?_
  refine rl_nil (g_le (xK (Fr.le_refl _)) ?_)
  refine g_seq ?_
  refine g_cond rfl (fun h2 => ?_) (fun h2 => ?_)
  · try with_reducible exact ft_elim h2
    all_goals
      try replace h2 := of_decide_eq_true h2
      refine g_skip (g_seq (g_block (g_seq ?_)))
      have hz := hw
      clear hw
      obtain ⟨b5, o5, x, xcs, rfl, hx, hat5, hl5, hrdx⟩ := gn k hk0 (by omega)
      obtain ⟨xa, xn, xc, xk, xkn, xkc, rfl, hndx⟩ := sn_told hrdx
      obtain ⟨n0, n1, n2, hq9, _, hqe, hqk⟩ := id hndx
      simp only [List.cons.injEq, and_true] at hq9
      obtain ⟨rfl, rfl, rfl⟩ := hq9
      obtain ⟨rfl, hxb, _, _, ge⟩ := rdSl_get hqe
      simp only [reachBytes] at hxb
      have hsp := preE_split hx
      rw [hse] at hsp
      have hpl := preE_len (now := now) (k := k.toNat)
      have hpl2 := preE_len (now := now) (k := k.toNat + 1)
      rw [preE_succ hx, List.length_append] at hpl2
      rw [hse] at hpl hpl2
      have hw := hz
      refine g_region ?_
      refine xV rfl rfl rfl (v_indexAddr T.sl_57_61_8 rfl rfl (by omega) (by omega)) ?_
      refine rl_v rfl rfl rfl (by exact ro_ats hw (by (repeat first | with_reducible exact xH | apply xT); first | done | fail) (by assumption)) (v_loadAgg (vs := [_, _, _, _, _, _, _, _]) T.agg_61_8 rfl rfl) ?_
      refine rl_k rfl (k_alloc hw T.zero_61 rfl rfl (fun bk8_2 w hw => ?_))
      refine rl_k rfl (k_storeWhole hw T.agg_61_8 rfl rfl (by simp [Value.oneCell']) rfl (by (repeat first | with_reducible exact xH | apply xT); first | done | fail) rfl (fun w hw => ?_))
      refine rl_nil (g_le (xK (xK (xK (Fr.le_refl _)))) ?_)
      refine g_seq (g_seq ?_)
      refine g_region ?_
      refine xV rfl rfl rfl (v_fieldAddr0 T.fld_61_2_5 rfl) ?_
      refine xV rfl rfl rfl (v_fieldAddr T.fld_32_1_1 rfl) ?_
      refine rl_v rfl rfl rfl (by exact sat_cell hw (by (repeat first | with_reducible exact xH | apply xT); first | done | fail) rfl) (v_load T.scal_29 rfl) ?_
      refine xV rfl rfl rfl (v_lenSlice T.sl_29_49_2 rfl) ?_
      refine xV rfl rfl rfl (v_move rfl) ?_
      refine rl_nil (g_le (xK (xK (xK (xK (xK (Fr.le_refl _)))))) ?_)
      refine g_block ?_
      refine g_loopC (σ := Int × ByteArray) (fun C x => (46, .int .i64 x.1) :: (9, .string x.2) :: C) [(0, _), (2, _), (4, _), (6, _), (10, _), (12, _), (36, _), (37, _), (38, _), (39, _), (40, _), (41, _), (42, _), (43, _), (44, _), (45, _)] (by repeat (first | exact Fr.le_nil _ | refine Fr.le_cons rfl ?_)) (fun z w => 0 ≤ z.1 ∧ z.1 ≤ x.node.entries.length ∧ z.2 = lastN (preE now k.toNat ++ x.node.entries.take z.1.toNat) ∧ Sat E w (A1 :: pt bk8_2 (.cells [.int .i64 x.deep, .int .u64 x.ref.key, .int .i64 x.ref.seg, .int .i64 x.ref.off, .int .i64 x.ref.len, .bool x.node.leaf, .slice xa x.node.entries.length xc, .slice xk xkn xkc].toArray 61 (0, 0)) :: pt bk0_0 (.cells root.cells.toArray 25 (0, 0)) :: RO g1 :: L)) (fun z => (x.node.entries.length - z.1).toNat) ?_ (0, last) (by repeat (first | exact Fr.le_nil _ | refine Fr.le_cons rfl ?_)) ⟨by simp, by simp, by simpa using hla, hw.xQ⟩
      rintro ⟨i, last2⟩ w ⟨hi0, hi1, hla2, hw⟩ ih2
      dsimp only at hi0 hi1 hla2 hw ih2 ⊢
      refine g_seq ?_
      refine g_region ?_
      refine xV rfl rfl rfl (v_lss rfl rfl) ?_
      refine rl_nil (g_le (xK (Fr.le_refl _)) ?_)
      refine g_seq ?_
      refine g_cond rfl (fun h3 => ?_) (fun h3 => ?_)
      · try with_reducible exact ft_elim h3
        all_goals
          try replace h3 := of_decide_eq_true h3
          refine g_skip (g_seq (g_block (g_seq ?_)))
          have hz := hw
          clear hw
          obtain ⟨b6, o6, e, ecs, rfl, he, hat6, hl6, hrde⟩ := ge i hi0 (by omega)
          have hem : e ∈ entsU hh u := by rw [hsp]; simp [List.mem_of_getElem? he]
          obtain ⟨o, hho, heo⟩ := m.of_ent hem
          have hlf1 := hlf x (List.mem_of_getElem? hx) (by intro h9; rw [h9] at he; simp at he)
          obtain ⟨h9a, h9b⟩ := List.getElem?_eq_some_iff.1 he
          have hsp2 : entsU hh u = (preE now k.toNat ++ x.node.entries.take i.toNat) ++ e :: (x.node.entries.drop (i.toNat + 1) ++ (now.drop (k.toNat + 1)).flatMap fun x => x.node.entries) := by rw [hsp]; (conv => lhs; rw [← List.take_append_drop i.toNat x.node.entries, List.drop_eq_getElem_cons h9a, h9b]); simp only [List.append_assoc, List.cons_append]
          have hste : x.node.entries.take (i + 1).toNat = x.node.entries.take i.toNat ++ [e] := by rw [show (i + 1).toNat = i.toNat + 1 by omega, List.take_add_one, he]; rfl
          have hlt9 : 0 < many + i → sl last2 e.name = true := fun h9 => by rw [hla2]; exact lastN_lt (by rw [← hsp2]; exact m.1) (by rw [List.length_append, List.length_take]; omega)
          subst heo
          obtain ⟨vb, vo, vc, rfl, hvn⟩ := sec_told hrde
          obtain ⟨_, _, _, _, gv⟩ := rdSl_get hvn
          obtain ⟨b7, o7, v7, vcs, hv7, hv8, hat7, hl7, rfl, hvok⟩ := gv 0 (by omega) (by simp)
          simp only [Option.some.injEq, Addr.mk.injEq, and_true] at hv7
          obtain ⟨rfl, rfl⟩ := hv7
          simp only [Int.toNat_zero, List.getElem?_cons_zero, Option.some.injEq] at hv8
          subst hv8
          rw [secO_name] at hho hlt9
          have hw := hz
          refine g_region ?_
          refine xV rfl rfl rfl (v_move rfl) ?_
          refine xV rfl rfl rfl (v_indexAddr T.sl_29_49_2 rfl rfl (by omega) (by omega)) ?_
          refine rl_v rfl rfl rfl (by exact ro_ats hw (by (repeat first | with_reducible exact xH | apply xT); first | done | fail) (by assumption)) (v_loadAgg (vs := [_, _]) T.agg_49_2 rfl rfl) ?_
          refine rl_k rfl (k_alloc hw T.zero_49 rfl rfl (fun bk11_3 w hw => ?_))
          refine xV rfl rfl rfl (v_assign rfl) ?_
          refine rl_k rfl (k_storeWhole hw T.agg_49_2 rfl rfl (by simp [Value.oneCell']) rfl (by (repeat first | with_reducible exact xH | apply xT); first | done | fail) rfl (fun w hw => ?_))
          refine rl_nil (g_le (xK (xK (xK (xK (xK (Fr.le_refl _)))))) ?_)
          refine g_seq ?_
          refine g_region ?_
          refine xV rfl rfl rfl (v_move rfl) ?_
          refine xV rfl rfl rfl (v_fieldAddr0 T.fld_49_0_0 rfl) ?_
          refine rl_v rfl rfl rfl (by exact sat_cell hw (by (repeat first | with_reducible exact xH | apply xT); first | done | fail) rfl) (v_load T.scal_9 rfl) ?_
          refine rl_k rfl (k_callf Try.func31 rfl rfl rfl rfl ?_)
          refine Calls.mono (has_calls o.name (mono_sl mono_Op7 hg1 hl) (hw.xQ)) ?_
          rw [hho]
          simp only [Option.map_some, Option.isSome_some, Option.getD_some]
          rintro _ w ⟨rfl, hw⟩
          refine ⟨_, rfl, ?_⟩
          refine xV rfl rfl rfl (v_move rfl) ?_
          refine xV rfl rfl rfl (v_extract rfl rfl) ?_
          refine xV rfl rfl rfl (v_extract rfl rfl) ?_
          refine xV rfl rfl rfl (v_assign rfl) ?_
          refine xV rfl rfl rfl (v_assign rfl) ?_
          refine rl_nil (g_le (xK (xK (xK (xK (xK (xK (xK (xK (xK (Fr.le_refl _)))))))))) ?_)
          refine g_seq (g_seq ?_)
          refine g_region ?_
          refine xV rfl rfl rfl (v_fieldAddr0 T.fld_61_2_5 rfl) ?_
          refine xV rfl rfl rfl (v_fieldAddr T.fld_32_0_0 rfl) ?_
          refine rl_v rfl rfl rfl (by exact sat_cell hw (by (repeat first | with_reducible exact xH | apply xT); first | done | fail) rfl) (v_load T.scal_4 rfl) ?_
          refine xV rfl rfl rfl (v_not rfl) ?_
          refine xV rfl rfl rfl (v_move rfl) ?_
          refine rl_split (s := 62) rfl (fun g13_4 => ?_) (fun g13_4 => ?_)
          · try with_reducible exact ft_elim g13_4
            all_goals
              try replace g13_4 := of_decide_eq_true g13_4
              simp [hlf1] at g13_4
          · try with_reducible exact tf_elim g13_4
            all_goals
              try replace g13_4 := of_decide_eq_false g13_4
              refine rl_vg (met_on rfl rfl rfl rfl) rfl rfl (S := fun _ => True) trivial (v_move rfl) ?_
              refine rl_vg (met_on rfl rfl rfl rfl) rfl rfl (S := fun _ => True) trivial (v_not rfl) ?_
              refine xV rfl rfl rfl (v_pick_false rfl rfl) ?_
              refine xV rfl rfl rfl (v_move rfl) ?_
              refine rl_split (s := 66) rfl (fun g13_8 => ?_) (fun g13_8 => ?_)
              · try with_reducible exact ft_elim g13_8
                all_goals
                  try replace g13_8 := of_decide_eq_true g13_8
                  simp at g13_8
              · try with_reducible exact tf_elim g13_8
                all_goals
                  try replace g13_8 := of_decide_eq_false g13_8
                  refine rl_vg (met_on rfl rfl rfl rfl) rfl rfl (S := fun _ => True) trivial (v_move rfl) ?_
                  refine rl_vg (met_on rfl rfl rfl rfl) rfl rfl (S := fun _ => True) trivial (v_move rfl) ?_
                  refine rl_vg (met_on rfl rfl rfl rfl) rfl rfl (S := fun _ => True) trivial (v_add rfl rfl (by omega)) ?_
                  refine rl_vg (met_on rfl rfl rfl rfl) rfl rfl (S := fun _ => True) trivial (v_gtr rfl rfl) ?_
                  refine rl_vg (met_on rfl rfl rfl rfl) rfl rfl (S := fun _ => True) trivial (v_move rfl) ?_
                  refine rl_split (s := 71) rfl (fun g13_13 => ?_) (fun g13_13 => ?_)
                  · try with_reducible exact ft_elim g13_13
                    all_goals
                      try replace g13_13 := of_decide_eq_true g13_13
                      refine rl_vg (met_on rfl rfl rfl rfl) rfl rfl (S := fun _ => True) trivial (v_fieldAddr0 T.fld_49_0_0 rfl) ?_
                      refine rl_vg (met_on rfl rfl rfl rfl) rfl rfl (by exact sat_cell hw (by (repeat first | with_reducible exact xH | apply xT); first | done | fail) rfl) (v_load T.scal_9 rfl) ?_
                      refine rl_vg (met_on rfl rfl rfl rfl) rfl rfl (S := fun _ => True) trivial (v_move rfl) ?_
                      refine rl_vg (met_on rfl rfl rfl rfl) rfl rfl (S := fun _ => True) trivial (v_leqStr rfl rfl) ?_
                      refine rl_vg (met_on rfl rfl rfl rfl) rfl rfl (S := fun _ => True) trivial (v_pick_true rfl rfl) ?_
                      refine xV rfl rfl rfl (v_pick_false rfl rfl) ?_
                      refine xV rfl rfl rfl (v_move rfl) ?_
                      refine rl_split (s := 78) rfl (fun g13_20 => ?_) (fun g13_20 => ?_)
                      · try with_reducible exact ft_elim g13_20
                        all_goals
                          try replace g13_20 := of_decide_eq_true g13_20
                          have h9 := hlt9 (by omega); simp [h9] at g13_20
                      · try with_reducible exact tf_elim g13_20
                        all_goals
                          try replace g13_20 := of_decide_eq_false g13_20
                          refine rl_vg (met_on rfl rfl rfl rfl) rfl rfl (S := fun _ => True) trivial (v_fieldAddr0 T.fld_49_1_1 rfl) ?_
                          refine rl_vg (met_on rfl rfl rfl rfl) rfl rfl (by exact sat_cell hw (by (repeat first | with_reducible exact xH | apply xT); first | done | fail) rfl) (v_load T.scal_47 rfl) ?_
                          refine rl_vg (met_on rfl rfl rfl rfl) rfl rfl (S := fun _ => True) trivial (v_lenSlice T.sl_47_53_3 rfl) ?_
                          refine rl_vg (met_on rfl rfl rfl rfl) rfl rfl (S := fun _ => True) trivial (v_neqF rfl rfl (by omega)) ?_
                          refine xV rfl rfl rfl (v_pick_false rfl rfl) ?_
                          refine xV rfl rfl rfl (v_move rfl) ?_
                          refine rl_split (s := 84) rfl (fun g13_26 => ?_) (fun g13_26 => ?_)
                          · try with_reducible exact ft_elim g13_26
                            all_goals
                              try replace g13_26 := of_decide_eq_true g13_26
                              refine rl_off (met_off rfl rfl rfl rfl rfl) rfl rfl ?_
                              refine rl_off (met_off rfl rfl rfl rfl rfl) rfl rfl ?_
                              refine rl_off (met_off rfl rfl rfl rfl rfl) rfl rfl ?_
                              refine rl_off (met_off rfl rfl rfl rfl rfl) rfl rfl ?_
                              refine rl_off (met_off rfl rfl rfl rfl rfl) rfl rfl ?_
                              refine rl_off (met_off rfl rfl rfl rfl rfl) rfl rfl ?_
                              refine rl_off (met_off rfl rfl rfl rfl rfl) rfl rfl ?_
                              first | (refine xV rfl rfl rfl (v_pick_true rfl rfl) ?_) | (refine xV rfl rfl rfl (v_pick_false rfl rfl) ?_) | (refine xV rfl rfl rfl (v_pick rfl rfl rfl) ?_)
                              refine rl_nil (g_le (xK (xK (xK (xK (xK (xK (xK (xK (xK (xK (xK (xK (xK (xK (xK (xK (xK (xK (xK (xK (xK (xK (xK (xK (xK (xK (xK (xK (xK (xK (xK (xK (xK (xK (xK (xK (xK (xK (xK (xK (Fr.le_refl _))))))))))))))))))))))))))))))))))))))))) ?_)
                              refine g_cond_true rfl ?_
                              refine g_seq ?_
                              refine g_region ?_
                              refine xV rfl rfl rfl (v_assign rfl) ?_
                              refine rl_nil (g_le (xK (Fr.le_refl _)) ?_)
                              refine g_ret1 Try.func25 rfl rfl ?_
                              exact ⟨rfl, hw⟩
                          · try with_reducible exact tf_elim g13_26
                            all_goals
                              try replace g13_26 := of_decide_eq_false g13_26
                              refine rl_vg (met_on rfl rfl rfl rfl) rfl rfl (S := fun _ => True) trivial (v_fieldAddr0 T.fld_49_1_1 rfl) ?_
                              refine rl_vg (met_on rfl rfl rfl rfl) rfl rfl (by exact sat_cell hw (by (repeat first | with_reducible exact xH | apply xT); first | done | fail) rfl) (v_load T.scal_47 rfl) ?_
                              refine rl_vg (met_on rfl rfl rfl rfl) rfl rfl (S := fun _ => True) trivial (v_indexAddr T.sl_47_53_3 rfl rfl (by omega) (by omega)) ?_
                              refine rl_vg (met_on rfl rfl rfl rfl) rfl rfl (S := fun _ => True) trivial (v_fieldAddr T.fld_53_1_1 rfl) ?_
                              refine rl_vg (met_on rfl rfl rfl rfl) rfl rfl (by exact ro_at hw (by (repeat first | with_reducible exact xH | apply xT); first | done | fail) (by assumption) rfl) (v_load T.scal_9 rfl) ?_
                              refine rl_vg (met_on rfl rfl rfl rfl) rfl rfl (S := fun _ => True) trivial (v_move rfl) ?_
                              refine rl_vg (met_on rfl rfl rfl rfl) rfl rfl (S := fun _ => True) trivial (v_neqStrF rfl rfl (by first | rfl | assumption)) ?_
                              refine xV rfl rfl rfl (v_pick_false rfl rfl) ?_
                              refine rl_nil (g_le (xK (xK (xK (xK (xK (xK (xK (xK (xK (xK (xK (xK (xK (xK (xK (xK (xK (xK (xK (xK (xK (xK (xK (xK (xK (xK (xK (xK (xK (xK (xK (xK (xK (xK (xK (xK (xK (xK (xK (xK (Fr.le_refl _))))))))))))))))))))))))))))))))))))))))) ?_)
                              refine g_cond rfl (fun h4 => ?_) (fun h4 => ?_)
                              · try with_reducible exact ft_elim h4
                                all_goals
                                  try replace h4 := of_decide_eq_true h4
                                  simp at h4
                              · try with_reducible exact tf_elim h4
                                all_goals
                                  try replace h4 := of_decide_eq_false h4
                                  refine g_skip ?_
                                  refine g_region ?_
                                  refine xV rfl rfl rfl (v_fieldAddr0 T.fld_49_0_0 rfl) ?_
                                  refine rl_v rfl rfl rfl (by exact sat_cell hw (by (repeat first | with_reducible exact xH | apply xT); first | done | fail) rfl) (v_load T.scal_9 rfl) ?_
                                  refine xV rfl rfl rfl (v_assign rfl) ?_
                                  refine rl_nil (g_le (xK (xK (xK (Fr.le_refl _)))) ?_)
                                  refine g_inBlock ?_
                                  refine g_region ?_
                                  refine xV rfl rfl rfl (v_add rfl rfl (by omega)) ?_
                                  refine xV rfl rfl rfl (v_move rfl) ?_
                                  refine rl_nil (g_le (xK (xK (Fr.le_refl _))) ?_)
                                  exact g_le (by repeat (first | exact Fr.le_nil _ | refine Fr.le_cons rfl ?_)) (ih2 (i + 1, o.name) w ⟨by simp only; omega, by simp only; omega, by dsimp only; rw [hste, ← List.append_assoc, lastN_snoc, secO_name], hw.xQ⟩ (by simp only; omega))
                  · try with_reducible exact tf_elim g13_13
                    all_goals
                      try replace g13_13 := of_decide_eq_false g13_13
                      refine rl_off (met_off rfl rfl rfl rfl rfl) rfl rfl ?_
                      refine rl_off (met_off rfl rfl rfl rfl rfl) rfl rfl ?_
                      refine rl_off (met_off rfl rfl rfl rfl rfl) rfl rfl ?_
                      refine rl_off (met_off rfl rfl rfl rfl rfl) rfl rfl ?_
                      refine rl_vg (met_on rfl rfl rfl rfl) rfl rfl (S := fun _ => True) trivial (v_pick_false rfl rfl) ?_
                      refine xV rfl rfl rfl (v_pick_false rfl rfl) ?_
                      refine xV rfl rfl rfl (v_move rfl) ?_
                      refine rl_vg (met_on rfl rfl rfl rfl) rfl rfl (S := fun _ => True) trivial (v_fieldAddr0 T.fld_49_1_1 rfl) ?_
                      refine rl_vg (met_on rfl rfl rfl rfl) rfl rfl (by exact sat_cell hw (by (repeat first | with_reducible exact xH | apply xT); first | done | fail) rfl) (v_load T.scal_47 rfl) ?_
                      refine rl_vg (met_on rfl rfl rfl rfl) rfl rfl (S := fun _ => True) trivial (v_lenSlice T.sl_47_53_3 rfl) ?_
                      refine rl_vg (met_on rfl rfl rfl rfl) rfl rfl (S := fun _ => True) trivial (v_neqF rfl rfl (by omega)) ?_
                      refine xV rfl rfl rfl (v_pick_false rfl rfl) ?_
                      refine xV rfl rfl rfl (v_move rfl) ?_
                      refine rl_split (s := 84) rfl (fun g13_26 => ?_) (fun g13_26 => ?_)
                      · try with_reducible exact ft_elim g13_26
                        all_goals
                          try replace g13_26 := of_decide_eq_true g13_26
                          refine rl_off (met_off rfl rfl rfl rfl rfl) rfl rfl ?_
                          refine rl_off (met_off rfl rfl rfl rfl rfl) rfl rfl ?_
                          refine rl_off (met_off rfl rfl rfl rfl rfl) rfl rfl ?_
                          refine rl_off (met_off rfl rfl rfl rfl rfl) rfl rfl ?_
                          refine rl_off (met_off rfl rfl rfl rfl rfl) rfl rfl ?_
                          refine rl_off (met_off rfl rfl rfl rfl rfl) rfl rfl ?_
                          refine rl_off (met_off rfl rfl rfl rfl rfl) rfl rfl ?_
                          first | (refine xV rfl rfl rfl (v_pick_true rfl rfl) ?_) | (refine xV rfl rfl rfl (v_pick_false rfl rfl) ?_) | (refine xV rfl rfl rfl (v_pick rfl rfl rfl) ?_)
                          refine rl_nil (g_le (xK (xK (xK (xK (xK (xK (xK (xK (xK (xK (xK (xK (xK (xK (xK (xK (xK (xK (xK (xK (xK (xK (xK (xK (xK (xK (xK (xK (xK (xK (xK (xK (xK (xK (xK (xK (xK (xK (xK (Fr.le_refl _)))))))))))))))))))))))))))))))))))))))) ?_)
                          refine g_cond_true rfl ?_
                          refine g_seq ?_
                          refine g_region ?_
                          refine xV rfl rfl rfl (v_assign rfl) ?_
                          refine rl_nil (g_le (xK (Fr.le_refl _)) ?_)
                          refine g_ret1 Try.func25 rfl rfl ?_
                          exact ⟨rfl, hw⟩
                      · try with_reducible exact tf_elim g13_26
                        all_goals
                          try replace g13_26 := of_decide_eq_false g13_26
                          refine rl_vg (met_on rfl rfl rfl rfl) rfl rfl (S := fun _ => True) trivial (v_fieldAddr0 T.fld_49_1_1 rfl) ?_
                          refine rl_vg (met_on rfl rfl rfl rfl) rfl rfl (by exact sat_cell hw (by (repeat first | with_reducible exact xH | apply xT); first | done | fail) rfl) (v_load T.scal_47 rfl) ?_
                          refine rl_vg (met_on rfl rfl rfl rfl) rfl rfl (S := fun _ => True) trivial (v_indexAddr T.sl_47_53_3 rfl rfl (by omega) (by omega)) ?_
                          refine rl_vg (met_on rfl rfl rfl rfl) rfl rfl (S := fun _ => True) trivial (v_fieldAddr T.fld_53_1_1 rfl) ?_
                          refine rl_vg (met_on rfl rfl rfl rfl) rfl rfl (by exact ro_at hw (by (repeat first | with_reducible exact xH | apply xT); first | done | fail) (by assumption) rfl) (v_load T.scal_9 rfl) ?_
                          refine rl_vg (met_on rfl rfl rfl rfl) rfl rfl (S := fun _ => True) trivial (v_move rfl) ?_
                          refine rl_vg (met_on rfl rfl rfl rfl) rfl rfl (S := fun _ => True) trivial (v_neqStrF rfl rfl (by first | rfl | assumption)) ?_
                          refine xV rfl rfl rfl (v_pick_false rfl rfl) ?_
                          refine rl_nil (g_le (xK (xK (xK (xK (xK (xK (xK (xK (xK (xK (xK (xK (xK (xK (xK (xK (xK (xK (xK (xK (xK (xK (xK (xK (xK (xK (xK (xK (xK (xK (xK (xK (xK (xK (xK (xK (xK (xK (xK (Fr.le_refl _)))))))))))))))))))))))))))))))))))))))) ?_)
                          refine g_cond rfl (fun h4 => ?_) (fun h4 => ?_)
                          · try with_reducible exact ft_elim h4
                            all_goals
                              try replace h4 := of_decide_eq_true h4
                              simp at h4
                          · try with_reducible exact tf_elim h4
                            all_goals
                              try replace h4 := of_decide_eq_false h4
                              refine g_skip ?_
                              refine g_region ?_
                              refine xV rfl rfl rfl (v_fieldAddr0 T.fld_49_0_0 rfl) ?_
                              refine rl_v rfl rfl rfl (by exact sat_cell hw (by (repeat first | with_reducible exact xH | apply xT); first | done | fail) rfl) (v_load T.scal_9 rfl) ?_
                              refine xV rfl rfl rfl (v_assign rfl) ?_
                              refine rl_nil (g_le (xK (xK (xK (Fr.le_refl _)))) ?_)
                              refine g_inBlock ?_
                              refine g_region ?_
                              refine xV rfl rfl rfl (v_add rfl rfl (by omega)) ?_
                              refine xV rfl rfl rfl (v_move rfl) ?_
                              refine rl_nil (g_le (xK (xK (Fr.le_refl _))) ?_)
                              exact g_le (by repeat (first | exact Fr.le_nil _ | refine Fr.le_cons rfl ?_)) (ih2 (i + 1, o.name) w ⟨by simp only; omega, by simp only; omega, by dsimp only; rw [hste, ← List.append_assoc, lastN_snoc, secO_name], hw.xQ⟩ (by simp only; omega))
      · try with_reducible exact tf_elim h3
        all_goals
          try replace h3 := of_decide_eq_false h3
          refine g_exit rfl ?_
          refine g_region ?_
          refine xV rfl rfl rfl (v_move rfl) ?_
          refine xV rfl rfl rfl (v_fieldAddr0 T.fld_61_2_5 rfl) ?_
          refine xV rfl rfl rfl (v_fieldAddr T.fld_32_1_1 rfl) ?_
          refine rl_v rfl rfl rfl (by exact sat_cell hw (by (repeat first | with_reducible exact xH | apply xT); first | done | fail) rfl) (v_load T.scal_29 rfl) ?_
          refine xV rfl rfl rfl (v_lenSlice T.sl_29_49_2 rfl) ?_
          refine xV rfl rfl rfl (v_add rfl rfl (by omega)) ?_
          refine xV rfl rfl rfl (v_assign rfl) ?_
          refine rl_nil (g_le (xK (xK (xK (xK (xK (xK (xK (Fr.le_refl _)))))))) ?_)
          refine g_inBlock ?_
          refine g_region ?_
          refine xV rfl rfl rfl (v_add rfl rfl (by omega)) ?_
          refine xV rfl rfl rfl (v_move rfl) ?_
          refine rl_nil (g_le (xK (xK (Fr.le_refl _))) ?_)
          exact g_le (by repeat (first | exact Fr.le_nil _ | refine Fr.le_cons rfl ?_)) (ih (k + 1, last2, many + x.node.entries.length) w ⟨by simp only; omega, by simp only; omega, by dsimp only; rw [show (k + 1).toNat = k.toNat + 1 by omega, preE_succ hx, hla2, List.take_of_length_le (by omega)], by dsimp only; rw [show (k + 1).toNat = k.toNat + 1 by omega, preE_succ hx, List.length_append, hmn]; omega, hw.xQ⟩ (by simp only; omega))
  · try with_reducible exact tf_elim h2
    all_goals
      try replace h2 := of_decide_eq_false h2
      refine g_exit rfl (g_seq (g_seq ?_))
      rw [preE_all (by omega), hse] at hmn
      refine g_region ?_
      refine xV rfl rfl rfl (v_move rfl) ?_
      refine xV rfl rfl rfl (v_lenSlice T.sl_41_46_5 rfl) ?_
      refine xV rfl rfl rfl (v_move rfl) ?_
      refine rl_nil (g_le (xK (xK (xK (Fr.le_refl _)))) ?_)
      refine g_block ?_
      refine g_loopC (σ := Int × Hp × As) (fun C x => (105, .int .i64 x.1) :: C) [(0, _), (2, _), (4, _), (6, _), (10, _), (103, _), (104, _)] (by repeat (first | exact Fr.le_nil _ | refine Fr.le_cons rfl ?_)) (fun z w => 0 ≤ z.1 ∧ z.1 ≤ l.length ∧ g1.le z.2.1 ∧ HeapI h z.2.1 s z.2.2 ∧ Sat E w (z.2.2 :: pt bk0_0 (.cells root.cells.toArray 25 (0, 0)) :: RO z.2.1 :: L)) (fun z => (l.length - z.1).toNat) ?_ (0, g1, A1) (by repeat (first | exact Fr.le_nil _ | refine Fr.le_cons rfl ?_)) ⟨by simp, by simp, Hp.le_refl _, hI1, hw.xQ⟩
      rintro ⟨j, g2, A2⟩ w ⟨hj0, hj1, hg2, hI2, hw⟩ ih3
      dsimp only at hj0 hj1 hg2 hI2 hw ih3 ⊢
      refine g_seq ?_
      refine g_region ?_
      refine xV rfl rfl rfl (v_lss rfl rfl) ?_
      refine rl_nil (g_le (xK (Fr.le_refl _)) ?_)
      refine g_seq ?_
      refine g_cond rfl (fun h5 => ?_) (fun h5 => ?_)
      · try with_reducible exact ft_elim h5
        all_goals
          try replace h5 := of_decide_eq_true h5
          refine g_skip (g_seq (g_block (g_seq ?_)))
          have hz := hw
          clear hw
          obtain ⟨_, _, _, _, gl⟩ := rdSl_get (mono_sl mono_Op7 (hg1.trans hg2) hl)
          obtain ⟨b4, o1, o, ecs, rfl, ho, hat1, hl1, hrd⟩ := gl j hj0 (by omega)
          obtain ⟨sa4, sn4, sc4, rfl, hns, hvs, hsegs, hdw, hbw⟩ := op7_told hrd
          have hfo := m.of_op (List.mem_of_getElem? ho)
          have hw := hz
          refine g_region ?_
          refine xV rfl rfl rfl (v_indexAddr T.sl_41_46_5 rfl rfl (by omega) (by omega)) ?_
          refine rl_v rfl rfl rfl (by exact ro_ats hw (by (repeat first | with_reducible exact xH | apply xT); first | done | fail) (by assumption)) (v_loadAgg (vs := [_, _, _, _, _]) T.agg_46_5 rfl rfl) ?_
          refine rl_k rfl (k_alloc hw T.zero_46 rfl rfl (fun bk21_2 w hw => ?_))
          refine rl_k rfl (k_storeWhole hw T.agg_46_5 rfl rfl (by simp [Value.oneCell']) rfl (by (repeat first | with_reducible exact xH | apply xT); first | done | fail) rfl (fun w hw => ?_))
          refine rl_nil (g_le (xK (xK (xK (Fr.le_refl _)))) ?_)
          refine g_seq ?_
          refine g_region ?_
          refine xV rfl rfl rfl (v_move rfl) ?_
          refine xV rfl rfl rfl (v_mkIface T.ptr_26 rfl) ?_
          refine rl_v rfl rfl rfl (by exact sat_cells hw (by (repeat first | with_reducible exact xH | apply xT); first | done | fail) ⟨rfl, rfl, rfl, rfl, trivial⟩) (v_loadAgg (vs := [_, _, _, _]) T.agg_25_4 rfl rfl) ?_
          refine xV rfl rfl rfl (v_fieldAddr0 T.fld_46_1_1 rfl) ?_
          refine rl_v rfl rfl rfl (by exact sat_cell hw (by (repeat first | with_reducible exact xH | apply xT); first | done | fail) rfl) (v_load T.scal_9 rfl) ?_
          refine rl_k rfl (k_callf Try.func22 rfl rfl rfl rfl ?_)
          refine Calls.mono (tget_calls o.name t h8 hr hI2 (hw.xQ)) ?_
          rw [hfo]
          simp only [Option.isSome_some, Option.getD_some]
          rintro _ w ⟨g3, A3, vv, hg3, hI3, rfl, _, hw⟩
          obtain ⟨va, vc, rfl, _, _, hva⟩ := hw.own_shape
          refine ⟨_, rfl, ?_⟩
          refine xV rfl rfl rfl (v_move rfl) ?_
          refine xV rfl rfl rfl (v_extract rfl rfl) ?_
          refine xV rfl rfl rfl (v_extract rfl rfl) ?_
          refine xV rfl rfl rfl (v_extract rfl rfl) ?_
          refine rl_k rfl (k_alloc hw T.zero_49 rfl rfl (fun bk22_10 w hw => ?_))
          refine rl_k rfl (k_storeWhole hw T.agg_49_2 rfl rfl (by simp [Value.oneCell']) rfl (by (repeat first | with_reducible exact xH | apply xT); first | done | fail) rfl (fun w hw => ?_))
          refine xV rfl rfl rfl (v_assign rfl) ?_
          refine xV rfl rfl rfl (v_assign rfl) ?_
          refine rl_nil (g_le (xK (xK (xK (xK (xK (xK (xK (xK (xK (xK (xK (xK (xK (Fr.le_refl _)))))))))))))) ?_)
          have hz := hw
          clear hw
          obtain ⟨vb, rfl⟩ := hva (by simp [secO])
          have h1v : (secO o).versions.length = 1 := rfl
          change Sat E w (_ :: OwnSl 53 3 (.slice (some ⟨vb, 0, none⟩) 1 vc) 1 [.int .i64 1, .string o.value, .string ByteArray.empty] :: _) at hz
          have hw := hz
          refine g_seq ?_
          refine g_drawR ord_f25_r23_H12 (by kernel_rfl) T.mixed hw (fun w hw => ?_)
          refine rs_kv 0 rfl rfl rfl rfl (S' := fun _ => True) trivial (v_move rfl) ?_
          refine rs_kv 1 rfl rfl rfl rfl (S' := fun _ => True) trivial (v_neqF rfl rfl (by omega)) ?_
          refine rs_kv 2 rfl rfl rfl rfl (S' := fun _ => True) trivial (v_move rfl) ?_
          refine rs_split (s := 121) rfl (fun g23_2 => ?_) (fun g23_2 => ?_)
          · try with_reducible exact ft_elim g23_2
            all_goals
              try replace g23_2 := of_decide_eq_true g23_2
              refine rs_koff 3 rfl (met_off rfl rfl rfl rfl rfl) rfl rfl ?_
              refine rs_koff 4 rfl (met_off rfl rfl rfl rfl rfl) rfl rfl ?_
              first | (refine rs_kv 5 rfl rfl rfl rfl (S' := fun _ => True) trivial (v_pick_true rfl rfl) ?_) | (refine rs_kv 5 rfl rfl rfl rfl (S' := fun _ => True) trivial (v_pick_false rfl rfl) ?_) | (refine rs_kv 5 rfl rfl rfl rfl (S' := fun _ => True) trivial (v_pick rfl rfl rfl) ?_)
              refine rs_kv 6 rfl rfl rfl rfl (S' := fun _ => True) trivial (v_move rfl) ?_
              refine rs_aoff 7 rfl (met_off rfl rfl rfl rfl rfl) rfl rfl ?_
              refine rs_aoff 9 rfl (met_off rfl rfl rfl rfl rfl) rfl rfl ?_
              refine rs_voff 8 rfl (met_off rfl rfl rfl rfl rfl) rfl rfl (by first | exact hw | exact Sat.sub hw (by (repeat (first | with_reducible exact Sub.refl _ | exact Sub.nil _ | (apply Sub.cons; focus ((repeat (first | with_reducible exact Pick.here _ | apply Pick.there)); (first | done | fail))) | with_reducible apply Sub.drop)); first | done | fail)) ?_
              refine rs_koff 10 rfl (met_off rfl rfl rfl rfl rfl) rfl rfl ?_
              refine rs_koff 11 rfl (met_off rfl rfl rfl rfl rfl) rfl rfl ?_
              first | (refine rs_kv 12 rfl rfl rfl rfl (S' := fun _ => True) trivial (v_pick_true rfl rfl) ?_) | (refine rs_kv 12 rfl rfl rfl rfl (S' := fun _ => True) trivial (v_pick_false rfl rfl) ?_) | (refine rs_kv 12 rfl rfl rfl rfl (S' := fun _ => True) trivial (v_pick rfl rfl rfl) ?_)
              refine rs_kv 13 rfl rfl rfl rfl (S' := fun _ => True) trivial (v_move rfl) ?_
              refine rs_koff 14 rfl (met_off rfl rfl rfl rfl rfl) rfl rfl ?_
              refine rs_koff 15 rfl (met_off rfl rfl rfl rfl rfl) rfl rfl ?_
              refine rs_koff 16 rfl (met_off rfl rfl rfl rfl rfl) rfl rfl ?_
              refine rs_koff 17 rfl (met_off rfl rfl rfl rfl rfl) rfl rfl ?_
              first | (refine rs_kv 18 rfl rfl rfl rfl (S' := fun _ => True) trivial (v_pick_true rfl rfl) ?_) | (refine rs_kv 18 rfl rfl rfl rfl (S' := fun _ => True) trivial (v_pick_false rfl rfl) ?_) | (refine rs_kv 18 rfl rfl rfl rfl (S' := fun _ => True) trivial (v_pick rfl rfl rfl) ?_)
              refine rs_kv 19 rfl rfl rfl rfl (S' := fun _ => True) trivial (v_move rfl) ?_
              refine rs_aoff 20 rfl (met_off rfl rfl rfl rfl rfl) rfl rfl ?_
              refine rs_aoff 25 rfl (met_off rfl rfl rfl rfl rfl) rfl rfl ?_
              refine rs_voff 21 rfl (met_off rfl rfl rfl rfl rfl) rfl rfl (by first | exact hw | exact Sat.sub hw (by (repeat (first | with_reducible exact Sub.refl _ | exact Sub.nil _ | (apply Sub.cons; focus ((repeat (first | with_reducible exact Pick.here _ | apply Pick.there)); (first | done | fail))) | with_reducible apply Sub.drop)); first | done | fail)) ?_
              refine rs_aoff 22 rfl (met_off rfl rfl rfl rfl rfl) rfl rfl ?_
              refine rs_aoff 23 rfl (met_off rfl rfl rfl rfl rfl) rfl rfl ?_
              refine rs_voff 24 rfl (met_off rfl rfl rfl rfl rfl) rfl rfl (by first | exact hw | exact Sat.sub hw (by (repeat (first | with_reducible exact Sub.refl _ | exact Sub.nil _ | (apply Sub.cons; focus ((repeat (first | with_reducible exact Pick.here _ | apply Pick.there)); (first | done | fail))) | with_reducible apply Sub.drop)); first | done | fail)) ?_
              refine rs_koff 26 rfl (met_off rfl rfl rfl rfl rfl) rfl rfl ?_
              refine rs_koff 27 rfl (met_off rfl rfl rfl rfl rfl) rfl rfl ?_
              first | (refine rs_kv 28 rfl rfl rfl rfl (S' := fun _ => True) trivial (v_pick_true rfl rfl) ?_) | (refine rs_kv 28 rfl rfl rfl rfl (S' := fun _ => True) trivial (v_pick_false rfl rfl) ?_) | (refine rs_kv 28 rfl rfl rfl rfl (S' := fun _ => True) trivial (v_pick rfl rfl rfl) ?_)
              refine rs_done (g_le (xK (xK (xK (xK (xK (xK (xK (xK (xK (xK (xK (xK (xK (xK (xK (xK (xK (xK (xK (xK (xK (xK (xK (xK (xK (xK (xK (xK (xK (xK (Fr.le_refl _))))))))))))))))))))))))))))))) ?_)
              refine g_cond_true rfl ?_
              refine g_seq ?_
              refine g_region ?_
              refine xV rfl rfl rfl (v_assign rfl) ?_
              refine rl_nil (g_le (xK (Fr.le_refl _)) ?_)
              refine g_ret1 Try.func25 rfl rfl ?_
              exact ⟨rfl, hw⟩
          · try with_reducible exact tf_elim g23_2
            all_goals
              try replace g23_2 := of_decide_eq_false g23_2
              refine rs_kvg 3 rfl (met_on rfl rfl rfl rfl) rfl rfl (S' := fun _ => True) trivial (v_move rfl) ?_
              refine rs_kvg 4 rfl (met_on rfl rfl rfl rfl) rfl rfl (S' := fun _ => True) trivial (v_not rfl) ?_
              refine rs_kv 5 rfl rfl rfl rfl (S' := fun _ => True) trivial (v_pick_false rfl rfl) ?_
              refine rs_kv 6 rfl rfl rfl rfl (S' := fun _ => True) trivial (v_move rfl) ?_
              refine rs_split (s := 125) rfl (fun g23_6 => ?_) (fun g23_6 => ?_)
              · try with_reducible exact ft_elim g23_6
                all_goals
                  try replace g23_6 := of_decide_eq_true g23_6
                  simp at g23_6
              · try with_reducible exact tf_elim g23_6
                all_goals
                  try replace g23_6 := of_decide_eq_false g23_6
                  refine rs_ag 7 rfl (met_on rfl rfl rfl rfl) rfl rfl (v_fieldAddr0 T.fld_49_0_0 rfl) ?_
                  refine rs_ag 9 rfl (met_on rfl rfl rfl rfl) rfl rfl (v_fieldAddr0 T.fld_46_1_1 rfl) ?_
                  refine rs_vg 8 rfl (met_on rfl rfl rfl rfl) rfl rfl (OpV.mono (v_load T.scal_9 rfl) (fun w hw => by exact sat_cell hw (by (repeat first | with_reducible exact xH | apply xT); first | done | fail) rfl)) (by exact hw) ?_
                  refine rs_kvg 10 rfl (met_on rfl rfl rfl rfl) rfl rfl (by exact sat_cell hw (by (repeat first | with_reducible exact xH | apply xT); first | done | fail) rfl) (v_load T.scal_9 rfl) ?_
                  refine rs_kvg 11 rfl (met_on rfl rfl rfl rfl) rfl rfl (S' := fun _ => True) trivial (v_neqStrF rfl rfl (by first | rfl | assumption)) ?_
                  refine rs_kv 12 rfl rfl rfl rfl (S' := fun _ => True) trivial (v_pick_false rfl rfl) ?_
                  refine rs_kv 13 rfl rfl rfl rfl (S' := fun _ => True) trivial (v_move rfl) ?_
                  refine rs_split (s := 132) rfl (fun g23_13 => ?_) (fun g23_13 => ?_)
                  · try with_reducible exact ft_elim g23_13
                    all_goals
                      try replace g23_13 := of_decide_eq_true g23_13
                      simp [secO] at g23_13
                  · try with_reducible exact tf_elim g23_13
                    all_goals
                      try replace g23_13 := of_decide_eq_false g23_13
                      refine rs_kvg 14 rfl (met_on rfl rfl rfl rfl) rfl rfl (S' := fun _ => True) trivial (v_fieldAddr0 T.fld_49_1_1 rfl) ?_
                      refine rs_kvg 15 rfl (met_on rfl rfl rfl rfl) rfl rfl (by exact sat_cell hw (by (repeat first | with_reducible exact xH | apply xT); first | done | fail) rfl) (v_load T.scal_47 rfl) ?_
                      refine rs_kvg 16 rfl (met_on rfl rfl rfl rfl) rfl rfl (S' := fun _ => True) trivial (v_lenSlice T.sl_47_53_3 rfl) ?_
                      refine rs_kvg 17 rfl (met_on rfl rfl rfl rfl) rfl rfl (S' := fun _ => True) trivial (v_neqF rfl rfl (by omega)) ?_
                      refine rs_kv 18 rfl rfl rfl rfl (S' := fun _ => True) trivial (v_pick_false rfl rfl) ?_
                      refine rs_kv 19 rfl rfl rfl rfl (S' := fun _ => True) trivial (v_move rfl) ?_
                      refine rs_split (s := 138) rfl (fun g23_19 => ?_) (fun g23_19 => ?_)
                      · try with_reducible exact ft_elim g23_19
                        all_goals
                          try replace g23_19 := of_decide_eq_true g23_19
                          refine rs_aoff 20 rfl (met_off rfl rfl rfl rfl rfl) rfl rfl ?_
                          refine rs_aoff 25 rfl (met_off rfl rfl rfl rfl rfl) rfl rfl ?_
                          refine rs_voff 21 rfl (met_off rfl rfl rfl rfl rfl) rfl rfl (by first | exact hw | exact Sat.sub hw (by (repeat (first | with_reducible exact Sub.refl _ | exact Sub.nil _ | (apply Sub.cons; focus ((repeat (first | with_reducible exact Pick.here _ | apply Pick.there)); (first | done | fail))) | with_reducible apply Sub.drop)); first | done | fail)) ?_
                          refine rs_aoff 22 rfl (met_off rfl rfl rfl rfl rfl) rfl rfl ?_
                          refine rs_aoff 23 rfl (met_off rfl rfl rfl rfl rfl) rfl rfl ?_
                          refine rs_voff 24 rfl (met_off rfl rfl rfl rfl rfl) rfl rfl (by first | exact hw | exact Sat.sub hw (by (repeat (first | with_reducible exact Sub.refl _ | exact Sub.nil _ | (apply Sub.cons; focus ((repeat (first | with_reducible exact Pick.here _ | apply Pick.there)); (first | done | fail))) | with_reducible apply Sub.drop)); first | done | fail)) ?_
                          refine rs_koff 26 rfl (met_off rfl rfl rfl rfl rfl) rfl rfl ?_
                          refine rs_koff 27 rfl (met_off rfl rfl rfl rfl rfl) rfl rfl ?_
                          first | (refine rs_kv 28 rfl rfl rfl rfl (S' := fun _ => True) trivial (v_pick_true rfl rfl) ?_) | (refine rs_kv 28 rfl rfl rfl rfl (S' := fun _ => True) trivial (v_pick_false rfl rfl) ?_) | (refine rs_kv 28 rfl rfl rfl rfl (S' := fun _ => True) trivial (v_pick rfl rfl rfl) ?_)
                          refine rs_done (g_le (xK (xK (xK (xK (xK (xK (xK (xK (xK (xK (xK (xK (xK (xK (xK (xK (xK (xK (xK (xK (xK (xK (xK (xK (xK (xK (xK (xK (xK (xK (xK (xK (xK (Fr.le_refl _)))))))))))))))))))))))))))))))))) ?_)
                          refine g_cond_true rfl ?_
                          refine g_seq ?_
                          refine g_region ?_
                          refine xV rfl rfl rfl (v_assign rfl) ?_
                          refine rl_nil (g_le (xK (Fr.le_refl _)) ?_)
                          refine g_ret1 Try.func25 rfl rfl ?_
                          exact ⟨rfl, hw⟩
                      · try with_reducible exact tf_elim g23_19
                        all_goals
                          try replace g23_19 := of_decide_eq_false g23_19
                          refine rs_ag 20 rfl (met_on rfl rfl rfl rfl) rfl rfl (v_fieldAddr0 T.fld_49_1_1 rfl) ?_
                          refine rs_ag 25 rfl (met_on rfl rfl rfl rfl) rfl rfl (v_fieldAddr0 T.fld_46_2_2 rfl) ?_
                          refine rs_vg 21 rfl (met_on rfl rfl rfl rfl) rfl rfl (OpV.mono (v_load T.scal_47 rfl) (fun w hw => by exact sat_cell hw (by (repeat first | with_reducible exact xH | apply xT); first | done | fail) rfl)) (by exact hw) ?_
                          refine rs_ag 22 rfl (met_on rfl rfl rfl rfl) rfl rfl (v_indexAddr T.sl_47_53_3 rfl rfl (by omega) (by omega)) ?_
                          refine rs_ag 23 rfl (met_on rfl rfl rfl rfl) rfl rfl (v_fieldAddr0 T.fld_53_1_1 rfl) ?_
                          refine rs_vg 24 rfl (met_on rfl rfl rfl rfl) rfl rfl (OpV.mono (v_load T.scal_9 rfl) (fun w hw => by exact own_cell hw (by (repeat first | with_reducible exact xH | apply xT); first | done | fail) (by first | rfl | assumption))) (by exact hw) ?_
                          refine rs_kvg 26 rfl (met_on rfl rfl rfl rfl) rfl rfl (by exact sat_cell hw (by (repeat first | with_reducible exact xH | apply xT); first | done | fail) rfl) (v_load T.scal_9 rfl) ?_
                          refine rs_kvg 27 rfl (met_on rfl rfl rfl rfl) rfl rfl (S' := fun _ => True) trivial (v_neqStrF rfl rfl (by first | rfl | assumption)) ?_
                          refine rs_kv 28 rfl rfl rfl rfl (S' := fun _ => True) trivial (v_pick_false rfl rfl) ?_
                          refine rs_done (g_le (xK (xK (xK (xK (xK (xK (xK (xK (xK (xK (xK (xK (xK (xK (xK (xK (xK (xK (xK (xK (xK (xK (xK (xK (xK (xK (xK (xK (xK (xK (xK (xK (xK (Fr.le_refl _)))))))))))))))))))))))))))))))))) ?_)
                          refine g_cond rfl (fun h6 => ?_) (fun h6 => ?_)
                          · try with_reducible exact ft_elim h6
                            all_goals
                              try replace h6 := of_decide_eq_true h6
                              simp at h6
                          · try with_reducible exact tf_elim h6
                            all_goals
                              try replace h6 := of_decide_eq_false h6
                              refine g_skip (g_inBlock ?_)
                              refine g_region ?_
                              refine xV rfl rfl rfl (v_add rfl rfl (by omega)) ?_
                              refine xV rfl rfl rfl (v_move rfl) ?_
                              refine rl_nil (g_le (xK (xK (Fr.le_refl _))) ?_)
                              exact g_le (by repeat (first | exact Fr.le_nil _ | refine Fr.le_cons rfl ?_)) (ih3 (j + 1, g3, A3) w ⟨by simp only; omega, by simp only; omega, hg2.trans hg3, hI3, hw.xQ⟩ (by simp only; omega))
      · try with_reducible exact tf_elim h5
        all_goals
          try replace h5 := of_decide_eq_false h5
          refine g_exit rfl (g_seq ?_)
          refine g_region ?_
          refine xV rfl rfl rfl (v_move rfl) ?_
          refine xV rfl rfl rfl (v_mkIface T.ptr_26 rfl) ?_
          refine rl_v rfl rfl rfl (by exact sat_cells hw (by (repeat first | with_reducible exact xH | apply xT); first | done | fail) ⟨rfl, rfl, rfl, rfl, trivial⟩) (v_loadAgg (vs := [_, _, _, _]) T.agg_25_4 rfl rfl) ?_
          refine rl_k rfl (k_callf Try.func22 rfl rfl rfl rfl ?_)
          refine Calls.mono (tget_calls _ t h8 hr hI2 (hw.xQ)) ?_
          rw [m.none_iff]
          rintro _ w ⟨g3, A3, vv, hg3, hI3, rfl, _, hw⟩
          obtain ⟨va, vc, rfl, _, _, hva⟩ := hw.own_shape
          refine ⟨_, rfl, ?_⟩
          refine xV rfl rfl rfl (v_move rfl) ?_
          refine xV rfl rfl rfl (v_extract rfl rfl) ?_
          refine xV rfl rfl rfl (v_extract rfl rfl) ?_
          refine xV rfl rfl rfl (v_extract rfl rfl) ?_
          refine rl_k rfl (k_alloc hw T.zero_49 rfl rfl (fun bk26_8 w hw => ?_))
          refine rl_k rfl (k_storeWhole hw T.agg_49_2 rfl rfl (by simp [Value.oneCell']) rfl (by (repeat first | with_reducible exact xH | apply xT); first | done | fail) rfl (fun w hw => ?_))
          refine xV rfl rfl rfl (v_assign rfl) ?_
          refine xV rfl rfl rfl (v_assign rfl) ?_
          refine rl_nil (g_le (xK (xK (xS rfl (xS rfl (xS rfl (xS rfl (xS rfl (xS rfl (xS rfl (xS rfl (xS rfl (Fr.le_refl _)))))))))))) ?_)
          refine g_seq ?_
          refine g_region ?_
          refine xV rfl rfl rfl (v_move rfl) ?_
          refine rl_k rfl (k_callf Try.func31 rfl rfl rfl rfl ?_)
          refine Calls.mono (has_calls _ (mono_sl mono_Op7 (hg1.trans (hg2.trans hg3)) hl) (hw.xQ)) ?_
          rintro _ w ⟨rfl, hw⟩
          refine ⟨_, rfl, ?_⟩
          refine xV rfl rfl rfl (v_move rfl) ?_
          refine xV rfl rfl rfl (v_extract rfl rfl) ?_
          refine xV rfl rfl rfl (v_extract rfl rfl) ?_
          refine xV rfl rfl rfl (v_assign rfl) ?_
          refine xV rfl rfl rfl (v_assign rfl) ?_
          refine rl_nil (g_le (xK (xS rfl (xS rfl (xS rfl (xS rfl (xS rfl (xS rfl (Fr.le_refl _)))))))) ?_)
          refine g_seq ?_
          refine g_region ?_
          refine xV rfl rfl rfl (v_move rfl) ?_
          refine xV rfl rfl rfl (v_eqlT rfl rfl (by omega)) ?_
          refine xV rfl rfl rfl (v_move rfl) ?_
          refine rl_split (s := 164) rfl (fun g28_2 => ?_) (fun g28_2 => ?_)
          · try with_reducible exact ft_elim g28_2
            all_goals
              try replace g28_2 := of_decide_eq_true g28_2
              refine rl_vg (met_on rfl rfl rfl rfl) rfl rfl (S := fun _ => True) trivial (v_move rfl) ?_
              refine rl_vg (met_on rfl rfl rfl rfl) rfl rfl (S := fun _ => True) trivial (v_move rfl) ?_
              refine rl_vg (met_on rfl rfl rfl rfl) rfl rfl (S := fun _ => True) trivial (v_eqlBoolT T.bool_4 rfl rfl (by first | rfl | assumption)) ?_
              refine xV rfl rfl rfl (v_pick_true rfl rfl) ?_
              refine xV rfl rfl rfl (v_move rfl) ?_
              refine rl_split (s := 169) rfl (fun g28_7 => ?_) (fun g28_7 => ?_)
              · try with_reducible exact ft_elim g28_7
                all_goals
                  try replace g28_7 := of_decide_eq_true g28_7
                  refine rl_vg (met_on rfl rfl rfl rfl) rfl rfl (S := fun _ => True) trivial (v_move rfl) ?_
                  refine rl_vg (met_on rfl rfl rfl rfl) rfl rfl (S := fun _ => True) trivial (v_move rfl) ?_
                  refine rl_vg (met_on rfl rfl rfl rfl) rfl rfl (S := fun _ => True) trivial (v_lenSlice T.sl_41_46_5 rfl) ?_
                  refine rl_vg (met_on rfl rfl rfl rfl) rfl rfl (S := fun _ => True) trivial (v_eqlT rfl rfl (by omega)) ?_
                  refine xV rfl rfl rfl (v_pick_true rfl rfl) ?_
                  refine xV rfl rfl rfl (v_assign rfl) ?_
                  refine rl_nil (g_le (xK (xS rfl (xS rfl (xS rfl (xS rfl (xS rfl (xS rfl (xS rfl (xS rfl (xS rfl (xS rfl (xS rfl (xS rfl (xS rfl (xS rfl (xS rfl (Fr.le_refl _))))))))))))))))) ?_)
                  refine g_ret1 Try.func25 rfl rfl ?_
                  exact ⟨g3, A3, hg1.trans (hg2.trans hg3), hI3, rfl, hw.xQ⟩
              · try with_reducible exact tf_elim g28_7
                all_goals
                  try replace g28_7 := of_decide_eq_false g28_7
                  simp at g28_7
          · try with_reducible exact tf_elim g28_2
            all_goals
              try replace g28_2 := of_decide_eq_false g28_2
              refine rl_off (met_off rfl rfl rfl rfl rfl) rfl rfl ?_
              refine rl_off (met_off rfl rfl rfl rfl rfl) rfl rfl ?_
              refine rl_off (met_off rfl rfl rfl rfl rfl) rfl rfl ?_
              first | (refine xV rfl rfl rfl (v_pick_true rfl rfl) ?_) | (refine xV rfl rfl rfl (v_pick_false rfl rfl) ?_) | (refine xV rfl rfl rfl (v_pick rfl rfl rfl) ?_)
              refine xV rfl rfl rfl (v_move rfl) ?_
              refine rl_off (met_off rfl rfl rfl rfl rfl) rfl rfl ?_
              refine rl_off (met_off rfl rfl rfl rfl rfl) rfl rfl ?_
              refine rl_off (met_off rfl rfl rfl rfl rfl) rfl rfl ?_
              refine rl_off (met_off rfl rfl rfl rfl rfl) rfl rfl ?_
              first | (refine xV rfl rfl rfl (v_pick_true rfl rfl) ?_) | (refine xV rfl rfl rfl (v_pick_false rfl rfl) ?_) | (refine xV rfl rfl rfl (v_pick rfl rfl rfl) ?_)
              refine xV rfl rfl rfl (v_assign rfl) ?_
              refine rl_nil (g_le (xK (xS rfl (xS rfl (xS rfl (xS rfl (xS rfl (xS rfl (xS rfl (xS rfl (xS rfl (xS rfl (xS rfl (xS rfl (xS rfl (xS rfl (Fr.le_refl _)))))))))))))))) ?_)
              refine g_ret1 Try.func25 rfl rfl ?_
              exact ⟨g3, A3, hg1.trans (hg2.trans hg3), hI3, rfl, hw.xQ⟩
end Go.Proofs.Ytmbngahboaljpaa
