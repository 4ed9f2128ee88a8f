/-
  Terms (layer 2): writing one, a copy, rows of terms.
-/
import Derived.Test.YtlgpdglnfjndhaaU02b
namespace Go.Proofs.Ytlgpdglnfjndhaa
set_option maxRecDepth 8000
set_option linter.unusedSimpArgs false
set_option linter.unusedVariables false
open Go Xe Go.Lib
theorem own_tx0 {E : Env} {w : World} {L : List As} (h : Sat E w L) : Sat E w (TxA (.slice none 0 0) ByteArray.empty :: L) := h.own_nil 5 1
theorem numsT_rd {g : Hp} {cs : List Value} {t : Tm} (h : rdTm g cs t) : numsT t := let ⟨k, h⟩ := h; numsT_of k h
theorem head_num {t : Tm} (h : t.kind = 1 ∨ t.kind = 3 ∨ t.kind = 4) : headT t = ByteArray.mk #[UInt8.ofNat t.kind.toNat] ++ putN t.num.toNat := by unfold headT; rw [if_pos h]
theorem head_atom {t : Tm} (h : t.kind = 2) : headT t = ByteArray.mk #[UInt8.ofNat t.kind.toNat] ++ (putN t.bytes.size ++ t.bytes) := by unfold headT; rw [if_neg (by omega), if_pos h]
theorem head_row {t : Tm} (h : t.kind = 5) : headT t = ByteArray.mk #[UInt8.ofNat t.kind.toNat] ++ putN t.list.length := by unfold headT; rw [if_neg (by omega), if_neg (by omega), if_pos h]
theorem wrL_take {l : List Tm} {i : Nat} {x : Tm} (h : l[i]? = some x) : wrL (l.take (i + 1)) = wrL (l.take i) ++ wrT x := by rw [take_snoc h, wrL_snoc]
theorem wrL_take_le (l : List Tm) : ∀ (i : Nat), (wrL (l.take i)).size ≤ (wrL l).size := by
  induction l with
  | nil => intro i; simp
  | cons x xs ih =>
    intro i
    cases i with
    | zero => simp [wrL]
    | succ i => rw [List.take_succ_cons, wrL, wrL, ByteArray.size_append, ByteArray.size_append]; have := ih i; omega
theorem shL_mem {l : List Tm} {x : Tm} (h : shL l = true) (hx : x ∈ l) : shT x = true := by
  rw [shL_all, List.all_eq_true] at h; exact h x hx
theorem ord_f90_r8_U02c : orderOfB Try.f90 8 [9] (.a 0 (.a 1 (.a 7 (.v 2 (.a 3 (.a 4 (.v 8 (.k 5 (.k 6 (.k 9 (.k 10 .done))))))))))) = true := by kernel_rfl
set_option maxHeartbeats 2000000 in
theorem write_calls : ∀ (k : Nat) {E : Env} {w : World} {L : List As} {g : Hp} {cs : List Value} {t : Tm} {s : ByteArray} {v : Value}, hT t ≤ k → shT t = true → rdTm g cs t → s.size + (wrT t).size ≤ 1000000000 → Sat E w (TxA v s :: RO g :: L) →
    Calls Try.prog 90 #[v, .agg cs.toArray] w fun e w' => ∃ v', e = .returned v' ∧ Sat E w' (TxA v' (s ++ wrT t) :: RO g :: L) := by
  intro k
  induction k with
  | zero => intro E w L g cs t s v hk; have := hT_pos t; omega
  | succ k ih0 =>
  intro E w L g cs t s v hk hsh ht hb hw
  obtain ⟨a, c, rfl, ⟨n0, n1, _⟩, hl⟩ := tm_shape ht
  obtain ⟨_, hb1, hc1, hmx, g1⟩ := rdSl_get hl
  simp only [reachBytes] at hb1
  rw [hT_list] at hk
  rw [shT_list, Bool.and_eq_true] at hsh
  obtain ⟨hone9, hshl⟩ := hsh
  have hkd := oneT_kind hone9
  have hwr := wrT_list t
  have hb9 := hb
  rw [hwr, ByteArray.size_append] at hb9
  obtain ⟨va, vc, rfl, _, _, _⟩ := hw.own_shape
  refine calls_of_g (n := 57) Try.func90 rfl rfl rfl ?_
  change G _ _ _ _ _ [(0, _), (1, _)] _
  refine g_seq ?_
  refine g_region ?_
  refine rl_k rfl (k_box hw rfl rfl rfl (fun bk0_0 w hw => ?_))
  refine xV rfl rfl rfl (v_assign rfl) ?_
  refine rl_nil (g_le (xK (xK (Fr.le_refl _))) ?_)
  refine g_seq ?_
  refine g_region ?_
  refine xV rfl rfl rfl (v_move rfl) ?_
  refine xV rfl rfl rfl (v_fieldAddr0 T.fld_111_0_0 rfl) ?_
  refine rl_v rfl rfl rfl (by exact sat_cell hw (by (repeat first | with_reducible exact xH | apply xT); first | done | fail) rfl) (v_load T.scal_3 rfl) ?_
  refine xV rfl rfl rfl (v_convInt T.int_5_u8 T.int_3_i64 rfl) ?_
  rw [show IntKind.u8.wrap t.kind = ((UInt8.ofNat t.kind.toNat).toNat : Int) by rw [IntKind.wrap_u8, UInt8.toNat_ofNat']; omega]
  refine rl_k rfl (k_buildSlice (cells := [_]) hw T.sl_60_5_1 T.zero_5 rfl rfl rfl rfl rfl rfl (fun bk1_4 w hw => ?_))
  refine rl_k rfl (k_append (news := [_]) hw T.sl_60_5_1 T.zero_5 T.bytes_5_1 rfl (by decide) rfl rfl (by (repeat first | with_reducible exact xH | apply xT); first | done | fail) rfl (by exact sat_cells hw (by (repeat first | with_reducible exact xH | apply xT); first | done | fail) ⟨rfl, trivial⟩) (by simp [Value.oneCell']) (by omega) (by simp only [maxLen]; omega) rfl (fun vv1_5 w hw hnil => ?_))
  have hw := hw.own_byte
  have hz := hw
  clear hw
  obtain ⟨va2, vc2, rfl, _, _, _⟩ := hz.own_shape
  have hw := hz
  clear hz
  have hs1 : (s ++ ByteArray.mk #[UInt8.ofNat t.kind.toNat]).size = s.size + 1 := by rw [ByteArray.size_append]; rfl
  have hm1 : (ByteArray.mk #[UInt8.ofNat t.kind.toNat]).size = 1 := rfl
  refine xV rfl rfl rfl (v_assign rfl) ?_
  refine rl_nil (g_le (xK (xS rfl (xS rfl (xS rfl (xS rfl (xS rfl (xS rfl (Fr.le_refl _)))))))) ?_)
  refine g_seq (g_seq ?_)
  refine g_region ?_
  refine xV rfl rfl rfl (v_fieldAddr0 T.fld_111_0_0 rfl) ?_
  refine rl_v rfl rfl rfl (by exact sat_cell hw (by (repeat first | with_reducible exact xH | apply xT); first | done | fail) rfl) (v_load T.scal_3 rfl) ?_
  refine rl_nil (g_le (xK (xS rfl (Fr.le_refl _))) ?_)
  refine g_cutc (σ := Value) (fun C x => (0, x) :: C) [(3, _), (4, _)] (by repeat (first | exact Fr.le_nil _ | refine Fr.le_cons rfl ?_)) (fun z w => Sat E w (TxA z (s ++ headT t) :: pt bk0_0 (.cells [Value.int .i64 t.kind, .int .u64 t.num, .string t.bytes, .slice a t.list.length c].toArray 111 (0, 0)) :: RO g :: L)) ?_ ?_
  · skip
    rintro v w hw
    all_goals
      refine g_seq (g_seq ?_)
      refine g_region ?_
      refine xV rfl rfl rfl (v_fieldAddr0 T.fld_111_3_3 rfl) ?_
      refine rl_v rfl rfl rfl (by exact sat_cell hw (by (repeat first | with_reducible exact xH | apply xT); first | done | fail) rfl) (v_load T.scal_109 rfl) ?_
      refine xV rfl rfl rfl (v_lenSlice T.sl_109_111_4 rfl) ?_
      refine xV rfl rfl rfl (v_move rfl) ?_
      refine rl_nil (g_le (xK (xK (xK (xS rfl (Fr.le_refl _))))) ?_)
      refine g_block ?_
      refine g_loopC (σ := Int × Value) (fun C x => (48, .int .i64 x.1) :: (0, x.2) :: C) [(4, _), (46, _), (47, _)] (by repeat (first | exact Fr.le_nil _ | refine Fr.le_cons rfl ?_)) (fun z w => 0 ≤ z.1 ∧ z.1 ≤ t.list.length ∧ Sat E w (TxA z.2 (s ++ headT t ++ wrL (t.list.take z.1.toNat)) :: RO g :: L)) (fun z => (t.list.length - z.1).toNat) ?_ (0, _) (by repeat (first | exact Fr.le_nil _ | refine Fr.le_cons rfl ?_)) ⟨by simp, by simp, by simp only [Int.toNat_zero, List.take_zero, wrL, ByteArray.append_empty]; exact hw.xQ⟩
      rintro ⟨i, v⟩ w ⟨hi0, hi1, hw⟩ ih
      dsimp only at hi0 hi1 hw ih ⊢
      refine g_seq ?_
      refine g_region ?_
      refine xV rfl rfl rfl (v_lss rfl rfl) ?_
      refine rl_nil (g_le (xK (Fr.le_refl _)) ?_)
      refine g_seq ?_
      refine g_cond rfl (fun h6 => ?_) (fun h6 => ?_)
      · try with_reducible exact ft_elim h6
        all_goals
          try replace h6 := of_decide_eq_true h6
          try (exfalso; omega)
          all_goals
            refine g_skip (g_seq (g_block (g_seq ?_)))
            have hz := hw
            clear hw
            obtain ⟨b4, o1, x, ecs, rfl, hx, hat1, hl1, hrd⟩ := g1 i hi0 (by omega)
            have hmem := List.mem_of_getElem? hx
            have hhx := hL_mem hmem
            have htk := wrL_take hx
            have htl := wrL_take_le t.list (i.toNat + 1)
            rw [htk, ByteArray.size_append] at htl
            obtain ⟨xa, xc, rfl, _⟩ := tm_shape hrd
            have hw := hz
            refine g_region ?_
            refine xV rfl rfl rfl (v_indexAddr T.sl_109_111_4 rfl rfl (by omega) (by omega)) ?_
            refine rl_v rfl rfl rfl (by exact ro_ats hw (by (repeat first | with_reducible exact xH | apply xT); first | done | fail) (by assumption)) (v_loadAgg (vs := [_, _, _, _]) T.agg_111_4 rfl rfl) ?_
            refine rl_k rfl (k_alloc hw T.zero_111 rfl rfl (fun bk13_2 w hw => ?_))
            refine rl_k rfl (k_storeWhole hw T.agg_111_4 rfl rfl (by simp [Value.oneCell']) rfl (by (repeat first | with_reducible exact xH | apply xT); first | done | fail) rfl (fun w hw => ?_))
            refine rl_nil (g_le (xK (xK (xK (Fr.le_refl _)))) ?_)
            refine g_region ?_
            refine xV rfl rfl rfl (v_move rfl) ?_
            refine rl_v rfl rfl rfl (by exact sat_cells hw (by (repeat first | with_reducible exact xH | apply xT); first | done | fail) ⟨rfl, rfl, rfl, rfl, trivial⟩) (v_loadAgg (vs := [_, _, _, _]) T.agg_111_4 rfl rfl) ?_
            refine rl_k rfl (k_callf Try.func90 rfl rfl rfl rfl ?_)
            refine Calls.mono (ih0 (s := s ++ headT t ++ wrL (t.list.take i.toNat)) (by omega) (shL_mem hshl hmem) hrd (by rw [ByteArray.size_append, ByteArray.size_append]; omega) (hw.xQ)) ?_
            rintro _ w ⟨v2, rfl, hw⟩
            refine ⟨_, rfl, ?_⟩
            refine xV rfl rfl rfl (v_assign rfl) ?_
            refine rl_nil (g_le (xK (xK (xK (xK (Fr.le_refl _))))) ?_)
            refine g_inBlock ?_
            refine g_region ?_
            refine xV rfl rfl rfl (v_add rfl rfl (by omega)) ?_
            refine xV rfl rfl rfl (v_move rfl) ?_
            refine rl_nil (g_le (xK (xK (Fr.le_refl _))) ?_)
            exact g_le (by repeat (first | exact Fr.le_nil _ | refine Fr.le_cons rfl ?_)) (ih (i + 1, v2) w ⟨by simp only; omega, by simp only; omega, by simp only; rw [show (i + 1).toNat = i.toNat + 1 by omega, htk, ← ByteArray.append_assoc]; exact hw.xQ⟩ (by simp only; omega))
      · try with_reducible exact tf_elim h6
        all_goals
          try replace h6 := of_decide_eq_false h6
          try (exfalso; omega)
          all_goals
            refine g_exit rfl (g_seq ?_)
            refine g_region ?_
            refine xV rfl rfl rfl (v_move rfl) ?_
            refine xV rfl rfl rfl (v_assign rfl) ?_
            refine rl_nil (g_le (xK (xS rfl (Fr.le_refl _))) ?_)
            refine g_ret1 Try.func90 rfl rfl ?_
            rw [List.take_of_length_le (by omega)] at hw
            rw [hwr, ← ByteArray.append_assoc]
            exact ⟨_, rfl, hw.xQ⟩
  · intro joinb0
    refine g_block (g_seq (g_seq ?_))
    refine g_region ?_
    refine xV rfl rfl rfl (v_eql rfl rfl) ?_
    refine xV rfl rfl rfl (v_assign rfl) ?_
    refine rl_nil (g_le (xK (xS rfl (Fr.le_refl _))) ?_)
    refine g_cond rfl (fun h1 => ?_) (fun h1 => ?_)
    · try with_reducible exact ft_elim h1
      all_goals
        try replace h1 := of_decide_eq_true h1
        try (exfalso; omega)
        all_goals
          refine g_skip ?_
          refine g_cond rfl (fun h3 => ?_) (fun h3 => ?_)
          · try with_reducible exact ft_elim h3
            all_goals
              try replace h3 := of_decide_eq_true h3
              try (exfalso; omega)
              all_goals
                have hh := head_num (t := t) (by omega)
                rw [hh, ByteArray.size_append] at hb9
                refine g_region ?_
                refine xV rfl rfl rfl (v_move rfl) ?_
                refine xV rfl rfl rfl (v_fieldAddr0 T.fld_111_1_1 rfl) ?_
                refine rl_v rfl rfl rfl (by exact sat_cell hw (by (repeat first | with_reducible exact xH | apply xT); first | done | fail) rfl) (v_load T.scal_49 rfl) ?_
                refine rl_k rfl (k_callf Try.func98 rfl rfl rfl rfl ?_)
                refine Calls.mono (putNumI_calls t.num n0 n1 hw) ?_
                rintro _ w ⟨rfl, hw⟩
                refine ⟨_, rfl, ?_⟩
                refine rl_k rfl (k_appendStr hw T.sl_60_5_1 T.str_9 T.zero_5 T.bytes_5_1 rfl rfl (by (repeat first | with_reducible exact xH | apply xT); first | done | fail) (by omega) rfl (fun vv6_4 w hw hnil => ?_))
                have hw := hw.own_text
                rw [ByteArray.append_assoc, ← hh] at hw
                refine xV rfl rfl rfl (v_assign rfl) ?_
                refine rl_nil (g_le (xK (xS rfl (xS rfl (xS rfl (xS rfl (xS rfl (Fr.le_refl _))))))) ?_)
                refine g_inBlock ?_
                exact joinb0 _ w _ (by repeat (first | exact Fr.le_nil _ | refine Fr.le_cons rfl ?_)) (hw.xQ)
          · try with_reducible exact tf_elim h3
            all_goals
              try replace h3 := of_decide_eq_false h3
              try (exfalso; omega)
              all_goals
                refine g_seq ?_
                refine g_region ?_
                first | (refine xV rfl rfl rfl (v_eqlT rfl rfl (by first | omega | rfl)) ?_) | (refine xV rfl rfl rfl (v_eqlF rfl rfl (by omega)) ?_) | (refine xV rfl rfl rfl (v_eql rfl rfl) ?_)
                refine xV rfl rfl rfl (v_assign rfl) ?_
                refine rl_nil (g_le (xK (xS rfl (Fr.le_refl _))) ?_)
                refine g_cond rfl (fun h4 => ?_) (fun h4 => ?_)
                · try with_reducible exact ft_elim h4
                  all_goals
                    try replace h4 := of_decide_eq_true h4
                    try (exfalso; omega)
                    all_goals
                      have hh := head_atom (t := t) (by omega)
                      rw [hh, ByteArray.size_append, ByteArray.size_append] at hb9
                      have hw := hw.xP (A := TxA (.slice va2 (s ++ ByteArray.mk #[UInt8.ofNat t.kind.toNat]).size vc2) (s ++ ByteArray.mk #[UInt8.ofNat t.kind.toNat]))
                      refine g_drawB ord_f90_r8_U02c (by kernel_rfl) T.mixed (fun w hw => (hw.pick .at0).drop) hw (fun w hw => ?_)
                      refine rs_a 0 rfl rfl rfl rfl (v_move rfl) ?_
                      first | (refine rs_a 1 rfl rfl rfl rfl (v_fieldAddr0 T.fld_111_2_2 rfl) ?_) | (refine rs_a 1 rfl rfl rfl rfl (v_fieldAddr T.fld_111_2_2 rfl) ?_)
                      first | (refine rs_a 7 rfl rfl rfl rfl (v_fieldAddr0 T.fld_111_2_2 rfl) ?_) | (refine rs_a 7 rfl rfl rfl rfl (v_fieldAddr T.fld_111_2_2 rfl) ?_)
                      refine rs_v 2 rfl rfl rfl rfl (OpV.mono (v_load T.scal_9 rfl) (fun w hw => by first | exact sat_cell hw (by (repeat first | with_reducible exact xH | apply xT); first | done | fail) rfl | exact own_cell hw (by (repeat first | with_reducible exact xH | apply xT); first | done | fail) (by first | rfl | assumption) | exact ro_at0 hw (by (repeat first | with_reducible exact xH | apply xT); first | done | fail) (by assumption) rfl | exact ro_at hw (by (repeat first | with_reducible exact xH | apply xT); first | done | fail) (by assumption) rfl | exact own_at0 hw (by (repeat first | with_reducible exact xH | apply xT); first | done | fail) (by assumption) rfl | exact own_at hw (by (repeat first | with_reducible exact xH | apply xT); first | done | fail) (by assumption) rfl | exact old_cell hw (by (repeat first | with_reducible exact xH | apply xT); first | done | fail) (by assumption) | assumption)) (by first | exact hw | exact Sat.sub hw (by (repeat (first | with_reducible exact Sub.refl _ | exact Sub.nil _ | (apply Sub.cons; focus ((repeat (first | with_reducible exact Pick.here _ | apply Pick.there)); (first | done | fail))) | with_reducible apply Sub.drop)); first | done | fail)) ?_
                      refine rs_a 3 rfl rfl rfl rfl (v_lenStr T.str_9 rfl) ?_
                      first | (refine rs_a 4 rfl rfl rfl rfl (v_convU T.int_49_u64 T.int_3_i64 rfl (by omega) (by omega)) ?_) | (refine rs_a 4 rfl rfl rfl rfl (v_convInt T.int_49_u64 T.int_3_i64 rfl) ?_)
                      refine rs_v 8 rfl rfl rfl rfl (OpV.mono (v_load T.scal_9 rfl) (fun w hw => by first | exact sat_cell hw (by (repeat first | with_reducible exact xH | apply xT); first | done | fail) rfl | exact own_cell hw (by (repeat first | with_reducible exact xH | apply xT); first | done | fail) (by first | rfl | assumption) | exact ro_at0 hw (by (repeat first | with_reducible exact xH | apply xT); first | done | fail) (by assumption) rfl | exact ro_at hw (by (repeat first | with_reducible exact xH | apply xT); first | done | fail) (by assumption) rfl | exact own_at0 hw (by (repeat first | with_reducible exact xH | apply xT); first | done | fail) (by assumption) rfl | exact own_at hw (by (repeat first | with_reducible exact xH | apply xT); first | done | fail) (by assumption) rfl | exact old_cell hw (by (repeat first | with_reducible exact xH | apply xT); first | done | fail) (by assumption) | assumption)) (by first | exact hw | exact Sat.sub hw (by (repeat (first | with_reducible exact Sub.refl _ | exact Sub.nil _ | (apply Sub.cons; focus ((repeat (first | with_reducible exact Pick.here _ | apply Pick.there)); (first | done | fail))) | with_reducible apply Sub.drop)); first | done | fail)) ?_
                      refine rs_k 5 rfl rfl (k_callf Try.func98 rfl rfl rfl rfl ?_)
                      refine Calls.mono (putNumI_calls (t.bytes.size : Nat) (by omega) (by omega) hw) ?_
                      rw [Int.toNat_natCast]
                      rintro _ w ⟨rfl, hw⟩
                      refine ⟨_, rfl, ?_⟩
                      refine ⟨fun _ => (by first | exact hw | exact Sat.sub hw (by (repeat (first | with_reducible exact Sub.refl _ | exact Sub.nil _ | (apply Sub.cons; focus ((repeat (first | with_reducible exact Pick.here _ | apply Pick.there)); (first | done | fail))) | with_reducible apply Sub.drop)); first | done | fail) | exact Sat.sub (Sat.shrink (Sat.pick hw (by (repeat first | with_reducible exact xH | apply xT); first | done | fail)) (by assumption)) (by (repeat (first | with_reducible exact Sub.refl _ | exact Sub.nil _ | (apply Sub.cons; focus ((repeat (first | with_reducible exact Pick.here _ | apply Pick.there)); (first | done | fail))) | with_reducible apply Sub.drop)); first | done | fail)), ?_⟩
                      refine rs_k 6 rfl rfl (k_appendStr hw T.sl_60_5_1 T.str_9 T.zero_5 T.bytes_5_1 rfl rfl (by (repeat first | with_reducible exact xH | apply xT); first | done | fail) (by omega) rfl (fun vv8_6 w hw hnil => ?_))
                      refine ⟨fun _ => (by first | exact hw | exact Sat.sub hw (by (repeat (first | with_reducible exact Sub.refl _ | exact Sub.nil _ | (apply Sub.cons; focus ((repeat (first | with_reducible exact Pick.here _ | apply Pick.there)); (first | done | fail))) | with_reducible apply Sub.drop)); first | done | fail) | exact Sat.sub (Sat.shrink (Sat.pick hw (by (repeat first | with_reducible exact xH | apply xT); first | done | fail)) (by assumption)) (by (repeat (first | with_reducible exact Sub.refl _ | exact Sub.nil _ | (apply Sub.cons; focus ((repeat (first | with_reducible exact Pick.here _ | apply Pick.there)); (first | done | fail))) | with_reducible apply Sub.drop)); first | done | fail)), ?_⟩
                      have hw := hw.own_text
                      have hs2 : (s ++ ByteArray.mk #[UInt8.ofNat t.kind.toNat] ++ putN t.bytes.size).size = s.size + 1 + (putN t.bytes.size).size := by rw [ByteArray.size_append, hs1]
                      have hz := hw
                      clear hw
                      obtain ⟨va3, vc3, rfl, _, _, _⟩ := hz.own_shape
                      have hw := hz
                      clear hz
                      refine rs_k 9 rfl rfl (k_appendStr hw T.sl_60_5_1 T.str_9 T.zero_5 T.bytes_5_1 rfl rfl (by (repeat first | with_reducible exact xH | apply xT); first | done | fail) (by omega) rfl (fun vv8_9 w hw hnil => ?_))
                      refine ⟨fun hn => absurd (by decide) hn, ?_⟩
                      have hw := hw.own_text
                      rw [ByteArray.append_assoc, ByteArray.append_assoc, ← hh] at hw
                      refine rs_kv 10 rfl rfl rfl rfl (S' := fun _ => True) trivial (v_assign rfl) ?_
                      refine rs_done (g_le (xK (xS rfl (xS rfl (xS rfl (xS rfl (xS rfl (xS rfl (xS rfl (xS rfl (xS rfl (xS rfl (Fr.le_refl _)))))))))))) ?_)
                      refine g_inBlock ?_
                      exact joinb0 _ w _ (by repeat (first | exact Fr.le_nil _ | refine Fr.le_cons rfl ?_)) (hw.xQ)
                · try with_reducible exact tf_elim h4
                  all_goals
                    try replace h4 := of_decide_eq_false h4
                    try (exfalso; omega)
                    all_goals
                      refine g_seq ?_
                      refine g_region ?_
                      first | (refine xV rfl rfl rfl (v_eqlT rfl rfl (by first | omega | rfl)) ?_) | (refine xV rfl rfl rfl (v_eqlF rfl rfl (by omega)) ?_) | (refine xV rfl rfl rfl (v_eql rfl rfl) ?_)
                      refine xV rfl rfl rfl (v_assign rfl) ?_
                      refine rl_nil (g_le (xK (xS rfl (Fr.le_refl _))) ?_)
                      refine g_cond rfl (fun h5 => ?_) (fun h5 => ?_)
                      · try with_reducible exact ft_elim h5
                        all_goals
                          try replace h5 := of_decide_eq_true h5
                          try (exfalso; omega)
                          all_goals
                            have hh := head_row (t := t) (by omega)
                            rw [hh, ByteArray.size_append] at hb9
                            refine g_region ?_
                            refine xV rfl rfl rfl (v_move rfl) ?_
                            first | (refine xV rfl rfl rfl (v_fieldAddr0 T.fld_111_3_3 rfl) ?_) | (refine xV rfl rfl rfl (v_fieldAddr T.fld_111_3_3 rfl) ?_)
                            refine rl_v rfl rfl rfl (by first | exact sat_cell hw (by (repeat first | with_reducible exact xH | apply xT); first | done | fail) rfl | exact own_cell hw (by (repeat first | with_reducible exact xH | apply xT); first | done | fail) (by first | rfl | assumption) | exact ro_at0 hw (by (repeat first | with_reducible exact xH | apply xT); first | done | fail) (by assumption) rfl | exact ro_at hw (by (repeat first | with_reducible exact xH | apply xT); first | done | fail) (by assumption) rfl | exact own_at0 hw (by (repeat first | with_reducible exact xH | apply xT); first | done | fail) (by assumption) rfl | exact own_at hw (by (repeat first | with_reducible exact xH | apply xT); first | done | fail) (by assumption) rfl | exact old_cell hw (by (repeat first | with_reducible exact xH | apply xT); first | done | fail) (by assumption) | assumption) (v_load T.scal_109 rfl) ?_
                            refine xV rfl rfl rfl (v_lenSlice T.sl_109_111_4 rfl) ?_
                            first | (refine xV rfl rfl rfl (v_convU T.int_49_u64 T.int_3_i64 rfl (by omega) (by omega)) ?_) | (refine xV rfl rfl rfl (v_convInt T.int_49_u64 T.int_3_i64 rfl) ?_)
                            refine rl_k rfl (k_callf Try.func98 rfl rfl rfl rfl ?_)
                            refine Calls.mono (putNumI_calls (t.list.length : Nat) (by omega) (by omega) hw) ?_
                            rw [Int.toNat_natCast]
                            rintro _ w ⟨rfl, hw⟩
                            refine ⟨_, rfl, ?_⟩
                            refine rl_k rfl (k_appendStr hw T.sl_60_5_1 T.str_9 T.zero_5 T.bytes_5_1 rfl rfl (by (repeat first | with_reducible exact xH | apply xT); first | done | fail) (by omega) rfl (fun vv10_6 w hw hnil => ?_))
                            have hw := hw.own_text
                            rw [ByteArray.append_assoc, ← hh] at hw
                            refine xV rfl rfl rfl (v_assign rfl) ?_
                            refine rl_nil (g_le (xK (xS rfl (xS rfl (xS rfl (xS rfl (xS rfl (xS rfl (xS rfl (Fr.le_refl _))))))))) ?_)
                            refine g_inBlock ?_
                            exact joinb0 _ w _ (by repeat (first | exact Fr.le_nil _ | refine Fr.le_cons rfl ?_)) (hw.xQ)
                      · try with_reducible exact tf_elim h5
                        all_goals
                          try replace h5 := of_decide_eq_false h5
                          try (exfalso; omega)
                          all_goals
                            refine g_skip (g_inBlock ?_)
                            exact joinb0 _ w _ (by repeat (first | exact Fr.le_nil _ | refine Fr.le_cons rfl ?_)) (hw.xQ)
    · try with_reducible exact tf_elim h1
      all_goals
        try replace h1 := of_decide_eq_false h1
        try (exfalso; omega)
        all_goals
          refine g_seq ?_
          refine g_region ?_
          refine xV rfl rfl rfl (v_eql rfl rfl) ?_
          refine xV rfl rfl rfl (v_assign rfl) ?_
          refine rl_nil (g_le (xK (xS rfl (Fr.le_refl _))) ?_)
          refine g_cond rfl (fun h2 => ?_) (fun h2 => ?_)
          · try with_reducible exact ft_elim h2
            all_goals
              try replace h2 := of_decide_eq_true h2
              try (exfalso; omega)
              all_goals
                refine g_skip ?_
                refine g_cond rfl (fun h3 => ?_) (fun h3 => ?_)
                · try with_reducible exact ft_elim h3
                  all_goals
                    try replace h3 := of_decide_eq_true h3
                    try (exfalso; omega)
                    all_goals
                      have hh := head_num (t := t) (by omega)
                      rw [hh, ByteArray.size_append] at hb9
                      refine g_region ?_
                      refine xV rfl rfl rfl (v_move rfl) ?_
                      refine xV rfl rfl rfl (v_fieldAddr0 T.fld_111_1_1 rfl) ?_
                      refine rl_v rfl rfl rfl (by exact sat_cell hw (by (repeat first | with_reducible exact xH | apply xT); first | done | fail) rfl) (v_load T.scal_49 rfl) ?_
                      refine rl_k rfl (k_callf Try.func98 rfl rfl rfl rfl ?_)
                      refine Calls.mono (putNumI_calls t.num n0 n1 hw) ?_
                      rintro _ w ⟨rfl, hw⟩
                      refine ⟨_, rfl, ?_⟩
                      refine rl_k rfl (k_appendStr hw T.sl_60_5_1 T.str_9 T.zero_5 T.bytes_5_1 rfl rfl (by (repeat first | with_reducible exact xH | apply xT); first | done | fail) (by omega) rfl (fun vv6_4 w hw hnil => ?_))
                      have hw := hw.own_text
                      rw [ByteArray.append_assoc, ← hh] at hw
                      refine xV rfl rfl rfl (v_assign rfl) ?_
                      refine rl_nil (g_le (xK (xS rfl (xS rfl (xS rfl (xS rfl (xS rfl (Fr.le_refl _))))))) ?_)
                      refine g_inBlock ?_
                      exact joinb0 _ w _ (by repeat (first | exact Fr.le_nil _ | refine Fr.le_cons rfl ?_)) (hw.xQ)
                · try with_reducible exact tf_elim h3
                  all_goals
                    try replace h3 := of_decide_eq_false h3
                    try (exfalso; omega)
                    all_goals
                      refine g_seq ?_
                      refine g_region ?_
                      first | (refine xV rfl rfl rfl (v_eqlT rfl rfl (by first | omega | rfl)) ?_) | (refine xV rfl rfl rfl (v_eqlF rfl rfl (by omega)) ?_) | (refine xV rfl rfl rfl (v_eql rfl rfl) ?_)
                      refine xV rfl rfl rfl (v_assign rfl) ?_
                      refine rl_nil (g_le (xK (xS rfl (Fr.le_refl _))) ?_)
                      refine g_cond rfl (fun h4 => ?_) (fun h4 => ?_)
                      · try with_reducible exact ft_elim h4
                        all_goals
                          try replace h4 := of_decide_eq_true h4
                          try (exfalso; omega)
                          all_goals
                            have hh := head_atom (t := t) (by omega)
                            rw [hh, ByteArray.size_append, ByteArray.size_append] at hb9
                            have hw := hw.xP (A := TxA (.slice va2 (s ++ ByteArray.mk #[UInt8.ofNat t.kind.toNat]).size vc2) (s ++ ByteArray.mk #[UInt8.ofNat t.kind.toNat]))
                            refine g_drawB ord_f90_r8_U02c (by kernel_rfl) T.mixed (fun w hw => (hw.pick .at0).drop) hw (fun w hw => ?_)
                            refine rs_a 0 rfl rfl rfl rfl (v_move rfl) ?_
                            first | (refine rs_a 1 rfl rfl rfl rfl (v_fieldAddr0 T.fld_111_2_2 rfl) ?_) | (refine rs_a 1 rfl rfl rfl rfl (v_fieldAddr T.fld_111_2_2 rfl) ?_)
                            first | (refine rs_a 7 rfl rfl rfl rfl (v_fieldAddr0 T.fld_111_2_2 rfl) ?_) | (refine rs_a 7 rfl rfl rfl rfl (v_fieldAddr T.fld_111_2_2 rfl) ?_)
                            refine rs_v 2 rfl rfl rfl rfl (OpV.mono (v_load T.scal_9 rfl) (fun w hw => by first | exact sat_cell hw (by (repeat first | with_reducible exact xH | apply xT); first | done | fail) rfl | exact own_cell hw (by (repeat first | with_reducible exact xH | apply xT); first | done | fail) (by first | rfl | assumption) | exact ro_at0 hw (by (repeat first | with_reducible exact xH | apply xT); first | done | fail) (by assumption) rfl | exact ro_at hw (by (repeat first | with_reducible exact xH | apply xT); first | done | fail) (by assumption) rfl | exact own_at0 hw (by (repeat first | with_reducible exact xH | apply xT); first | done | fail) (by assumption) rfl | exact own_at hw (by (repeat first | with_reducible exact xH | apply xT); first | done | fail) (by assumption) rfl | exact old_cell hw (by (repeat first | with_reducible exact xH | apply xT); first | done | fail) (by assumption) | assumption)) (by first | exact hw | exact Sat.sub hw (by (repeat (first | with_reducible exact Sub.refl _ | exact Sub.nil _ | (apply Sub.cons; focus ((repeat (first | with_reducible exact Pick.here _ | apply Pick.there)); (first | done | fail))) | with_reducible apply Sub.drop)); first | done | fail)) ?_
                            refine rs_a 3 rfl rfl rfl rfl (v_lenStr T.str_9 rfl) ?_
                            first | (refine rs_a 4 rfl rfl rfl rfl (v_convU T.int_49_u64 T.int_3_i64 rfl (by omega) (by omega)) ?_) | (refine rs_a 4 rfl rfl rfl rfl (v_convInt T.int_49_u64 T.int_3_i64 rfl) ?_)
                            refine rs_v 8 rfl rfl rfl rfl (OpV.mono (v_load T.scal_9 rfl) (fun w hw => by first | exact sat_cell hw (by (repeat first | with_reducible exact xH | apply xT); first | done | fail) rfl | exact own_cell hw (by (repeat first | with_reducible exact xH | apply xT); first | done | fail) (by first | rfl | assumption) | exact ro_at0 hw (by (repeat first | with_reducible exact xH | apply xT); first | done | fail) (by assumption) rfl | exact ro_at hw (by (repeat first | with_reducible exact xH | apply xT); first | done | fail) (by assumption) rfl | exact own_at0 hw (by (repeat first | with_reducible exact xH | apply xT); first | done | fail) (by assumption) rfl | exact own_at hw (by (repeat first | with_reducible exact xH | apply xT); first | done | fail) (by assumption) rfl | exact old_cell hw (by (repeat first | with_reducible exact xH | apply xT); first | done | fail) (by assumption) | assumption)) (by first | exact hw | exact Sat.sub hw (by (repeat (first | with_reducible exact Sub.refl _ | exact Sub.nil _ | (apply Sub.cons; focus ((repeat (first | with_reducible exact Pick.here _ | apply Pick.there)); (first | done | fail))) | with_reducible apply Sub.drop)); first | done | fail)) ?_
                            refine rs_k 5 rfl rfl (k_callf Try.func98 rfl rfl rfl rfl ?_)
                            refine Calls.mono (putNumI_calls (t.bytes.size : Nat) (by omega) (by omega) hw) ?_
                            rw [Int.toNat_natCast]
                            rintro _ w ⟨rfl, hw⟩
                            refine ⟨_, rfl, ?_⟩
                            refine ⟨fun _ => (by first | exact hw | exact Sat.sub hw (by (repeat (first | with_reducible exact Sub.refl _ | exact Sub.nil _ | (apply Sub.cons; focus ((repeat (first | with_reducible exact Pick.here _ | apply Pick.there)); (first | done | fail))) | with_reducible apply Sub.drop)); first | done | fail) | exact Sat.sub (Sat.shrink (Sat.pick hw (by (repeat first | with_reducible exact xH | apply xT); first | done | fail)) (by assumption)) (by (repeat (first | with_reducible exact Sub.refl _ | exact Sub.nil _ | (apply Sub.cons; focus ((repeat (first | with_reducible exact Pick.here _ | apply Pick.there)); (first | done | fail))) | with_reducible apply Sub.drop)); first | done | fail)), ?_⟩
                            refine rs_k 6 rfl rfl (k_appendStr hw T.sl_60_5_1 T.str_9 T.zero_5 T.bytes_5_1 rfl rfl (by (repeat first | with_reducible exact xH | apply xT); first | done | fail) (by omega) rfl (fun vv8_6 w hw hnil => ?_))
                            refine ⟨fun _ => (by first | exact hw | exact Sat.sub hw (by (repeat (first | with_reducible exact Sub.refl _ | exact Sub.nil _ | (apply Sub.cons; focus ((repeat (first | with_reducible exact Pick.here _ | apply Pick.there)); (first | done | fail))) | with_reducible apply Sub.drop)); first | done | fail) | exact Sat.sub (Sat.shrink (Sat.pick hw (by (repeat first | with_reducible exact xH | apply xT); first | done | fail)) (by assumption)) (by (repeat (first | with_reducible exact Sub.refl _ | exact Sub.nil _ | (apply Sub.cons; focus ((repeat (first | with_reducible exact Pick.here _ | apply Pick.there)); (first | done | fail))) | with_reducible apply Sub.drop)); first | done | fail)), ?_⟩
                            have hw := hw.own_text
                            have hs2 : (s ++ ByteArray.mk #[UInt8.ofNat t.kind.toNat] ++ putN t.bytes.size).size = s.size + 1 + (putN t.bytes.size).size := by rw [ByteArray.size_append, hs1]
                            have hz := hw
                            clear hw
                            obtain ⟨va3, vc3, rfl, _, _, _⟩ := hz.own_shape
                            have hw := hz
                            clear hz
                            refine rs_k 9 rfl rfl (k_appendStr hw T.sl_60_5_1 T.str_9 T.zero_5 T.bytes_5_1 rfl rfl (by (repeat first | with_reducible exact xH | apply xT); first | done | fail) (by omega) rfl (fun vv8_9 w hw hnil => ?_))
                            refine ⟨fun hn => absurd (by decide) hn, ?_⟩
                            have hw := hw.own_text
                            rw [ByteArray.append_assoc, ByteArray.append_assoc, ← hh] at hw
                            refine rs_kv 10 rfl rfl rfl rfl (S' := fun _ => True) trivial (v_assign rfl) ?_
                            refine rs_done (g_le (xK (xS rfl (xS rfl (xS rfl (xS rfl (xS rfl (xS rfl (xS rfl (xS rfl (xS rfl (xS rfl (Fr.le_refl _)))))))))))) ?_)
                            refine g_inBlock ?_
                            exact joinb0 _ w _ (by repeat (first | exact Fr.le_nil _ | refine Fr.le_cons rfl ?_)) (hw.xQ)
                      · try with_reducible exact tf_elim h4
                        all_goals
                          try replace h4 := of_decide_eq_false h4
                          try (exfalso; omega)
                          all_goals
                            refine g_seq ?_
                            refine g_region ?_
                            first | (refine xV rfl rfl rfl (v_eqlT rfl rfl (by first | omega | rfl)) ?_) | (refine xV rfl rfl rfl (v_eqlF rfl rfl (by omega)) ?_) | (refine xV rfl rfl rfl (v_eql rfl rfl) ?_)
                            refine xV rfl rfl rfl (v_assign rfl) ?_
                            refine rl_nil (g_le (xK (xS rfl (Fr.le_refl _))) ?_)
                            refine g_cond rfl (fun h5 => ?_) (fun h5 => ?_)
                            · try with_reducible exact ft_elim h5
                              all_goals
                                try replace h5 := of_decide_eq_true h5
                                try (exfalso; omega)
                                all_goals
                                  have hh := head_row (t := t) (by omega)
                                  rw [hh, ByteArray.size_append] at hb9
                                  refine g_region ?_
                                  refine xV rfl rfl rfl (v_move rfl) ?_
                                  first | (refine xV rfl rfl rfl (v_fieldAddr0 T.fld_111_3_3 rfl) ?_) | (refine xV rfl rfl rfl (v_fieldAddr T.fld_111_3_3 rfl) ?_)
                                  refine rl_v rfl rfl rfl (by first | exact sat_cell hw (by (repeat first | with_reducible exact xH | apply xT); first | done | fail) rfl | exact own_cell hw (by (repeat first | with_reducible exact xH | apply xT); first | done | fail) (by first | rfl | assumption) | exact ro_at0 hw (by (repeat first | with_reducible exact xH | apply xT); first | done | fail) (by assumption) rfl | exact ro_at hw (by (repeat first | with_reducible exact xH | apply xT); first | done | fail) (by assumption) rfl | exact own_at0 hw (by (repeat first | with_reducible exact xH | apply xT); first | done | fail) (by assumption) rfl | exact own_at hw (by (repeat first | with_reducible exact xH | apply xT); first | done | fail) (by assumption) rfl | exact old_cell hw (by (repeat first | with_reducible exact xH | apply xT); first | done | fail) (by assumption) | assumption) (v_load T.scal_109 rfl) ?_
                                  refine xV rfl rfl rfl (v_lenSlice T.sl_109_111_4 rfl) ?_
                                  first | (refine xV rfl rfl rfl (v_convU T.int_49_u64 T.int_3_i64 rfl (by omega) (by omega)) ?_) | (refine xV rfl rfl rfl (v_convInt T.int_49_u64 T.int_3_i64 rfl) ?_)
                                  refine rl_k rfl (k_callf Try.func98 rfl rfl rfl rfl ?_)
                                  refine Calls.mono (putNumI_calls (t.list.length : Nat) (by omega) (by omega) hw) ?_
                                  rw [Int.toNat_natCast]
                                  rintro _ w ⟨rfl, hw⟩
                                  refine ⟨_, rfl, ?_⟩
                                  refine rl_k rfl (k_appendStr hw T.sl_60_5_1 T.str_9 T.zero_5 T.bytes_5_1 rfl rfl (by (repeat first | with_reducible exact xH | apply xT); first | done | fail) (by omega) rfl (fun vv10_6 w hw hnil => ?_))
                                  have hw := hw.own_text
                                  rw [ByteArray.append_assoc, ← hh] at hw
                                  refine xV rfl rfl rfl (v_assign rfl) ?_
                                  refine rl_nil (g_le (xK (xS rfl (xS rfl (xS rfl (xS rfl (xS rfl (xS rfl (xS rfl (Fr.le_refl _))))))))) ?_)
                                  refine g_inBlock ?_
                                  exact joinb0 _ w _ (by repeat (first | exact Fr.le_nil _ | refine Fr.le_cons rfl ?_)) (hw.xQ)
                            · try with_reducible exact tf_elim h5
                              all_goals
                                try replace h5 := of_decide_eq_false h5
                                try (exfalso; omega)
                                all_goals
                                  refine g_skip (g_inBlock ?_)
                                  exact joinb0 _ w _ (by repeat (first | exact Fr.le_nil _ | refine Fr.le_cons rfl ?_)) (hw.xQ)
          · try with_reducible exact tf_elim h2
            all_goals
              try replace h2 := of_decide_eq_false h2
              try (exfalso; omega)
              all_goals
                refine g_region ?_
                refine xV rfl rfl rfl (v_eql rfl rfl) ?_
                refine xV rfl rfl rfl (v_assign rfl) ?_
                refine rl_nil (g_le (xK (xS rfl (Fr.le_refl _))) ?_)
                refine g_cond rfl (fun h3 => ?_) (fun h3 => ?_)
                · try with_reducible exact ft_elim h3
                  all_goals
                    try replace h3 := of_decide_eq_true h3
                    try (exfalso; omega)
                    all_goals
                      have hh := head_num (t := t) (by omega)
                      rw [hh, ByteArray.size_append] at hb9
                      refine g_region ?_
                      refine xV rfl rfl rfl (v_move rfl) ?_
                      refine xV rfl rfl rfl (v_fieldAddr0 T.fld_111_1_1 rfl) ?_
                      refine rl_v rfl rfl rfl (by exact sat_cell hw (by (repeat first | with_reducible exact xH | apply xT); first | done | fail) rfl) (v_load T.scal_49 rfl) ?_
                      refine rl_k rfl (k_callf Try.func98 rfl rfl rfl rfl ?_)
                      refine Calls.mono (putNumI_calls t.num n0 n1 hw) ?_
                      rintro _ w ⟨rfl, hw⟩
                      refine ⟨_, rfl, ?_⟩
                      refine rl_k rfl (k_appendStr hw T.sl_60_5_1 T.str_9 T.zero_5 T.bytes_5_1 rfl rfl (by (repeat first | with_reducible exact xH | apply xT); first | done | fail) (by omega) rfl (fun vv6_4 w hw hnil => ?_))
                      have hw := hw.own_text
                      rw [ByteArray.append_assoc, ← hh] at hw
                      refine xV rfl rfl rfl (v_assign rfl) ?_
                      refine rl_nil (g_le (xK (xS rfl (xS rfl (xS rfl (xS rfl (xS rfl (Fr.le_refl _))))))) ?_)
                      refine g_inBlock ?_
                      exact joinb0 _ w _ (by repeat (first | exact Fr.le_nil _ | refine Fr.le_cons rfl ?_)) (hw.xQ)
                · try with_reducible exact tf_elim h3
                  all_goals
                    try replace h3 := of_decide_eq_false h3
                    try (exfalso; omega)
                    all_goals
                      refine g_seq ?_
                      refine g_region ?_
                      refine xV rfl rfl rfl (v_eql rfl rfl) ?_
                      refine xV rfl rfl rfl (v_assign rfl) ?_
                      refine rl_nil (g_le (xK (xS rfl (Fr.le_refl _))) ?_)
                      refine g_cond rfl (fun h4 => ?_) (fun h4 => ?_)
                      · try with_reducible exact ft_elim h4
                        all_goals
                          try replace h4 := of_decide_eq_true h4
                          try (exfalso; omega)
                          all_goals
                            have hh := head_atom (t := t) (by omega)
                            rw [hh, ByteArray.size_append, ByteArray.size_append] at hb9
                            have hw := hw.xP (A := TxA (.slice va2 (s ++ ByteArray.mk #[UInt8.ofNat t.kind.toNat]).size vc2) (s ++ ByteArray.mk #[UInt8.ofNat t.kind.toNat]))
                            refine g_drawB ord_f90_r8_U02c (by kernel_rfl) T.mixed (fun w hw => (hw.pick .at0).drop) hw (fun w hw => ?_)
                            refine rs_a 0 rfl rfl rfl rfl (v_move rfl) ?_
                            refine rs_a 1 rfl rfl rfl rfl (v_fieldAddr0 T.fld_111_2_2 rfl) ?_
                            refine rs_a 7 rfl rfl rfl rfl (v_fieldAddr0 T.fld_111_2_2 rfl) ?_
                            refine rs_v 2 rfl rfl rfl rfl (OpV.mono (v_load T.scal_9 rfl) (fun w hw => by exact sat_cell hw (by (repeat first | with_reducible exact xH | apply xT); first | done | fail) rfl)) (by exact Sat.sub hw (by (repeat (first | with_reducible exact Sub.refl _ | exact Sub.nil _ | (apply Sub.cons; focus ((repeat (first | with_reducible exact Pick.here _ | apply Pick.there)); (first | done | fail))) | with_reducible apply Sub.drop)); first | done | fail)) ?_
                            refine rs_a 3 rfl rfl rfl rfl (v_lenStr T.str_9 rfl) ?_
                            refine rs_a 4 rfl rfl rfl rfl (v_convU T.int_49_u64 T.int_3_i64 rfl (by omega) (by omega)) ?_
                            refine rs_v 8 rfl rfl rfl rfl (OpV.mono (v_load T.scal_9 rfl) (fun w hw => by exact sat_cell hw (by (repeat first | with_reducible exact xH | apply xT); first | done | fail) rfl)) (by exact Sat.sub hw (by (repeat (first | with_reducible exact Sub.refl _ | exact Sub.nil _ | (apply Sub.cons; focus ((repeat (first | with_reducible exact Pick.here _ | apply Pick.there)); (first | done | fail))) | with_reducible apply Sub.drop)); first | done | fail)) ?_
                            refine rs_k 5 rfl rfl (k_callf Try.func98 rfl rfl rfl rfl ?_)
                            refine Calls.mono (putNumI_calls (t.bytes.size : Nat) (by omega) (by omega) hw) ?_
                            rw [Int.toNat_natCast]
                            rintro _ w ⟨rfl, hw⟩
                            refine ⟨_, rfl, ?_⟩
                            refine ⟨fun _ => (by exact Sat.sub hw (by (repeat (first | with_reducible exact Sub.refl _ | exact Sub.nil _ | (apply Sub.cons; focus ((repeat (first | with_reducible exact Pick.here _ | apply Pick.there)); (first | done | fail))) | with_reducible apply Sub.drop)); first | done | fail)), ?_⟩
                            refine rs_k 6 rfl rfl (k_appendStr hw T.sl_60_5_1 T.str_9 T.zero_5 T.bytes_5_1 rfl rfl (by (repeat first | with_reducible exact xH | apply xT); first | done | fail) (by omega) rfl (fun vv8_6 w hw hnil => ?_))
                            refine ⟨fun _ => (by exact Sat.sub hw (by (repeat (first | with_reducible exact Sub.refl _ | exact Sub.nil _ | (apply Sub.cons; focus ((repeat (first | with_reducible exact Pick.here _ | apply Pick.there)); (first | done | fail))) | with_reducible apply Sub.drop)); first | done | fail)), ?_⟩
                            have hw := hw.own_text
                            have hs2 : (s ++ ByteArray.mk #[UInt8.ofNat t.kind.toNat] ++ putN t.bytes.size).size = s.size + 1 + (putN t.bytes.size).size := by rw [ByteArray.size_append, hs1]
                            have hz := hw
                            clear hw
                            obtain ⟨va3, vc3, rfl, _, _, _⟩ := hz.own_shape
                            have hw := hz
                            clear hz
                            refine rs_k 9 rfl rfl (k_appendStr hw T.sl_60_5_1 T.str_9 T.zero_5 T.bytes_5_1 rfl rfl (by (repeat first | with_reducible exact xH | apply xT); first | done | fail) (by omega) rfl (fun vv8_9 w hw hnil => ?_))
                            refine ⟨fun hn => absurd (by decide) hn, ?_⟩
                            have hw := hw.own_text
                            rw [ByteArray.append_assoc, ByteArray.append_assoc, ← hh] at hw
                            refine rs_kv 10 rfl rfl rfl rfl (S' := fun _ => True) trivial (v_assign rfl) ?_
                            refine rs_done (g_le (xK (xS rfl (xS rfl (xS rfl (xS rfl (xS rfl (xS rfl (xS rfl (xS rfl (xS rfl (xS rfl (Fr.le_refl _)))))))))))) ?_)
                            refine g_inBlock ?_
                            exact joinb0 _ w _ (by repeat (first | exact Fr.le_nil _ | refine Fr.le_cons rfl ?_)) (hw.xQ)
                      · try with_reducible exact tf_elim h4
                        all_goals
                          try replace h4 := of_decide_eq_false h4
                          try (exfalso; omega)
                          all_goals
                            refine g_seq ?_
                            refine g_region ?_
                            refine xV rfl rfl rfl (v_eqlT rfl rfl (by omega)) ?_
                            refine xV rfl rfl rfl (v_assign rfl) ?_
                            refine rl_nil (g_le (xK (xS rfl (Fr.le_refl _))) ?_)
                            refine g_cond rfl (fun h5 => ?_) (fun h5 => ?_)
                            · try with_reducible exact ft_elim h5
                              all_goals
                                try replace h5 := of_decide_eq_true h5
                                try (exfalso; omega)
                                all_goals
                                  have hh := head_row (t := t) (by omega)
                                  rw [hh, ByteArray.size_append] at hb9
                                  refine g_region ?_
                                  refine xV rfl rfl rfl (v_move rfl) ?_
                                  refine xV rfl rfl rfl (v_fieldAddr0 T.fld_111_3_3 rfl) ?_
                                  refine rl_v rfl rfl rfl (by exact sat_cell hw (by (repeat first | with_reducible exact xH | apply xT); first | done | fail) rfl) (v_load T.scal_109 rfl) ?_
                                  refine xV rfl rfl rfl (v_lenSlice T.sl_109_111_4 rfl) ?_
                                  refine xV rfl rfl rfl (v_convU T.int_49_u64 T.int_3_i64 rfl (by omega) (by omega)) ?_
                                  refine rl_k rfl (k_callf Try.func98 rfl rfl rfl rfl ?_)
                                  refine Calls.mono (putNumI_calls (t.list.length : Nat) (by omega) (by omega) hw) ?_
                                  rw [Int.toNat_natCast]
                                  rintro _ w ⟨rfl, hw⟩
                                  refine ⟨_, rfl, ?_⟩
                                  refine rl_k rfl (k_appendStr hw T.sl_60_5_1 T.str_9 T.zero_5 T.bytes_5_1 rfl rfl (by (repeat first | with_reducible exact xH | apply xT); first | done | fail) (by omega) rfl (fun vv10_6 w hw hnil => ?_))
                                  have hw := hw.own_text
                                  rw [ByteArray.append_assoc, ← hh] at hw
                                  refine xV rfl rfl rfl (v_assign rfl) ?_
                                  refine rl_nil (g_le (xK (xS rfl (xS rfl (xS rfl (xS rfl (xS rfl (xS rfl (xS rfl (Fr.le_refl _))))))))) ?_)
                                  refine g_inBlock ?_
                                  exact joinb0 _ w _ (by repeat (first | exact Fr.le_nil _ | refine Fr.le_cons rfl ?_)) (hw.xQ)
                            · try with_reducible exact tf_elim h5
                              all_goals
                                try replace h5 := of_decide_eq_false h5
                                try (exfalso; omega)
                                all_goals
                                  refine g_skip (g_inBlock ?_)
                                  exact joinb0 _ w _ (by repeat (first | exact Fr.le_nil _ | refine Fr.le_cons rfl ?_)) (hw.xQ)
theorem encode_calls {E : Env} {w : World} {L : List As} {g : Hp} {cs : List Value} {t : Tm} (ht : rdTm g cs t) (hw : Sat E w (RO g :: L)) :
    Calls Try.prog 73 #[.agg cs.toArray] w fun e w' => e = .returned (.tuple #[.string (if rightT t = 0 then wrT t else ByteArray.empty), .int .i64 (rightT t)]) ∧ Sat E w' (RO g :: L) := by
  obtain ⟨a, c, rfl, _⟩ := tm_shape ht
  have hnm := numsT_rd ht
  refine calls_of_g (n := 13) Try.func73 rfl rfl rfl ?_
  change G _ _ _ _ _ [(0, _)] _
  refine g_seq ?_
  refine g_region ?_
  refine rl_k rfl (k_box hw rfl rfl rfl (fun bk0_0 w hw => ?_))
  refine xV rfl rfl rfl (v_assign rfl) ?_
  refine xV rfl rfl rfl (v_assign rfl) ?_
  refine rl_nil (g_le (xK (xK (xK (Fr.le_refl _)))) ?_)
  refine g_seq (g_seq ?_)
  refine g_region ?_
  refine rl_v rfl rfl rfl (by exact sat_cells hw (by (repeat first | with_reducible exact xH | apply xT); first | done | fail) ⟨rfl, rfl, rfl, rfl, trivial⟩) (v_loadAgg (vs := [_, _, _, _]) T.agg_111_4 rfl rfl) ?_
  refine rl_k rfl (k_callf Try.func80 rfl rfl rfl rfl ?_)
  refine Calls.mono (tright_calls ht (hw.xQ)) ?_
  rintro _ w ⟨rfl, hw⟩
  refine ⟨_, rfl, ?_⟩
  refine xV rfl rfl rfl (v_assign rfl) ?_
  refine rl_nil (g_le (xK (xS rfl (xS rfl (Fr.le_refl _)))) ?_)
  refine g_seq ?_
  refine g_region ?_
  refine xV rfl rfl rfl (v_move rfl) ?_
  refine xV rfl rfl rfl (v_neq rfl rfl) ?_
  refine rl_nil (g_le (xK (xS rfl (Fr.le_refl _))) ?_)
  refine g_cond rfl (fun h1 => ?_) (fun h1 => ?_)
  · try with_reducible exact ft_elim h1
    all_goals
      try replace h1 := of_decide_eq_true h1
      refine g_seq ?_
      refine g_region ?_
      refine xV rfl rfl rfl (v_move rfl) ?_
      refine xV rfl rfl rfl (v_assign rfl) ?_
      refine xV rfl rfl rfl (v_assign rfl) ?_
      refine rl_nil (g_le (xK (xK (xS rfl (Fr.le_refl _)))) ?_)
      refine g_ret2 Try.func73 rfl rfl rfl ?_
      exact ⟨by rw [if_neg h1]; rfl, hw.xQ⟩
  · try with_reducible exact tf_elim h1
    all_goals
      try replace h1 := of_decide_eq_false h1
      have h9 : rightT t = 0 := by omega
      have hr : nT t ≤ 4000 ∧ shT t = true := by unfold rightT at h9; split at h9 <;> (try omega); split at h9 <;> (try omega); split at h9 <;> (try omega); rename_i q1 q2 q3; exact ⟨by omega, q3⟩
      have hsz := size_wrT hr.2 hnm hr.1
      refine g_skip (g_seq ?_)
      refine g_region ?_
      refine rl_v rfl rfl rfl (by exact sat_cells hw (by (repeat first | with_reducible exact xH | apply xT); first | done | fail) ⟨rfl, rfl, rfl, rfl, trivial⟩) (v_loadAgg (vs := [_, _, _, _]) T.agg_111_4 rfl rfl) ?_
      refine rl_k rfl (k_callf Try.func90 rfl rfl rfl rfl ?_)
      refine Calls.mono (write_calls _ (s := ByteArray.empty) (v := .slice none 0 0) (Nat.le_refl _) hr.2 ht (by simp; omega) (own_tx0 (hw.xQ : Sat E w (RO g :: L)))) ?_
      rw [ByteArray.empty_append]
      rintro _ w ⟨v2, rfl, hw⟩
      have hz := hw
      clear hw
      obtain ⟨va, vc, rfl, _, _, _⟩ := hz.own_shape
      have hw := hz
      refine ⟨_, rfl, ?_⟩
      refine rl_v rfl rfl rfl (by exact own_bytes_all hw (by (repeat first | with_reducible exact xH | apply xT); first | done | fail)) (v_convBytes T.sl_60_5_1 T.u8_5 T.str_9 rfl) ?_
      refine xV rfl rfl rfl (v_assign rfl) ?_
      refine xV rfl rfl rfl (v_assign rfl) ?_
      refine rl_nil (g_le (xK (xK (xS rfl (xS rfl (xS rfl (Fr.le_refl _)))))) ?_)
      refine g_ret2 Try.func73 rfl rfl rfl ?_
      exact ⟨by rw [h9]; rfl, hw.xQ⟩
theorem clone_calls : ∀ (k : Nat) {E : Env} {w : World} {L : List As} {g : Hp} {cs : List Value} {t : Tm}, hT t ≤ k → rdTm g cs t → Sat E w (RO g :: L) →
    Calls Try.prog 88 #[.agg cs.toArray] w fun e w' => ∃ g' cs', g.le g' ∧ e = .returned (.agg cs'.toArray) ∧ rdTm g' cs' t ∧ Sat E w' (RO g' :: L) := by
  intro k
  induction k with
  | zero => intro E w L g cs t hk; have := hT_pos t; omega
  | succ k ih0 =>
  intro E w L g cs t hk ht hw
  obtain ⟨a, c, rfl, hnums, hl⟩ := tm_shape ht
  obtain ⟨_, hb1, hc1, hmx, g1⟩ := rdSl_get hl
  simp only [reachBytes] at hb1
  rw [hT_list] at hk
  refine calls_of_g (n := 22) Try.func88 rfl rfl rfl ?_
  change G _ _ _ _ _ [(0, _)] _
  refine g_seq ?_
  refine g_region ?_
  refine rl_k rfl (k_box hw rfl rfl rfl (fun bk0_0 w hw => ?_))
  refine rl_k rfl (k_alloc hw T.zero_111 rfl rfl (fun bk0_1 w hw => ?_))
  refine rl_nil (g_le (xK (xK (Fr.le_refl _))) ?_)
  refine g_seq ?_
  refine g_region ?_
  refine xV rfl rfl rfl (v_assign rfl) ?_
  refine rl_nil (g_le (xK (Fr.le_refl _)) ?_)
  refine g_seq (g_seq ?_)
  refine g_region ?_
  refine xV rfl rfl rfl (v_fieldAddr0 T.fld_111_3_3 rfl) ?_
  refine rl_v rfl rfl rfl (by exact sat_cell hw (by (repeat first | with_reducible exact xH | apply xT); first | done | fail) rfl) (v_load T.scal_109 rfl) ?_
  refine xV rfl rfl rfl (v_lenSlice T.sl_109_111_4 rfl) ?_
  refine xV rfl rfl rfl (v_move rfl) ?_
  refine rl_nil (g_le (xK (xK (xK (xS rfl (Fr.le_refl _))))) ?_)
  refine g_block ?_
  refine g_loopC (σ := Int × Value × List Value × Hp) (fun C x => (9, .int .i64 x.1) :: (3, x.2.1) :: C) [(1, _), (2, _), (7, _), (8, _)] (by repeat (first | exact Fr.le_nil _ | refine Fr.le_cons rfl ?_)) (fun z w => 0 ≤ z.1 ∧ z.1 ≤ t.list.length ∧ g.le z.2.2.2 ∧ Els rdTm 4 z.2.2.2 z.2.2.1 (t.list.take z.1.toNat) ∧ Sat E w (OwnSl 111 4 z.2.1 z.1.toNat z.2.2.1 :: pt bk0_0 (.cells [Value.int .i64 t.kind, .int .u64 t.num, .string t.bytes, .slice a t.list.length c].toArray 111 (0, 0)) :: pt bk0_1 (.cells [Value.int .i64 0, .int .u64 0, .string ByteArray.empty, .slice none 0 0].toArray 111 (0, 0)) :: RO z.2.2.2 :: L)) (fun z => (t.list.length - z.1).toNat) ?_ (0, .slice none 0 0, [], g) (by repeat (first | exact Fr.le_nil _ | refine Fr.le_cons rfl ?_)) ⟨by simp, by simp, Hp.le_refl _, .nil, by simp only [Int.toNat_zero]; exact (hw.own_nil 111 4).xQ⟩
  rintro ⟨i, v, cells, g2⟩ w ⟨hi0, hi1, hg2, hels, hw⟩ ih
  dsimp only at hi0 hi1 hg2 hels hw ih ⊢
  obtain ⟨va, vc, rfl, _, _, _⟩ := hw.own_shape
  refine g_seq ?_
  refine g_region ?_
  refine xV rfl rfl rfl (v_lss rfl rfl) ?_
  refine rl_nil (g_le (xK (Fr.le_refl _)) ?_)
  refine g_seq ?_
  refine g_cond rfl (fun h1 => ?_) (fun h1 => ?_)
  · try with_reducible exact ft_elim h1
    all_goals
      try replace h1 := of_decide_eq_true h1
      refine g_skip (g_seq (g_block (g_seq ?_)))
      have hz := hw
      clear hw
      obtain ⟨_, _, _, _, g1'⟩ := rdSl_get (mono_sl mono_Tm hg2 hl)
      obtain ⟨b4, o1, x, ecs, rfl, hx, hat1, hl1, hrd⟩ := g1' i hi0 (by omega)
      have hmem := List.mem_of_getElem? hx
      have hhx := hL_mem hmem
      have htk := take_snoc hx
      obtain ⟨xa, xc, rfl, _⟩ := tm_shape hrd
      have hw := hz
      clear hz
      refine g_region ?_
      refine xV rfl rfl rfl (v_indexAddr T.sl_109_111_4 rfl rfl (by omega) (by omega)) ?_
      refine rl_v rfl rfl rfl (by exact ro_ats hw (by (repeat first | with_reducible exact xH | apply xT); first | done | fail) (by assumption)) (v_loadAgg (vs := [_, _, _, _]) T.agg_111_4 rfl rfl) ?_
      refine rl_k rfl (k_alloc hw T.zero_111 rfl rfl (fun bk4_2 w hw => ?_))
      refine rl_k rfl (k_storeWhole hw T.agg_111_4 rfl rfl (by simp [Value.oneCell']) rfl (by (repeat first | with_reducible exact xH | apply xT); first | done | fail) rfl (fun w hw => ?_))
      refine rl_nil (g_le (xK (xK (xK (Fr.le_refl _)))) ?_)
      refine g_region ?_
      refine xV rfl rfl rfl (v_move rfl) ?_
      refine rl_v rfl rfl rfl (by exact sat_cells hw (by (repeat first | with_reducible exact xH | apply xT); first | done | fail) ⟨rfl, rfl, rfl, rfl, trivial⟩) (v_loadAgg (vs := [_, _, _, _]) T.agg_111_4 rfl rfl) ?_
      refine rl_k rfl (k_callf Try.func88 rfl rfl rfl rfl ?_)
      refine Calls.mono (ih0 (by omega) hrd (hw.xQ)) ?_
      rintro _ w ⟨g3, ecs3, hg3, rfl, hrd3, hw⟩
      obtain ⟨ya, yc, rfl, _⟩ := tm_shape hrd3
      refine ⟨_, rfl, ?_⟩
      refine rl_k rfl (k_buildSlice (cells := [_, _, _, _]) hw T.sl_109_111_4 T.zero_111 rfl rfl rfl rfl rfl rfl (fun bk5_3 w hw => ?_))
      have hone := Els.ones one_Tm hels
      have hlen := hels.len
      rw [List.length_take, Nat.min_eq_left (by omega)] at hlen
      refine rl_k rfl (k_append (news := [_, _, _, _]) hw T.sl_109_111_4 T.zero_111 T.bytes_111_56 rfl (by decide) rfl rfl (by (repeat first | with_reducible exact xH | apply xT); first | done | fail) rfl (by exact sat_cells hw (by (repeat first | with_reducible exact xH | apply xT); first | done | fail) ⟨rfl, rfl, rfl, rfl, trivial⟩) (by simp [Value.oneCell']) (by omega) (by simp only [maxLen]; omega) rfl (fun vv5_4 w hw hnil => ?_))
      refine xV rfl rfl rfl (v_assign rfl) ?_
      refine rl_nil (g_le (xK (xK (xK (xK (xK (xK (Fr.le_refl _))))))) ?_)
      refine g_inBlock ?_
      refine g_region ?_
      refine xV rfl rfl rfl (v_add rfl rfl (by omega)) ?_
      refine xV rfl rfl rfl (v_move rfl) ?_
      refine rl_nil (g_le (xK (xK (Fr.le_refl _))) ?_)
      exact g_le (by repeat (first | exact Fr.le_nil _ | refine Fr.le_cons rfl ?_)) (ih (i + 1, vv5_4, _, g3) w ⟨by simp only; omega, by simp only; omega, hg2.trans hg3, by simp only; rw [show (i + 1).toNat = i.toNat + 1 by omega, htk]; exact (hels.mono mono_Tm hg3).snoc rfl hrd3, by simp only; rw [show (i + 1).toNat = i.toNat + 1 by omega]; exact hw.xQ⟩ (by simp only; omega))
  · try with_reducible exact tf_elim h1
    all_goals
      try replace h1 := of_decide_eq_false h1
      refine g_exit rfl (g_seq ?_)
      refine g_region ?_
      refine xV rfl rfl rfl (v_move rfl) ?_
      refine xV rfl rfl rfl (v_fieldAddr0 T.fld_111_3_3 rfl) ?_
      refine rl_k rfl (k_store hw T.scal_109 rfl rfl rfl (by (repeat first | with_reducible exact xH | apply xT); first | done | fail) rfl (by simp only [List.set, Int.reduceToNat, Nat.reduceMul, Nat.reduceAdd]; rfl) (fun w hw => ?_))
      refine rl_nil (g_le (xS rfl (xS rfl (Fr.le_refl _))) ?_)
      refine g_seq ?_
      rw [List.take_of_length_le (by omega)] at hels
      obtain ⟨g3, hg3, hl3, hw⟩ := (hw.xQ : Sat E w (RO g2 :: OwnSl 111 4 (.slice va i.toNat vc) i.toNat cells :: pt bk0_0 (.cells [Value.int .i64 t.kind, .int .u64 t.num, .string t.bytes, .slice va i.toNat vc].toArray 111 (0, 0)) :: pt bk0_1 (.cells [Value.int .i64 0, .int .u64 0, .string ByteArray.empty, .slice none 0 0].toArray 111 (0, 0)) :: L)).freeze_sl (bytes := 56) mono_Tm hels (by omega) (by simp only [reachBytes]; omega)
      refine g_region ?_
      refine rl_v rfl rfl rfl (by exact sat_cells hw (by (repeat first | with_reducible exact xH | apply xT); first | done | fail) ⟨rfl, rfl, rfl, rfl, trivial⟩) (v_loadAgg (vs := [_, _, _, _]) T.agg_111_4 rfl rfl) ?_
      refine rl_k rfl (k_storeWhole hw T.agg_111_4 rfl rfl (by simp [Value.oneCell']) rfl (by (repeat first | with_reducible exact xH | apply xT); first | done | fail) rfl (fun w hw => ?_))
      refine rl_nil (g_le (xS rfl (Fr.le_refl _)) ?_)
      refine g_resC Try.func88 rfl ⟨_, rfl, holds_agg (vs := [_, _, _, _]) T.agg_111_4 rfl (by exact sat_cells hw (by (repeat first | with_reducible exact xH | apply xT); first | done | fail) ⟨rfl, rfl, rfl, rfl, trivial⟩)⟩ ?_
      exact ⟨g3, _, hg2.trans hg3, rfl, by have h9 := rdTm_mk hnums hl3; rwa [Tm.eta] at h9, hw.xQ⟩
end Go.Proofs.Ytlgpdglnfjndhaa
