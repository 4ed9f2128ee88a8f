/-
  Terms (layer 2): reading one.
-/
import Derived.Test.YtlgpdglnfjndhaaU03
namespace Go.Proofs.Ytlgpdglnfjndhaa
set_option maxRecDepth 8000
set_option linter.unusedSimpArgs false
set_option linter.unusedVariables false
open Go Xe Go.Lib
theorem getN_lt {s : ByteArray} {i n : Nat} (h : i < s.size) : getN s i n = if i = 9 ∧ 1 < s[i].toNat then (0, 0, 21) else
    if s[i].toNat < 128 then (if s[i].toNat = 0 ∧ 0 < i then (0, 0, 21) else (n + s[i].toNat * 2 ^ (7 * i), i + 1, 0)) else getN s (i + 1) (n + (s[i].toNat - 128) * 2 ^ (7 * i)) := by rw [getN, dif_pos h]
theorem getN_ge {s : ByteArray} {i n : Nat} (h : ¬ i < s.size) : getN s i n = (0, 0, 20) := by rw [getN, dif_neg h]
theorem getNum_calls {E : Env} {w : World} {L : List As} (s : ByteArray) (hs : s.size ≤ reachBytes) (hw : Sat E w L) :
    Calls Try.prog 102 #[.string s] w fun e w' => e = .returned (.tuple #[.int .u64 ((getN s 0 0).1 : Nat), .int .i64 ((getN s 0 0).2.1 : Nat), .int .i64 (getN s 0 0).2.2]) ∧ Sat E w' L := by
  simp only [reachBytes] at hs
  refine calls_of_g (n := 44) Try.func102 rfl rfl rfl ?_
  change G _ _ _ _ _ [(0, _)] _
  refine g_seq ?_
  refine g_region ?_
  refine xV rfl rfl rfl (v_assign rfl) ?_
  refine xV rfl rfl rfl (v_assign rfl) ?_
  refine xV rfl rfl rfl (v_assign rfl) ?_
  refine rl_nil (g_le (xK (xK (xK (Fr.le_refl _)))) ?_)
  refine g_seq ?_
  refine g_region ?_
  refine xV rfl rfl rfl (v_assign rfl) ?_
  refine rl_nil (g_le (xK (Fr.le_refl _)) ?_)
  refine g_seq (g_seq ?_)
  refine g_region ?_
  refine xV rfl rfl rfl (v_assign rfl) ?_
  refine rl_nil (g_le (xK (Fr.le_refl _)) ?_)
  refine g_block ?_
  refine g_loopC (σ := Nat × Nat) (fun C x => (6, .int .i64 (x.1 : Nat)) :: (5, .int .u64 (x.2 : Nat)) :: C) [(0, _), (2, _), (3, _), (4, _)] (by repeat (first | exact Fr.le_nil _ | refine Fr.le_cons rfl ?_)) (fun z w => z.1 ≤ 9 ∧ z.2 < 2 ^ (7 * z.1) ∧ getN s 0 0 = getN s z.1 z.2 ∧ Sat E w L) (fun z => 10 - z.1) ?_ (0, 0) (by repeat (first | exact Fr.le_nil _ | refine Fr.le_cons rfl ?_)) ⟨by simp, by simp, rfl, hw⟩
  rintro ⟨i, n⟩ w ⟨hi, hn, heq, hw⟩ ih
  dsimp only at hi hn heq hw ih ⊢
  refine g_seq (g_seq ?_)
  refine g_region ?_
  refine xV rfl rfl rfl (v_move rfl) ?_
  refine xV rfl rfl rfl (v_move rfl) ?_
  refine xV rfl rfl rfl (v_lenStr T.str_9 rfl) ?_
  refine xV rfl rfl rfl (v_lss rfl rfl) ?_
  refine rl_nil (g_le (xK (xK (xK (xK (Fr.le_refl _))))) ?_)
  refine g_cond rfl (fun h1 => ?_) (fun h1 => ?_)
  · try with_reducible exact ft_elim h1
    all_goals
      try replace h1 := of_decide_eq_true h1
      have hlt : i < s.size := by omega
      rw [getN_lt hlt] at heq
      obtain ⟨c, hc⟩ : ∃ c, s[i] = c := ⟨_, rfl⟩
      rw [hc] at heq
      have hx : s[((i : Nat) : Int).toNat]? = some c := by rw [Int.toNat_natCast, getElem?_pos s i hlt, hc]
      have hcl := c.toNat_lt
      refine g_skip (g_seq (g_block (g_seq ?_)))
      refine g_region ?_
      refine xV rfl rfl rfl (v_move rfl) ?_
      refine xV rfl rfl rfl (v_move rfl) ?_
      refine xV rfl rfl rfl (v_indexStr T.str_9 rfl rfl (by omega) (by assumption)) ?_
      refine xV rfl rfl rfl (v_assign rfl) ?_
      refine rl_nil (g_le (xK (xK (xK (xK (Fr.le_refl _))))) ?_)
      refine g_seq (g_seq ?_)
      refine g_region ?_
      refine xV rfl rfl rfl (v_move rfl) ?_
      refine xV rfl rfl rfl (v_eql rfl rfl) ?_
      refine xV rfl rfl rfl (v_move rfl) ?_
      refine rl_split (s := 19) rfl (fun g6_2 => ?_) (fun g6_2 => ?_)
      · try with_reducible exact ft_elim g6_2
        all_goals
          try replace g6_2 := of_decide_eq_true g6_2
          refine rl_vg (met_on rfl rfl rfl rfl) rfl rfl (S := fun _ => True) trivial (v_move rfl) ?_
          refine rl_vg (met_on rfl rfl rfl rfl) rfl rfl (S := fun _ => True) trivial (v_gtr rfl rfl) ?_
          refine xV rfl rfl rfl (v_pick_true rfl rfl) ?_
          refine rl_nil (g_le (xK (xK (xK (xK (xK (xK (xK (Fr.le_refl _)))))))) ?_)
          refine g_cond rfl (fun h2 => ?_) (fun h2 => ?_)
          · try with_reducible exact ft_elim h2
            all_goals
              try replace h2 := of_decide_eq_true h2
              refine g_seq ?_
              refine g_region ?_
              refine xV rfl rfl rfl (v_assign rfl) ?_
              refine xV rfl rfl rfl (v_assign rfl) ?_
              refine xV rfl rfl rfl (v_assign rfl) ?_
              refine rl_nil (g_le (xK (xK (xK (Fr.le_refl _)))) ?_)
              refine g_ret3 Try.func102 rfl rfl rfl rfl ?_
              rw [if_pos (by omega)] at heq
              rw [heq]
              exact ⟨rfl, hw.xQ⟩
          · try with_reducible exact tf_elim h2
            all_goals
              try replace h2 := of_decide_eq_false h2
              refine g_skip (g_seq ?_)
              rw [if_neg (by omega)] at heq
              have hb9 : n + (c.toNat % 128) * 2 ^ (7 * i) < 2 ^ 64 := by
                rcases Nat.lt_or_ge i 9 with h5 | h5
                · have h2 : 2 ^ (7 * (i + 1)) = 128 * 2 ^ (7 * i) := by rw [Nat.mul_succ, Nat.pow_add, Nat.mul_comm]
                  have h7 : (c.toNat % 128) * 2 ^ (7 * i) ≤ 127 * 2 ^ (7 * i) := Nat.mul_le_mul_right _ (by omega)
                  exact Nat.lt_of_lt_of_le (show _ < 2 ^ (7 * (i + 1)) by omega) (Nat.pow_le_pow_right (by omega) (by omega))
                · have h6 : i = 9 := by omega
                  have h7 : (c.toNat % 128) * 2 ^ (7 * i) ≤ 1 * 2 ^ (7 * i) := Nat.mul_le_mul_right _ (by omega)
                  subst h6; omega
              refine g_region ?_
              refine xV rfl rfl rfl (v_move rfl) ?_
              refine xV rfl rfl rfl (v_move rfl) ?_
              refine xV rfl rfl rfl (v_and rfl rfl) ?_
              rw [and_u8 hcl]
              refine xV rfl rfl rfl (v_convInt T.int_49_u64 T.int_5_u8 rfl) ?_
              rw [u64_in' (show (0 : Int) ≤ ((c.toNat % 128 : Nat) : Int) by omega) (by omega)]
              refine xV rfl rfl rfl (v_move rfl) ?_
              refine xV rfl rfl rfl (v_mul rfl rfl (by omega)) ?_
              refine xV rfl rfl rfl (v_convU T.int_175_u64 T.int_3_i64 rfl (by omega) (by omega)) ?_
              refine xV rfl rfl rfl (v_shl rfl rfl (by omega) (by simp only [IntKind.bits]; omega)) ?_
              rw [show (7 * ((i : Nat) : Int)).toNat = 7 * i by omega, show ((c.toNat % 128 : Nat) : Int) * 2 ^ (7 * i) = ((c.toNat % 128 * 2 ^ (7 * i) : Nat) : Int) by rw [Int.natCast_mul, Int.natCast_pow]; rfl, u64_in' (by omega) (by omega)]
              refine xV rfl rfl rfl (v_or rfl rfl) ?_
              rw [or_u64 hn hb9]
              refine xV rfl rfl rfl (v_assign rfl) ?_
              refine rl_nil (g_le (xK (xK (xK (xK (xK (xK (xK (xK (xK (xK (Fr.le_refl _))))))))))) ?_)
              refine g_seq ?_
              refine g_region ?_
              refine xV rfl rfl rfl (v_move rfl) ?_
              refine xV rfl rfl rfl (v_shrK rfl rfl (by omega) (by decide)) ?_
              rw [show ((c.toNat : Nat) : Int) / 2 ^ (7 : Int).toNat = ((c.toNat / 128 : Nat) : Int) by show (c.toNat : Int) / 128 = _; omega]
              refine xV rfl rfl rfl (v_eqlT rfl rfl (by omega)) ?_
              refine rl_nil (g_le (xK (xK (xK (Fr.le_refl _)))) ?_)
              refine g_cond rfl (fun h3 => ?_) (fun h3 => ?_)
              · try with_reducible exact ft_elim h3
                all_goals
                  try replace h3 := of_decide_eq_true h3
                  rw [if_pos (by omega)] at heq
                  refine g_seq (g_seq ?_)
                  refine g_region ?_
                  refine xV rfl rfl rfl (v_move rfl) ?_
                  refine xV rfl rfl rfl (v_eql rfl rfl) ?_
                  refine xV rfl rfl rfl (v_move rfl) ?_
                  refine rl_split (s := 37) rfl (fun g10_2 => ?_) (fun g10_2 => ?_)
                  · try with_reducible exact ft_elim g10_2
                    all_goals
                      try replace g10_2 := of_decide_eq_true g10_2
                      refine rl_vg (met_on rfl rfl rfl rfl) rfl rfl (S := fun _ => True) trivial (v_move rfl) ?_
                      refine rl_vg (met_on rfl rfl rfl rfl) rfl rfl (S := fun _ => True) trivial (v_gtrT rfl rfl (by omega)) ?_
                      refine xV rfl rfl rfl (v_pick_true rfl rfl) ?_
                      refine rl_nil (g_le (xK (xK (xK (xK (xK (xK (xK (Fr.le_refl _)))))))) ?_)
                      refine g_cond rfl (fun h4 => ?_) (fun h4 => ?_)
                      · try with_reducible exact ft_elim h4
                        all_goals
                          try replace h4 := of_decide_eq_true h4
                          refine g_seq ?_
                          refine g_region ?_
                          refine xV rfl rfl rfl (v_assign rfl) ?_
                          refine xV rfl rfl rfl (v_assign rfl) ?_
                          refine xV rfl rfl rfl (v_assign rfl) ?_
                          refine rl_nil (g_le (xK (xK (xK (Fr.le_refl _)))) ?_)
                          refine g_ret3 Try.func102 rfl rfl rfl rfl ?_
                          rw [if_pos (by omega)] at heq
                          rw [heq]
                          exact ⟨rfl, hw.xQ⟩
                      · try with_reducible exact tf_elim h4
                        all_goals
                          try replace h4 := of_decide_eq_false h4
                          refine g_skip (g_seq ?_)
                          rw [if_neg (by omega)] at heq
                          refine g_region ?_
                          refine xV rfl rfl rfl (v_move rfl) ?_
                          refine xV rfl rfl rfl (v_move rfl) ?_
                          first | (refine xV rfl rfl rfl (v_add rfl rfl (by omega)) ?_) | (refine xV rfl rfl rfl (v_addW rfl rfl) ?_)
                          refine xV rfl rfl rfl (v_assign rfl) ?_
                          refine xV rfl rfl rfl (v_assign rfl) ?_
                          refine xV rfl rfl rfl (v_assign rfl) ?_
                          refine rl_nil (g_le (xK (xK (xK (xK (xK (xK (Fr.le_refl _))))))) ?_)
                          refine g_ret3 Try.func102 rfl rfl rfl rfl ?_
                          rw [heq, show c.toNat % 128 = c.toNat by omega]
                          exact ⟨rfl, hw.xQ⟩
                  · try with_reducible exact tf_elim g10_2
                    all_goals
                      try replace g10_2 := of_decide_eq_false g10_2
                      refine rl_off (met_off rfl rfl rfl rfl rfl) rfl rfl ?_
                      refine rl_off (met_off rfl rfl rfl rfl rfl) rfl rfl ?_
                      refine xV rfl rfl rfl (v_pick_false rfl rfl) ?_
                      refine rl_nil (g_le (xK (xK (xK (xK (xK (xK (xK (Fr.le_refl _)))))))) ?_)
                      refine g_cond_false rfl ?_
                      refine g_skip (g_seq ?_)
                      rw [if_neg (by omega)] at heq
                      refine g_region ?_
                      refine xV rfl rfl rfl (v_move rfl) ?_
                      refine xV rfl rfl rfl (v_move rfl) ?_
                      refine xV rfl rfl rfl (v_add rfl rfl (by omega)) ?_
                      refine xV rfl rfl rfl (v_assign rfl) ?_
                      refine xV rfl rfl rfl (v_assign rfl) ?_
                      refine xV rfl rfl rfl (v_assign rfl) ?_
                      refine rl_nil (g_le (xK (xK (xK (xK (xK (xK (Fr.le_refl _))))))) ?_)
                      refine g_ret3 Try.func102 rfl rfl rfl rfl ?_
                      rw [heq, show c.toNat % 128 = c.toNat by omega]
                      exact ⟨rfl, hw.xQ⟩
              · try with_reducible exact tf_elim h3
                all_goals
                  try replace h3 := of_decide_eq_false h3
                  rw [if_neg (by omega)] at heq
                  refine g_skip (g_inBlock ?_)
                  refine g_region ?_
                  refine xV rfl rfl rfl (v_move rfl) ?_
                  first | (refine xV rfl rfl rfl (v_add rfl rfl (by omega)) ?_) | (refine xV rfl rfl rfl (v_addW rfl rfl) ?_)
                  refine xV rfl rfl rfl (v_assign rfl) ?_
                  refine rl_nil (g_le (xK (xK (xK (Fr.le_refl _)))) ?_)
                  rw [show c.toNat - 128 = c.toNat % 128 by omega] at heq
                  have h2 : 2 ^ (7 * (i + 1)) = 128 * 2 ^ (7 * i) := by rw [Nat.mul_succ, Nat.pow_add, Nat.mul_comm]
                  have h7 : (c.toNat % 128) * 2 ^ (7 * i) ≤ 127 * 2 ^ (7 * i) := Nat.mul_le_mul_right _ (by omega)
                  exact g_le (by repeat (first | exact Fr.le_nil _ | refine Fr.le_cons rfl ?_)) (ih (i + 1, n + c.toNat % 128 * 2 ^ (7 * i)) w ⟨by simp only; omega, by simp only; omega, heq, hw.xQ⟩ (by simp only; omega))
      · try with_reducible exact tf_elim g6_2
        all_goals
          try replace g6_2 := of_decide_eq_false g6_2
          refine rl_off (met_off rfl rfl rfl rfl rfl) rfl rfl ?_
          refine rl_off (met_off rfl rfl rfl rfl rfl) rfl rfl ?_
          refine xV rfl rfl rfl (v_pick_false rfl rfl) ?_
          refine rl_nil (g_le (xK (xK (xK (xK (xK (xK (xK (Fr.le_refl _)))))))) ?_)
          refine g_cond_false rfl ?_
          refine g_skip (g_seq ?_)
          rw [if_neg (by omega)] at heq
          have hb9 : n + (c.toNat % 128) * 2 ^ (7 * i) < 2 ^ 64 := by
            rcases Nat.lt_or_ge i 9 with h5 | h5
            · have h2 : 2 ^ (7 * (i + 1)) = 128 * 2 ^ (7 * i) := by rw [Nat.mul_succ, Nat.pow_add, Nat.mul_comm]
              have h7 : (c.toNat % 128) * 2 ^ (7 * i) ≤ 127 * 2 ^ (7 * i) := Nat.mul_le_mul_right _ (by omega)
              exact Nat.lt_of_lt_of_le (show _ < 2 ^ (7 * (i + 1)) by omega) (Nat.pow_le_pow_right (by omega) (by omega))
            · have h6 : i = 9 := by omega
              have h7 : (c.toNat % 128) * 2 ^ (7 * i) ≤ 1 * 2 ^ (7 * i) := Nat.mul_le_mul_right _ (by omega)
              subst h6; omega
          refine g_region ?_
          refine xV rfl rfl rfl (v_move rfl) ?_
          refine xV rfl rfl rfl (v_move rfl) ?_
          refine xV rfl rfl rfl (v_and rfl rfl) ?_
          rw [and_u8 hcl]
          refine xV rfl rfl rfl (v_convInt T.int_49_u64 T.int_5_u8 rfl) ?_
          rw [u64_in' (show (0 : Int) ≤ ((c.toNat % 128 : Nat) : Int) by omega) (by omega)]
          refine xV rfl rfl rfl (v_move rfl) ?_
          refine xV rfl rfl rfl (v_mul rfl rfl (by omega)) ?_
          refine xV rfl rfl rfl (v_convU T.int_175_u64 T.int_3_i64 rfl (by omega) (by omega)) ?_
          refine xV rfl rfl rfl (v_shl rfl rfl (by omega) (by simp only [IntKind.bits]; omega)) ?_
          rw [show (7 * ((i : Nat) : Int)).toNat = 7 * i by omega, show ((c.toNat % 128 : Nat) : Int) * 2 ^ (7 * i) = ((c.toNat % 128 * 2 ^ (7 * i) : Nat) : Int) by rw [Int.natCast_mul, Int.natCast_pow]; rfl, u64_in' (by omega) (by omega)]
          refine xV rfl rfl rfl (v_or rfl rfl) ?_
          rw [or_u64 hn hb9]
          refine xV rfl rfl rfl (v_assign rfl) ?_
          refine rl_nil (g_le (xK (xK (xK (xK (xK (xK (xK (xK (xK (xK (Fr.le_refl _))))))))))) ?_)
          refine g_seq ?_
          refine g_region ?_
          refine xV rfl rfl rfl (v_move rfl) ?_
          refine xV rfl rfl rfl (v_shrK rfl rfl (by omega) (by decide)) ?_
          rw [show ((c.toNat : Nat) : Int) / 2 ^ (7 : Int).toNat = ((c.toNat / 128 : Nat) : Int) by show (c.toNat : Int) / 128 = _; omega]
          refine xV rfl rfl rfl (v_eql rfl rfl) ?_
          refine rl_nil (g_le (xK (xK (xK (Fr.le_refl _)))) ?_)
          refine g_cond rfl (fun h3 => ?_) (fun h3 => ?_)
          · try with_reducible exact ft_elim h3
            all_goals
              try replace h3 := of_decide_eq_true h3
              rw [if_pos (by omega)] at heq
              refine g_seq (g_seq ?_)
              refine g_region ?_
              refine xV rfl rfl rfl (v_move rfl) ?_
              refine xV rfl rfl rfl (v_eql rfl rfl) ?_
              refine xV rfl rfl rfl (v_move rfl) ?_
              refine rl_split (s := 37) rfl (fun g10_2 => ?_) (fun g10_2 => ?_)
              · try with_reducible exact ft_elim g10_2
                all_goals
                  try replace g10_2 := of_decide_eq_true g10_2
                  refine rl_vg (met_on rfl rfl rfl rfl) rfl rfl (S := fun _ => True) trivial (v_move rfl) ?_
                  refine rl_vg (met_on rfl rfl rfl rfl) rfl rfl (S := fun _ => True) trivial (v_gtr rfl rfl) ?_
                  refine xV rfl rfl rfl (v_pick_true rfl rfl) ?_
                  refine rl_nil (g_le (xK (xK (xK (xK (xK (xK (xK (Fr.le_refl _)))))))) ?_)
                  refine g_cond rfl (fun h4 => ?_) (fun h4 => ?_)
                  · try with_reducible exact ft_elim h4
                    all_goals
                      try replace h4 := of_decide_eq_true h4
                      refine g_seq ?_
                      refine g_region ?_
                      refine xV rfl rfl rfl (v_assign rfl) ?_
                      refine xV rfl rfl rfl (v_assign rfl) ?_
                      refine xV rfl rfl rfl (v_assign rfl) ?_
                      refine rl_nil (g_le (xK (xK (xK (Fr.le_refl _)))) ?_)
                      refine g_ret3 Try.func102 rfl rfl rfl rfl ?_
                      rw [if_pos (by omega)] at heq
                      rw [heq]
                      exact ⟨rfl, hw.xQ⟩
                  · try with_reducible exact tf_elim h4
                    all_goals
                      try replace h4 := of_decide_eq_false h4
                      refine g_skip (g_seq ?_)
                      rw [if_neg (by omega)] at heq
                      refine g_region ?_
                      refine xV rfl rfl rfl (v_move rfl) ?_
                      refine xV rfl rfl rfl (v_move rfl) ?_
                      refine xV rfl rfl rfl (v_add rfl rfl (by omega)) ?_
                      refine xV rfl rfl rfl (v_assign rfl) ?_
                      refine xV rfl rfl rfl (v_assign rfl) ?_
                      refine xV rfl rfl rfl (v_assign rfl) ?_
                      refine rl_nil (g_le (xK (xK (xK (xK (xK (xK (Fr.le_refl _))))))) ?_)
                      refine g_ret3 Try.func102 rfl rfl rfl rfl ?_
                      rw [heq, show c.toNat % 128 = c.toNat by omega]
                      exact ⟨rfl, hw.xQ⟩
              · try with_reducible exact tf_elim g10_2
                all_goals
                  try replace g10_2 := of_decide_eq_false g10_2
                  refine rl_off (met_off rfl rfl rfl rfl rfl) rfl rfl ?_
                  refine rl_off (met_off rfl rfl rfl rfl rfl) rfl rfl ?_
                  refine xV rfl rfl rfl (v_pick_false rfl rfl) ?_
                  refine rl_nil (g_le (xK (xK (xK (xK (xK (xK (xK (Fr.le_refl _)))))))) ?_)
                  refine g_cond_false rfl ?_
                  refine g_skip (g_seq ?_)
                  rw [if_neg (by omega)] at heq
                  refine g_region ?_
                  refine xV rfl rfl rfl (v_move rfl) ?_
                  refine xV rfl rfl rfl (v_move rfl) ?_
                  refine xV rfl rfl rfl (v_add rfl rfl (by omega)) ?_
                  refine xV rfl rfl rfl (v_assign rfl) ?_
                  refine xV rfl rfl rfl (v_assign rfl) ?_
                  refine xV rfl rfl rfl (v_assign rfl) ?_
                  refine rl_nil (g_le (xK (xK (xK (xK (xK (xK (Fr.le_refl _))))))) ?_)
                  refine g_ret3 Try.func102 rfl rfl rfl rfl ?_
                  rw [heq, show c.toNat % 128 = c.toNat by omega]
                  exact ⟨rfl, hw.xQ⟩
          · try with_reducible exact tf_elim h3
            all_goals
              try replace h3 := of_decide_eq_false h3
              rw [if_neg (by omega)] at heq
              refine g_skip (g_inBlock ?_)
              refine g_region ?_
              refine xV rfl rfl rfl (v_move rfl) ?_
              refine xV rfl rfl rfl (v_add rfl rfl (by omega)) ?_
              refine xV rfl rfl rfl (v_assign rfl) ?_
              refine rl_nil (g_le (xK (xK (xK (Fr.le_refl _)))) ?_)
              rw [show c.toNat - 128 = c.toNat % 128 by omega] at heq
              have h2 : 2 ^ (7 * (i + 1)) = 128 * 2 ^ (7 * i) := by rw [Nat.mul_succ, Nat.pow_add, Nat.mul_comm]
              have h7 : (c.toNat % 128) * 2 ^ (7 * i) ≤ 127 * 2 ^ (7 * i) := Nat.mul_le_mul_right _ (by omega)
              exact g_le (by repeat (first | exact Fr.le_nil _ | refine Fr.le_cons rfl ?_)) (ih (i + 1, n + c.toNat % 128 * 2 ^ (7 * i)) w ⟨by simp only; omega, by simp only; omega, heq, hw.xQ⟩ (by simp only; omega))
  · try with_reducible exact tf_elim h1
    all_goals
      try replace h1 := of_decide_eq_false h1
      refine g_exit rfl (g_seq ?_)
      refine g_region ?_
      refine xV rfl rfl rfl (v_assign rfl) ?_
      refine xV rfl rfl rfl (v_assign rfl) ?_
      refine xV rfl rfl rfl (v_assign rfl) ?_
      refine rl_nil (g_le (xK (xK (xK (Fr.le_refl _)))) ?_)
      refine g_ret3 Try.func102 rfl rfl rfl rfl ?_
      rw [getN_ge (show ¬ i < s.size by omega)] at heq
      rw [heq]
      exact ⟨rfl, hw.xQ⟩
theorem decMany_size {f : ByteArray → Nat → Tm × ByteArray × Nat × Int} (hf : ∀ s c, (f s c).2.2.2 = 0 → c ≤ 4000 → (f s c).2.1.size ≤ s.size ∧ c < (f s c).2.2.1 ∧ (f s c).2.2.1 ≤ 4000) : ∀ (m : Nat) (s : ByteArray) (c : Nat) (acc : List Tm), (decMany f m s c acc).2.2.2 = 0 → c ≤ 4000 → (decMany f m s c acc).2.1.size ≤ s.size ∧ c ≤ (decMany f m s c acc).2.2.1 ∧ (decMany f m s c acc).2.2.1 ≤ 4000
  | 0, s, c, acc, _, hc => by simp only [decMany]; omega
  | m + 1, s, c, acc, h, hc => by
    simp only [decMany] at h ⊢
    split at h
    · rename_i h1; exact absurd h h1
    · rename_i h1
      rw [if_neg h1]
      have h2 := hf s c (by omega) hc
      have h3 := decMany_size hf m _ _ _ h h2.2.2
      omega
theorem headD_ok {k : Nat} {s : ByteArray} {c : Nat} (h : (headD k s c).2.2.2 = 0) : c < 4000 ∧ 0 < k ∧ 1 ≤ (headD k s c).1 ∧ (headD k s c).1 ≤ 5 ∧ (headD k s c).2.1 < 2 ^ 64 ∧ (headD k s c).2.2.1.size ≤ s.size := by
  unfold headD at h ⊢
  split at h
  · cases h
  · rename_i h1
    rw [if_neg h1]
    split at h
    · cases h
    · rename_i h2
      rw [if_neg h2]
      cases hb : s[0]? with
      | none => rw [hb] at h; cases h
      | some b =>
        rw [hb] at h
        simp only at h ⊢
        split at h
        · cases h
        · rename_i h3
          rw [if_neg h3]
          split at h
          · rename_i h4; exact absurd h h4
          · rename_i h4
            rw [if_neg h4]
            refine ⟨by omega, by omega, by simp only; omega, by simp only; omega, getN_num _ _ 0 0 rfl (by omega) (by decide), ?_⟩
            simp only [ByteArray.size_extract]; omega
theorem decT_size : ∀ (k : Nat) (s : ByteArray) (c : Nat), (decT k s c).2.2.2 = 0 → c ≤ 4000 → (decT k s c).2.1.size ≤ s.size ∧ c < (decT k s c).2.2.1 ∧ (decT k s c).2.2.1 ≤ 4000
  | 0, s, c, h, _ => by
    simp only [decT] at h
    split at h <;> cases h
  | k + 1, s, c, h, hc => by
    unfold decT at h ⊢
    split at h
    · rename_i h1; exact absurd h h1
    · rename_i h1
      rw [if_neg h1]
      have hh := headD_ok (k := k + 1) (s := s) (c := c) (by omega)
      split at h
      · rename_i h2
        rw [if_pos h2]
        split at h
        · cases h
        · rename_i h3
          rw [if_neg h3]
          split at h
          · cases h
          · rename_i h4
            rw [if_neg h4]
            simp only [ByteArray.size_extract]; omega
      · rename_i h2
        rw [if_neg h2]
        generalize (if (headD (k + 1) s c).1 = 4 then 1 else if (headD (k + 1) s c).1 = 5 then (headD (k + 1) s c).2.1 else 0) = many at h ⊢
        dsimp only at h ⊢
        split at h
        · rename_i h3; exact absurd h h3
        · rename_i h3
          rw [if_neg h3]
          have := decMany_size (f := decT k) (fun s c => decT_size k s c) _ _ _ _ (Classical.not_not.1 h3) (by omega : c + 1 ≤ 4000)
          simp only
          omega
@[reducible] def RdrAt (p : Nat) (s : ByteArray) (c : Nat) : As := pt p (.cells [Value.string s, .int .i64 (c : Nat)].toArray 164 (0, 0))
theorem head_calls {E : Env} {w : World} {L : List As} {p k : Nat} {s : ByteArray} {c : Nat} {ar : Int} (hs : s.size ≤ reachBytes) (hk : ar + k = 12) (h0 : 0 ≤ ar) (hc : c ≤ 4000) (hw : Sat E w (RdrAt p s c :: L)) :
    Calls Try.prog 99 #[.pointer (some ⟨p, 0, none⟩), .int .i64 ar] w fun e w' => e = .returned (.tuple #[.int .i64 (headD k s c).1, .int .u64 ((headD k s c).2.1 : Nat), .int .i64 (headD k s c).2.2.2]) ∧
      ∃ s' c', ((headD k s c).2.2.2 = 0 → s' = (headD k s c).2.2.1 ∧ c' = c + 1) ∧ Sat E w' (RdrAt p s' c' :: L) := by
  refine calls_of_g (n := 70) Try.func99 rfl rfl rfl ?_
  change G _ _ _ _ _ [(0, _), (1, _)] _
  refine g_seq ?_
  refine g_region ?_
  refine xV rfl rfl rfl (v_assign rfl) ?_
  refine xV rfl rfl rfl (v_assign rfl) ?_
  refine xV rfl rfl rfl (v_assign rfl) ?_
  refine rl_nil (g_le (xK (xK (xK (Fr.le_refl _)))) ?_)
  refine g_seq (g_block (g_seq ?_))
  refine g_region ?_
  refine xV rfl rfl rfl (v_move rfl) ?_
  refine xV rfl rfl rfl (v_nilCheck rfl) ?_
  refine xV rfl rfl rfl (v_fieldAddr0 T.fld_164_1_1 rfl) ?_
  refine rl_v rfl rfl rfl (by exact sat_cell hw (by (repeat first | with_reducible exact xH | apply xT); first | done | fail) rfl) (v_load T.scal_3 rfl) ?_
  refine xV rfl rfl rfl (v_geq rfl rfl) ?_
  refine xV rfl rfl rfl (v_assign rfl) ?_
  refine rl_nil (g_le (xK (xS rfl (xS rfl (xS rfl (xS rfl (xS rfl (Fr.le_refl _))))))) ?_)
  refine g_cond rfl (fun h1 => ?_) (fun h1 => ?_)
  · try with_reducible exact ft_elim h1
    all_goals
      try replace h1 := of_decide_eq_true h1
      refine g_seq ?_
      refine g_region ?_
      refine xV rfl rfl rfl (v_assign rfl) ?_
      refine xV rfl rfl rfl (v_assign rfl) ?_
      refine xV rfl rfl rfl (v_assign rfl) ?_
      refine rl_nil (g_le (xK (xK (xK (Fr.le_refl _)))) ?_)
      refine g_ret3 Try.func99 rfl rfl rfl rfl ?_
      have e9 : headD k s c = (0, 0, s, 23) := by unfold headD; rw [if_pos (by omega)]
      rw [e9]
      exact ⟨rfl, s, c, (fun h => by cases h), hw⟩
  · try with_reducible exact tf_elim h1
    all_goals
      try replace h1 := of_decide_eq_false h1
      refine g_seq ?_
      refine g_region ?_
      refine xV rfl rfl rfl (v_move rfl) ?_
      refine xV rfl rfl rfl (v_geq rfl rfl) ?_
      refine xV rfl rfl rfl (v_assign rfl) ?_
      refine rl_nil (g_le (xK (xS rfl (xS rfl (Fr.le_refl _)))) ?_)
      refine g_cond rfl (fun h2 => ?_) (fun h2 => ?_)
      · try with_reducible exact ft_elim h2
        all_goals
          try replace h2 := of_decide_eq_true h2
          refine g_seq ?_
          refine g_region ?_
          refine xV rfl rfl rfl (v_assign rfl) ?_
          refine xV rfl rfl rfl (v_assign rfl) ?_
          refine xV rfl rfl rfl (v_assign rfl) ?_
          refine rl_nil (g_le (xK (xK (xK (Fr.le_refl _)))) ?_)
          refine g_ret3 Try.func99 rfl rfl rfl rfl ?_
          have e9 : headD k s c = (0, 0, s, 22) := by unfold headD; rw [if_neg (by omega), if_pos (by omega)]
          rw [e9]
          exact ⟨rfl, s, c, (fun h => by cases h), hw⟩
      · try with_reducible exact tf_elim h2
        all_goals
          try replace h2 := of_decide_eq_false h2
          refine g_seq ?_
          refine g_region ?_
          refine xV rfl rfl rfl (v_move rfl) ?_
          refine xV rfl rfl rfl (v_nilCheck rfl) ?_
          refine xV rfl rfl rfl (v_fieldAddr0 T.fld_164_0_0 rfl) ?_
          refine rl_v rfl rfl rfl (by exact sat_cell hw (by (repeat first | with_reducible exact xH | apply xT); first | done | fail) rfl) (v_load T.scal_9 rfl) ?_
          refine xV rfl rfl rfl (v_eqlStr rfl rfl) ?_
          refine xV rfl rfl rfl (v_assign rfl) ?_
          refine rl_nil (g_le (xK (xS rfl (xS rfl (xS rfl (xS rfl (xS rfl (Fr.le_refl _))))))) ?_)
          refine g_cond rfl (fun h3 => ?_) (fun h3 => ?_)
          · try with_reducible exact ft_elim h3
            all_goals
              try replace h3 := of_decide_eq_true h3
              refine g_seq ?_
              refine g_region ?_
              refine xV rfl rfl rfl (v_assign rfl) ?_
              refine xV rfl rfl rfl (v_assign rfl) ?_
              refine xV rfl rfl rfl (v_assign rfl) ?_
              refine rl_nil (g_le (xK (xK (xK (Fr.le_refl _)))) ?_)
              refine g_ret3 Try.func99 rfl rfl rfl rfl ?_
              have e9 : headD k s c = (0, 0, s, 20) := by unfold headD; rw [if_neg (by omega), if_neg (by omega), h3]; rfl
              rw [e9]
              exact ⟨rfl, s, c, (fun h => by cases h), hw⟩
          · try with_reducible exact tf_elim h3
            all_goals
              try replace h3 := of_decide_eq_false h3
              have hlt : 0 < s.size := by rcases Nat.eq_zero_or_pos s.size with h | h; exact absurd (ByteArray.size_eq_zero_iff.1 h) h3; exact h
              obtain ⟨b, hb⟩ : ∃ b, s[0]? = some b := ⟨_, getElem?_pos s 0 hlt⟩
              have hbl := b.toNat_lt
              have hx : s[(0 : Int).toNat]? = some b := hb
              refine g_skip (g_inBlock (g_seq ?_))
              refine g_region ?_
              refine xV rfl rfl rfl (v_move rfl) ?_
              refine xV rfl rfl rfl (v_nilCheck rfl) ?_
              refine xV rfl rfl rfl (v_fieldAddr0 T.fld_164_1_1 rfl) ?_
              refine rl_v rfl rfl rfl (by exact sat_cell hw (by (repeat first | with_reducible exact xH | apply xT); first | done | fail) rfl) (v_load T.scal_3 rfl) ?_
              refine xV rfl rfl rfl (v_add rfl rfl (by omega)) ?_
              refine xV rfl rfl rfl (v_nilCheck rfl) ?_
              refine xV rfl rfl rfl (v_fieldAddr0 T.fld_164_1_1 rfl) ?_
              refine rl_k rfl (k_store hw T.scal_3 rfl rfl rfl (by (repeat first | with_reducible exact xH | apply xT); first | done | fail) rfl (by simp only [List.set, Int.reduceToNat, Nat.reduceMul, Nat.reduceAdd]; rfl) (fun w hw => ?_))
              refine rl_nil (g_le (xS rfl (xS rfl (xS rfl (xS rfl (xS rfl (xS rfl (xS rfl (Fr.le_refl _)))))))) ?_)
              refine g_seq ?_
              refine g_region ?_
              refine xV rfl rfl rfl (v_move rfl) ?_
              refine xV rfl rfl rfl (v_nilCheck rfl) ?_
              refine xV rfl rfl rfl (v_fieldAddr0 T.fld_164_0_0 rfl) ?_
              refine rl_v rfl rfl rfl (by exact sat_cell hw (by (repeat first | with_reducible exact xH | apply xT); first | done | fail) rfl) (v_load T.scal_9 rfl) ?_
              refine xV rfl rfl rfl (v_indexStr T.str_9 rfl rfl (by omega) (by assumption)) ?_
              refine xV rfl rfl rfl (v_convInt T.int_3_i64 T.int_5_u8 rfl) ?_
              rw [show IntKind.i64.wrap ((b.toNat : Nat) : Int) = ((b.toNat : Nat) : Int) from i64_in (by omega)]
              refine xV rfl rfl rfl (v_assign rfl) ?_
              refine rl_nil (g_le (xK (xS rfl (xS rfl (xS rfl (xS rfl (xS rfl (xS rfl (Fr.le_refl _)))))))) ?_)
              refine g_seq (g_seq ?_)
              refine g_region ?_
              refine xV rfl rfl rfl (v_move rfl) ?_
              refine xV rfl rfl rfl (v_lss rfl rfl) ?_
              refine xV rfl rfl rfl (v_move rfl) ?_
              refine rl_split (s := 41) rfl (fun g9_2 => ?_) (fun g9_2 => ?_)
              · try with_reducible exact ft_elim g9_2
                all_goals
                  try replace g9_2 := of_decide_eq_true g9_2
                  refine rl_off (met_off rfl rfl rfl rfl rfl) rfl rfl ?_
                  refine rl_off (met_off rfl rfl rfl rfl rfl) rfl rfl ?_
                  refine xV rfl rfl rfl (v_pick_true rfl rfl) ?_
                  refine rl_nil (g_le (xK (xS rfl (xS rfl (xS rfl (xS rfl (xS rfl (xS rfl (Fr.le_refl _)))))))) ?_)
                  refine g_cond_true rfl ?_
                  refine g_seq ?_
                  refine g_region ?_
                  refine xV rfl rfl rfl (v_assign rfl) ?_
                  refine xV rfl rfl rfl (v_assign rfl) ?_
                  refine xV rfl rfl rfl (v_assign rfl) ?_
                  refine rl_nil (g_le (xK (xK (xK (Fr.le_refl _)))) ?_)
                  refine g_ret3 Try.func99 rfl rfl rfl rfl ?_
                  have e9 : headD k s c = (0, 0, s, 21) := by unfold headD; rw [if_neg (by omega), if_neg (by omega), hb]; simp only; rw [if_pos (by omega)]
                  rw [e9]
                  exact ⟨rfl, s, c + 1, (fun h => by cases h), hw⟩
              · try with_reducible exact tf_elim g9_2
                all_goals
                  try replace g9_2 := of_decide_eq_false g9_2
                  refine rl_vg (met_on rfl rfl rfl rfl) rfl rfl (S := fun _ => True) trivial (v_move rfl) ?_
                  refine rl_vg (met_on rfl rfl rfl rfl) rfl rfl (S := fun _ => True) trivial (v_gtr rfl rfl) ?_
                  refine xV rfl rfl rfl (v_pick_false rfl rfl) ?_
                  refine rl_nil (g_le (xK (xS rfl (xS rfl (xS rfl (xS rfl (xS rfl (xS rfl (Fr.le_refl _)))))))) ?_)
                  refine g_cond rfl (fun h4 => ?_) (fun h4 => ?_)
                  · try with_reducible exact ft_elim h4
                    all_goals
                      try replace h4 := of_decide_eq_true h4
                      refine g_seq ?_
                      refine g_region ?_
                      refine xV rfl rfl rfl (v_assign rfl) ?_
                      refine xV rfl rfl rfl (v_assign rfl) ?_
                      refine xV rfl rfl rfl (v_assign rfl) ?_
                      refine rl_nil (g_le (xK (xK (xK (Fr.le_refl _)))) ?_)
                      refine g_ret3 Try.func99 rfl rfl rfl rfl ?_
                      have e9 : headD k s c = (0, 0, s, 21) := by unfold headD; rw [if_neg (by omega), if_neg (by omega), hb]; simp only; rw [if_pos (by omega)]
                      rw [e9]
                      exact ⟨rfl, s, c + 1, (fun h => by cases h), hw⟩
                  · try with_reducible exact tf_elim h4
                    all_goals
                      try replace h4 := of_decide_eq_false h4
                      refine g_skip (g_seq ?_)
                      refine g_region ?_
                      refine xV rfl rfl rfl (v_move rfl) ?_
                      refine xV rfl rfl rfl (v_nilCheck rfl) ?_
                      refine xV rfl rfl rfl (v_fieldAddr0 T.fld_164_0_0 rfl) ?_
                      refine rl_v rfl rfl rfl (by exact sat_cell hw (by (repeat first | with_reducible exact xH | apply xT); first | done | fail) rfl) (v_load T.scal_9 rfl) ?_
                      refine xV rfl rfl rfl (v_sliceStrFrom T.str_9 rfl rfl (by omega) (by omega)) ?_
                      refine rl_k rfl (k_callf Try.func102 rfl rfl rfl rfl ?_)
                      refine Calls.mono (getNum_calls (s.extract 1 s.size) (by rw [ByteArray.size_extract]; simp only [reachBytes] at hs ⊢; omega) hw) ?_
                      rintro _ w ⟨rfl, hw⟩
                      refine ⟨_, rfl, ?_⟩
                      refine xV rfl rfl rfl (v_move rfl) ?_
                      refine xV rfl rfl rfl (v_extract rfl rfl) ?_
                      refine xV rfl rfl rfl (v_extract rfl rfl) ?_
                      refine xV rfl rfl rfl (v_extract rfl rfl) ?_
                      refine xV rfl rfl rfl (v_assign rfl) ?_
                      refine xV rfl rfl rfl (v_assign rfl) ?_
                      refine xV rfl rfl rfl (v_assign rfl) ?_
                      refine rl_nil (g_le (xK (xK (xK (xS rfl (xS rfl (xS rfl (xS rfl (xS rfl (xS rfl (xS rfl (xS rfl (xS rfl (xS rfl (Fr.le_refl _)))))))))))))) ?_)
                      refine g_seq (g_seq ?_)
                      refine g_region ?_
                      refine xV rfl rfl rfl (v_move rfl) ?_
                      refine xV rfl rfl rfl (v_neq rfl rfl) ?_
                      refine rl_nil (g_le (xK (xS rfl (Fr.le_refl _))) ?_)
                      refine g_cond rfl (fun h5 => ?_) (fun h5 => ?_)
                      · try with_reducible exact ft_elim h5
                        all_goals
                          try replace h5 := of_decide_eq_true h5
                          refine g_seq ?_
                          refine g_region ?_
                          refine xV rfl rfl rfl (v_move rfl) ?_
                          refine xV rfl rfl rfl (v_assign rfl) ?_
                          refine xV rfl rfl rfl (v_assign rfl) ?_
                          refine xV rfl rfl rfl (v_assign rfl) ?_
                          refine rl_nil (g_le (xK (xK (xK (xS rfl (Fr.le_refl _))))) ?_)
                          refine g_ret3 Try.func99 rfl rfl rfl rfl ?_
                          have e9 : headD k s c = (0, 0, s, (getN (s.extract 1 s.size) 0 0).2.2) := by unfold headD; rw [if_neg (by omega), if_neg (by omega), hb]; simp only; rw [if_neg (by omega), if_pos h5]
                          rw [e9]
                          exact ⟨rfl, s, c + 1, fun h => absurd h h5, hw⟩
                      · try with_reducible exact tf_elim h5
                        all_goals
                          try replace h5 := of_decide_eq_false h5
                          have hgl := getN_le _ (s.extract 1 s.size) 0 0 rfl (by omega)
                          rw [ByteArray.size_extract] at hgl
                          simp only [reachBytes] at hs
                          refine g_skip (g_seq ?_)
                          refine g_region ?_
                          refine xV rfl rfl rfl (v_move rfl) ?_
                          refine xV rfl rfl rfl (v_move rfl) ?_
                          refine xV rfl rfl rfl (v_nilCheck rfl) ?_
                          refine xV rfl rfl rfl (v_fieldAddr0 T.fld_164_0_0 rfl) ?_
                          refine rl_v rfl rfl rfl (by exact sat_cell hw (by (repeat first | with_reducible exact xH | apply xT); first | done | fail) rfl) (v_load T.scal_9 rfl) ?_
                          refine xV rfl rfl rfl (v_move rfl) ?_
                          refine xV rfl rfl rfl (v_add rfl rfl (by omega)) ?_
                          refine xV rfl rfl rfl (v_sliceStrFrom T.str_9 rfl rfl (by omega) (by omega)) ?_
                          refine xV rfl rfl rfl (v_nilCheck rfl) ?_
                          refine xV rfl rfl rfl (v_fieldAddr0 T.fld_164_0_0 rfl) ?_
                          refine rl_k rfl (k_store hw T.scal_9 rfl rfl rfl (by (repeat first | with_reducible exact xH | apply xT); first | done | fail) rfl (by simp only [List.set, Int.reduceToNat, Nat.reduceMul, Nat.reduceAdd]; rfl) (fun w hw => ?_))
                          refine rl_nil (g_le (xS rfl (xS rfl (xS rfl (xS rfl (xS rfl (xS rfl (xS rfl (xS rfl (xS rfl (xS rfl (Fr.le_refl _))))))))))) ?_)
                          refine g_seq ?_
                          refine g_region ?_
                          refine xV rfl rfl rfl (v_move rfl) ?_
                          refine xV rfl rfl rfl (v_move rfl) ?_
                          refine xV rfl rfl rfl (v_assign rfl) ?_
                          refine xV rfl rfl rfl (v_assign rfl) ?_
                          refine xV rfl rfl rfl (v_assign rfl) ?_
                          refine rl_nil (g_le (xK (xK (xK (xS rfl (xS rfl (Fr.le_refl _)))))) ?_)
                          refine g_ret3 Try.func99 rfl rfl rfl rfl ?_
                          have e9 : headD k s c = ((b.toNat : Int), (getN (s.extract 1 s.size) 0 0).1, s.extract (1 + (getN (s.extract 1 s.size) 0 0).2.1) s.size, 0) := by unfold headD; rw [if_neg (by omega), if_neg (by omega), hb]; simp only; rw [if_neg (by omega), if_neg h5]
                          rw [e9]
                          refine ⟨rfl, _, c + 1, fun _ => ⟨rfl, rfl⟩, ?_⟩
                          rw [show (1 + (((getN (s.extract 1 s.size) 0 0).2.1 : Nat) : Int)).toNat = 1 + (getN (s.extract 1 s.size) 0 0).2.1 by omega] at hw
                          dsimp only [RdrAt]
                          rw [show (((c + 1 : Nat)) : Int) = c + 1 by omega]
                          exact hw.xQ
end Go.Proofs.Ytlgpdglnfjndhaa
