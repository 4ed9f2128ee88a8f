/-
  Terms (layer 2): Right, the bytes of a term, a term's own copy, rows of terms.
-/
import Derived.Test.YtlgpdglnfjndhaaU02a
namespace Go.Proofs.Ytlgpdglnfjndhaa
set_option maxRecDepth 8000
set_option linter.unusedSimpArgs false
set_option linter.unusedVariables false
open Go Xe Go.Lib
theorem oneT_kind {t : Tm} (h : oneT t = true) : 1 ≤ t.kind ∧ t.kind ≤ 5 := by
  unfold oneT at h
  split at h
  · omega
  · split at h
    · omega
    · split at h
      · omega
      · split at h
        · omega
        · cases h
theorem tright_calls {E : Env} {w : World} {L : List As} {g : Hp} {cs : List Value} {t : Tm} (ht : rdTm g cs t) (hw : Sat E w (RO g :: L)) :
    Calls Try.prog 80 #[.agg cs.toArray] w fun e w' => e = .returned (.int .i64 (rightT t)) ∧ Sat E w' (RO g :: L) := by
  obtain ⟨a, c, rfl, _⟩ := tm_shape ht
  refine calls_of_g (n := 15) Try.func80 rfl rfl rfl ?_
  change G _ _ _ _ _ [(0, _)] _
  refine g_seq ?_
  refine g_region ?_
  refine rl_k rfl (k_box hw rfl rfl rfl (fun bk0_0 w hw => ?_))
  refine xV rfl rfl rfl (v_assign rfl) ?_
  refine rl_nil (g_le (xK (xK (Fr.le_refl _))) ?_)
  refine g_seq (g_block (g_seq ?_))
  refine g_region ?_
  refine rl_v rfl rfl rfl (by exact sat_cells hw (by (repeat first | with_reducible exact xH | apply xT); first | done | fail) ⟨rfl, rfl, rfl, rfl, trivial⟩) (v_loadAgg (vs := [_, _, _, _]) T.agg_111_4 rfl rfl) ?_
  refine rl_k rfl (k_callf Try.func92 rfl rfl rfl rfl ?_)
  refine Calls.mono (parts_calls _ 4001 (Nat.le_refl _) ht (by omega) (by omega) (hw.xQ)) ?_
  rintro _ w ⟨rfl, hw⟩
  refine ⟨_, rfl, ?_⟩
  refine xV rfl rfl rfl (v_gtr rfl rfl) ?_
  refine xV rfl rfl rfl (v_assign rfl) ?_
  refine rl_nil (g_le (xK (xS rfl (xS rfl (xS rfl (Fr.le_refl _))))) ?_)
  refine g_cond rfl (fun h1 => ?_) (fun h1 => ?_)
  · try with_reducible exact ft_elim h1
    all_goals
      try replace h1 := of_decide_eq_true h1
      refine g_seq ?_
      refine g_region ?_
      refine xV rfl rfl rfl (v_assign rfl) ?_
      refine rl_nil (g_le (xK (Fr.le_refl _)) ?_)
      refine g_ret1 Try.func80 rfl rfl ?_
      exact ⟨by unfold rightT; rw [if_pos (by omega)], hw.xQ⟩
  · try with_reducible exact tf_elim h1
    all_goals
      try replace h1 := of_decide_eq_false h1
      refine g_seq ?_
      refine g_region ?_
      refine rl_v rfl rfl rfl (by exact sat_cells hw (by (repeat first | with_reducible exact xH | apply xT); first | done | fail) ⟨rfl, rfl, rfl, rfl, trivial⟩) (v_loadAgg (vs := [_, _, _, _]) T.agg_111_4 rfl rfl) ?_
      refine rl_k rfl (k_callf Try.func93 rfl rfl rfl rfl ?_)
      refine Calls.mono (deep_calls _ 13 (Nat.le_refl _) ht (by omega) (by omega) (hw.xQ)) ?_
      rintro _ w ⟨rfl, hw⟩
      refine ⟨_, rfl, ?_⟩
      refine xV rfl rfl rfl (v_gtr rfl rfl) ?_
      refine xV rfl rfl rfl (v_assign rfl) ?_
      refine rl_nil (g_le (xK (xS rfl (xS rfl (xS rfl (Fr.le_refl _))))) ?_)
      refine g_cond rfl (fun h2 => ?_) (fun h2 => ?_)
      · try with_reducible exact ft_elim h2
        all_goals
          try replace h2 := of_decide_eq_true h2
          refine g_seq ?_
          refine g_region ?_
          refine xV rfl rfl rfl (v_assign rfl) ?_
          refine rl_nil (g_le (xK (Fr.le_refl _)) ?_)
          refine g_ret1 Try.func80 rfl rfl ?_
          exact ⟨by unfold rightT; rw [if_neg (by omega), if_pos (by omega)], hw.xQ⟩
      · try with_reducible exact tf_elim h2
        all_goals
          try replace h2 := of_decide_eq_false h2
          refine g_seq ?_
          refine g_region ?_
          refine rl_v rfl rfl rfl (by exact sat_cells hw (by (repeat first | with_reducible exact xH | apply xT); first | done | fail) ⟨rfl, rfl, rfl, rfl, trivial⟩) (v_loadAgg (vs := [_, _, _, _]) T.agg_111_4 rfl rfl) ?_
          refine rl_k rfl (k_callf Try.func94 rfl rfl rfl rfl ?_)
          refine Calls.mono (shaped_calls _ (Nat.le_refl _) ht (hw.xQ)) ?_
          rintro _ w ⟨rfl, hw⟩
          refine ⟨_, rfl, ?_⟩
          refine xV rfl rfl rfl (v_not rfl) ?_
          refine xV rfl rfl rfl (v_assign rfl) ?_
          refine rl_nil (g_le (xK (xS rfl (xS rfl (xS rfl (Fr.le_refl _))))) ?_)
          refine g_cond rfl (fun h3 => ?_) (fun h3 => ?_)
          · try with_reducible exact ft_elim h3
            all_goals
              try replace h3 := of_decide_eq_true h3
              refine g_seq ?_
              refine g_region ?_
              refine xV rfl rfl rfl (v_assign rfl) ?_
              refine rl_nil (g_le (xK (Fr.le_refl _)) ?_)
              refine g_ret1 Try.func80 rfl rfl ?_
              exact ⟨by unfold rightT; rw [if_neg (by omega), if_neg (by omega), if_neg (by simpa using h3)], hw.xQ⟩
          · try with_reducible exact tf_elim h3
            all_goals
              try replace h3 := of_decide_eq_false h3
              refine g_skip (g_inBlock (g_seq ?_))
              refine g_region ?_
              refine xV rfl rfl rfl (v_assign rfl) ?_
              refine rl_nil (g_le (xK (Fr.le_refl _)) ?_)
              refine g_ret1 Try.func80 rfl rfl ?_
              exact ⟨by unfold rightT; rw [if_neg (by omega), if_neg (by omega), if_pos (by simpa using h3)], hw.xQ⟩
theorem putNumI_calls {E : Env} {w : World} {L : List As} (m : Int) (h0 : 0 ≤ m) (h1 : m ≤ 18446744073709551615) (hw : Sat E w L) :
    Calls Try.prog 98 #[.int .u64 m] w fun e w' => e = .returned (.string (putN m.toNat)) ∧ Sat E w' L := by
  have := putNum_calls m.toNat (by omega) hw
  rwa [Int.toNat_of_nonneg h0] at this
@[reducible] def TxA (v : Value) (s : ByteArray) : As := OwnSl 5 1 v s.size (strCells s)
mutual
theorem size_wrT : ∀ {t : Tm}, shT t = true → numsT t → nT t ≤ 4000 → (wrT t).size ≤ nT t * 4012
  | .mk kd n b l, h, hn, hm => by
    simp only [nT] at hm
    have hll := len_le_nL l
    simp only [shT, Bool.and_eq_true] at h
    have h2 := size_wrL h.2 hn.2 (by omega)
    have h3 := putN_le 9 n.toNat (by have := hn.1; omega)
    have h4 := putN_le 9 b.size
    have h5 := putN_le 9 l.length (by omega)
    have ho := h.1
    have hh : (headT (.mk kd n b l)).size ≤ 4012 := by
      unfold headT
      rw [ByteArray.size_append]
      show 1 + _ ≤ _
      simp only [Tm.kind, Tm.num, Tm.bytes, Tm.list]
      unfold oneT at ho
      simp only [Tm.kind, Tm.num, Tm.bytes, Tm.list] at ho
      split
      · omega
      · split
        · rw [if_neg (by omega), if_pos (by assumption)] at ho
          have := of_decide_eq_true ho
          rw [ByteArray.size_append]
          have := h4 (by omega)
          omega
        · split
          · omega
          · show 1 + 0 ≤ 4012; omega
    rw [wrT, ByteArray.size_append, nT, Nat.add_mul]
    omega
theorem size_wrL : ∀ {l : List Tm}, shL l = true → numsL l → nL l ≤ 4000 → (wrL l).size ≤ nL l * 4012
  | [], _, _, _ => by simp [wrL]
  | x :: xs, h, hn, hm => by
    simp only [nL] at hm
    simp only [shL, Bool.and_eq_true] at h
    have h1 := size_wrT h.1 hn.1 (by omega)
    have h2 := size_wrL h.2 hn.2 (by omega)
    rw [wrL, ByteArray.size_append, nL, Nat.add_mul]
    omega
end
theorem rdSl_mem' {α : Type} {bytes sz : Nat} {R : Rd α} {g : Hp} {v : Value} {xs : List α} (h : rdSl bytes sz R g [v] xs) : ∀ x ∈ xs, ∃ cs, R g cs x := by
  obtain ⟨a, n, c, rfl⟩ := rdSl_shape h
  obtain ⟨rfl, _, _, _, g1⟩ := rdSl_get h
  intro x hx
  obtain ⟨i, hi, rfl⟩ := List.mem_iff_getElem.1 hx
  obtain ⟨b, o, y, ecs, _, h1, _, _, h2⟩ := g1 (i : Int) (by omega) (by omega)
  rw [Int.toNat_natCast, List.getElem?_eq_getElem hi] at h1
  cases h1
  exact ⟨ecs, h2⟩
mutual
theorem numsT_of : ∀ (k : Nat) {g : Hp} {cs : List Value} {t : Tm}, rdTn k g cs t → numsT t
  | 0, _, _, _, h => h.elim
  | k + 1, g, cs, .mk kd n b l, h => by
    obtain ⟨sl, _, h2, h3⟩ := h
    exact ⟨⟨h2.1, h2.2.1⟩, numsL_of k (rdSl_mem' h3)⟩
theorem numsL_of : ∀ (k : Nat) {g : Hp} {l : List Tm}, (∀ x ∈ l, ∃ cs, rdTn k g cs x) → numsL l
  | _, _, [], _ => trivial
  | k, g, x :: xs, h => by
    obtain ⟨cs, h1⟩ := h x (by simp)
    exact ⟨numsT_of k h1, numsL_of k fun y hy => h y (by simp [hy])⟩
end
end Go.Proofs.Ytlgpdglnfjndhaa
