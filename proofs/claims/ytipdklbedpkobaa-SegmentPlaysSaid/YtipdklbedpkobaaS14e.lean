/-
  The laws' own helpers of layer 14: a new log, a raw number among n.
-/
import Derived.Test.YtipdklbedpkobaaS14d
namespace Go.Proofs.Ytipdklbedpkobaa
set_option maxRecDepth 8000
set_option linter.unusedSimpArgs false
set_option linter.unusedVariables false
open Go Xe Go.Lib
def newMd (size : Int) (n : Nat) : Md := ⟨size, List.replicate n ByteArray.empty, [], 0⟩
theorem newSegs_len {n : Nat} (h : 1 ≤ n) : (newSegs n).length = n := by unfold newSegs; simp; omega
theorem new_LgI {size : Int} {n : Nat} (h1 : 1 ≤ n) (h2 : n ≤ 4096) (h3 : 1 ≤ size) (h4 : size ≤ 1048576) : LgI size 0 (newSegs n) (newMd size n) ⟨false, 0, 0⟩ := by
  have hl := newSegs_len h1
  refine ⟨⟨by simp [newMd]; omega, by simp [newMd]; omega, h3, h4, fun b hb => by rw [(List.mem_replicate.1 hb).2]; show ((0 : Nat) : Int) ≤ size; omega⟩, rfl, by rw [hl]; simp [newMd], Int.le_refl _, by rw [hl]; omega, rfl, ?_, ?_, ⟨by simp, by simp, rfl⟩, ⟨rfl, rfl⟩⟩
  · show (0 : Int) ≤ _; omega
  · intro x hx
    have hq : (newMd size n).size = size := rfl
    rw [hq]
    unfold newSegs at hx
    rcases List.mem_cons.1 hx with rfl | hx
    · simp only; omega
    · rw [(List.mem_replicate.1 hx).2]; simp only; omega
theorem new_frees (n : Nat) : frees (newSegs n) = n - 1 := by
  unfold frees newSegs
  rw [List.countP_cons_of_neg (by simp)]
  simp [List.countP_replicate]
theorem fresh_calls {E : Env} {w : World} {L : List As} (n size : Int) (h1 : 1 ≤ n) (h2 : n ≤ 4096) (h3 : 1 ≤ size) (h4 : size ≤ 1048576) (hw : Sat E w L) :
    Calls Try.prog 21 #[.int .i64 n, .int .i64 size] w fun e w' => ∃ l m p b c, e = .returned (.pointer (some ⟨l, 0, none⟩)) ∧ Sat E w' (pt l (.cells [Value.pointer (some ⟨m, 0, none⟩), .int .i64 0, .slice (some ⟨b, 0, none⟩) ((newSegs n.toNat) : List Sg).length c].toArray 47 (0, 0)) :: OwnSl 104 3 (.slice (some ⟨b, 0, none⟩) ((newSegs n.toNat)).length c) ((newSegs n.toNat)).length (((newSegs n.toNat)).flatMap Sg.cells) :: MdAt m p (newMd size n.toNat) :: PwAt p ⟨false, 0, 0⟩ :: L) := by
  refine calls_of_g (n := 22) Try.func21 rfl rfl rfl ?_
  change G _ _ _ _ _ [(0, _), (1, _)] _
  refine g_seq ?_
  refine g_region ?_
  refine xV rfl rfl rfl (v_assign rfl) ?_
  refine rl_nil (g_le (xK (Fr.le_refl _)) ?_)
  refine g_seq ?_
  refine g_region ?_
  refine rl_k rfl (k_callf Try.func10 rfl rfl rfl rfl ?_)
  refine Calls.mono (new_calls (hw.xQ)) ?_
  rintro _ w ⟨p, rfl, hw⟩
  refine ⟨_, rfl, ?_⟩
  refine xV rfl rfl rfl (v_move rfl) ?_
  refine xV rfl rfl rfl (v_move rfl) ?_
  refine rl_k rfl (k_callf Try.func9 rfl rfl rfl rfl ?_)
  refine Calls.mono (mnew_calls p n size h1 h2 h3 h4 hw) ?_
  rintro _ w ⟨m, rfl, hw⟩
  refine ⟨_, rfl, ?_⟩
  refine xV rfl rfl rfl (v_move rfl) ?_
  refine xV rfl rfl rfl (v_extract rfl rfl) ?_
  refine xV rfl rfl rfl (v_extract rfl rfl) ?_
  refine xV rfl rfl rfl (v_assign rfl) ?_
  refine xV rfl rfl rfl (v_assign rfl) ?_
  refine rl_nil (g_le (xK (xK (xS rfl (xS rfl (xS rfl (xS rfl (xS rfl (xS rfl (xS rfl (Fr.le_refl _)))))))))) ?_)
  refine g_seq (g_seq ?_)
  refine g_region ?_
  refine xV rfl rfl rfl (v_move rfl) ?_
  refine xV rfl rfl rfl (v_eqlNil T.ptr_24 rfl rfl) ?_
  refine xV rfl rfl rfl (v_move rfl) ?_
  refine rl_split (s := 16) rfl (fun g2_2 => ?_) (fun g2_2 => ?_)
  · try with_reducible exact ft_elim g2_2
    all_goals
      try replace g2_2 := of_decide_eq_true g2_2
      simp at g2_2
  · try with_reducible exact tf_elim g2_2
    all_goals
      try replace g2_2 := of_decide_eq_false g2_2
      refine rl_vg (met_on rfl rfl rfl rfl) rfl rfl (S := fun _ => True) trivial (v_move rfl) ?_
      refine rl_vg (met_on rfl rfl rfl rfl) rfl rfl (S := fun _ => True) trivial (v_neqF rfl rfl (by omega)) ?_
      refine xV rfl rfl rfl (v_pick_false rfl rfl) ?_
      refine rl_nil (g_le (xK (xS rfl (xS rfl (xS rfl (xS rfl (xS rfl (xS rfl (Fr.le_refl _)))))))) ?_)
      refine g_cond_false rfl ?_
      refine g_skip (g_seq ?_)
      refine g_region ?_
      refine xV rfl rfl rfl (v_move rfl) ?_
      refine rl_k rfl (k_callf Try.func13 rfl rfl rfl rfl ?_)
      refine Calls.mono (snew_calls m p (newMd size n.toNat) hw) ?_
      rintro _ w ⟨l, b, c, rfl, hw⟩
      refine ⟨_, rfl, ?_⟩
      refine xV rfl rfl rfl (v_assign rfl) ?_
      refine rl_nil (g_le (xK (xS rfl (xS rfl (Fr.le_refl _)))) ?_)
      refine g_ret1 Try.func21 rfl rfl ?_
      have hn : (newMd size n.toNat).segs.length = n.toNat := by simp [newMd]
      rw [hn] at hw
      exact ⟨l, m, p, b, c, rfl, hw.xQ⟩
theorem pick_calls {E : Env} {w : World} {L : List As} (i n : Int) (h1 : 1 ≤ n) (h2 : n ≤ 100000) (hw : Sat E w L) :
    Calls Try.prog 20 #[.int .i64 i, .int .i64 n] w fun e w' => ∃ r : Int, e = .returned (.int .i64 r) ∧ 0 ≤ r ∧ r < n ∧ Sat E w' L := by
  have hr1 := Int.tmod_lt_of_pos i (show 0 < n by omega)
  have hr2 : -n < i.tmod n := by have h := Int.tmod_lt_of_pos (-i) (show 0 < n by omega); rw [Int.neg_tmod] at h; omega
  refine calls_of_g (n := 14) Try.func20 rfl rfl rfl ?_
  change G _ _ _ _ _ [(0, _), (1, _)] _
  refine g_seq ?_
  refine g_region ?_
  refine xV rfl rfl rfl (v_assign rfl) ?_
  refine rl_nil (g_le (xK (Fr.le_refl _)) ?_)
  refine g_seq ?_
  refine g_region ?_
  refine xV rfl rfl rfl (v_move rfl) ?_
  refine xV rfl rfl rfl (v_move rfl) ?_
  refine xV rfl rfl rfl (v_rem rfl rfl (by omega)) ?_
  refine xV rfl rfl rfl (v_assign rfl) ?_
  refine rl_nil (g_le (xK (xS rfl (xS rfl (xS rfl (Fr.le_refl _))))) ?_)
  refine g_seq (g_seq ?_)
  refine g_region ?_
  refine xV rfl rfl rfl (v_move rfl) ?_
  refine xV rfl rfl rfl (v_lss rfl rfl) ?_
  refine rl_nil (g_le (xK (xS rfl (Fr.le_refl _))) ?_)
  refine g_cond rfl (fun h1 => ?_) (fun h1 => ?_)
  · try with_reducible exact ft_elim h1
    all_goals
      try replace h1 := of_decide_eq_true h1
      refine g_region ?_
      refine xV rfl rfl rfl (v_move rfl) ?_
      refine xV rfl rfl rfl (v_move rfl) ?_
      refine xV rfl rfl rfl (v_add rfl rfl (by omega)) ?_
      refine xV rfl rfl rfl (v_assign rfl) ?_
      refine rl_nil (g_le (xK (xS rfl (xS rfl (xS rfl (Fr.le_refl _))))) ?_)
      refine g_seq ?_
      refine g_region ?_
      refine xV rfl rfl rfl (v_move rfl) ?_
      refine xV rfl rfl rfl (v_assign rfl) ?_
      refine rl_nil (g_le (xK (xS rfl (Fr.le_refl _))) ?_)
      refine g_ret1 Try.func20 rfl rfl ?_
      exact ⟨_, rfl, by omega, by omega, hw.xQ⟩
  · try with_reducible exact tf_elim h1
    all_goals
      try replace h1 := of_decide_eq_false h1
      refine g_skip (g_seq ?_)
      refine g_region ?_
      refine xV rfl rfl rfl (v_move rfl) ?_
      refine xV rfl rfl rfl (v_assign rfl) ?_
      refine rl_nil (g_le (xK (xS rfl (Fr.le_refl _))) ?_)
      refine g_ret1 Try.func20 rfl rfl ?_
      exact ⟨_, rfl, by omega, by omega, hw.xQ⟩
end Go.Proofs.Ytipdklbedpkobaa
