/-
  The functions of the statements of layer 11.
-/
import Derived.Test.YtdebodbkggbjeaaP11
namespace Go.Proofs.Ytdebodbkggbjeaa
set_option maxRecDepth 8000
set_option linter.unusedSimpArgs false
set_option linter.unusedVariables false
open Go Xe

theorem tmod_bounds (c n : Int) (h : 0 < n) : -n < c.tmod n ∧ c.tmod n < n := by
  have h1 := Int.tmod_lt_of_pos c h
  have h2 := Int.tmod_lt_of_pos (-c) h
  rw [Int.neg_tmod] at h2
  omega
theorem pick_eq (c n : Int) (h : 0 < n) : (if c.tmod n < 0 then c.tmod n + n else c.tmod n) = c % n := by
  have h1 := Int.tmod_eq_emod (a := c) (b := n)
  have h2 := Int.emod_nonneg c (by omega : n ≠ 0)
  have h3 := Int.emod_lt_of_pos c h
  have hb := tmod_bounds c n h
  split at h1 <;> split <;> omega

theorem pick11_calls {E : Env} {w : World} {L : List As} (c n : Int) (h0 : 0 < n) (h1 : n ≤ 1000000) (hw : Sat E w L) :
    Calls Try.prog 18 #[.int .i64 c, .int .i64 n] w fun e w' => e = .returned (.int .i64 (c % n)) ∧ Sat E w' L := by
  have hb := tmod_bounds c n h0
  have he := pick_eq c n h0
  refine calls_of_g (n := 14) Try.func18 rfl rfl rfl ?_
  change G _ _ _ _ _ [(0, _), (1, _)] _
  repeat (refine g_seq ?_)
  refine g_region ?_
  refine xV rfl rfl rfl (v_assign rfl) ?_
  refine rl_nil (g_le (xK (Fr.le_refl _)) ?_)
  repeat (refine g_seq ?_)
  refine g_region ?_
  refine xV rfl rfl rfl (v_move rfl) ?_
  refine xV rfl rfl rfl (v_move rfl) ?_
  refine xV rfl rfl rfl (v_rem rfl rfl (by omega)) ?_
  refine xV rfl rfl rfl (v_assign rfl) ?_
  refine rl_nil (g_le (xK (xS rfl (xS rfl (xS rfl (Fr.le_refl _))))) ?_)
  repeat (refine g_seq ?_)
  refine g_region ?_
  refine xV rfl rfl rfl (v_move rfl) ?_
  refine xV rfl rfl rfl (v_lss rfl rfl) ?_
  refine rl_nil (g_le (xK (xS rfl (Fr.le_refl _))) ?_)
  refine g_cond_dec rfl (fun h => ?_) (fun h => ?_)
  · repeat (first | refine g_seq ?_ | refine g_skip ?_ | refine g_inBlock ?_ | refine g_block ?_ | refine g_label ?_)
    refine g_region ?_
    refine xV rfl rfl rfl (v_move rfl) ?_
    refine xV rfl rfl rfl (v_move rfl) ?_
    refine xV rfl rfl rfl (v_add rfl rfl (by omega)) ?_
    refine xV rfl rfl rfl (v_assign rfl) ?_
    refine rl_nil (g_le (xK (xS rfl (xS rfl (xS rfl (Fr.le_refl _))))) ?_)
    repeat (refine g_seq ?_)
    refine g_region ?_
    refine xV rfl rfl rfl (v_move rfl) ?_
    refine xV rfl rfl rfl (v_assign rfl) ?_
    refine rl_nil (g_le (xK (xS rfl (Fr.le_refl _))) ?_)
    refine g_ret1 Try.func18 rfl rfl ?_
    rw [if_pos h] at he
    exact ⟨by rw [he], hw⟩
  · repeat (first | refine g_seq ?_ | refine g_skip ?_)
    refine g_region ?_
    refine xV rfl rfl rfl (v_move rfl) ?_
    refine xV rfl rfl rfl (v_assign rfl) ?_
    refine rl_nil (g_le (xK (xS rfl (Fr.le_refl _))) ?_)
    refine g_ret1 Try.func18 rfl rfl ?_
    rw [if_neg h] at he
    exact ⟨by rw [he], hw⟩


theorem awake11_calls {E : Env} {w : World} {L : List As} (hw : Sat E w L) :
    Calls Try.prog 11 #[] w fun e w' => e = .returned (.bool true) ∧ Sat E w' L := by
  refine calls_of_g (n := 63) Try.func11 rfl rfl rfl ?_
  change G _ _ _ _ _ [] _
  repeat (refine g_seq ?_)
  refine g_region ?_
  refine xV rfl rfl rfl (v_assign rfl) ?_
  refine rl_nil (g_le (xK (Fr.le_refl _)) ?_)
  repeat (refine g_seq ?_)
  refine g_region ?_
  refine rl_k rfl (k_callf Try.func12 rfl rfl rfl rfl ?_)
  refine Calls.mono (new_calls hw) ?_
  rintro _ w ⟨p, rfl, hw⟩
  refine ⟨_, rfl, ?_⟩
  refine xV rfl rfl rfl (v_assign rfl) ?_
  refine rl_nil (g_le (xK (xS rfl (Fr.le_refl _))) ?_)
  repeat (refine g_seq ?_)
  refine g_region ?_
  refine xV rfl rfl rfl (v_move rfl) ?_
  refine xV rfl rfl rfl (v_eqlNil T.ptr_24 rfl rfl) ?_
  refine xV rfl rfl rfl (v_move rfl) ?_
  refine rl_vg (met_on rfl rfl rfl rfl) rfl rfl (S := fun _ => True) trivial (v_move rfl) ?_
  refine rl_kg (met_on rfl rfl rfl rfl) (k_callf Try.func20 rfl rfl rfl rfl ?_); refine Calls.mono (on_calls _ _ hw) ?_; rintro _ w ⟨rfl, hw⟩; refine ⟨_, rfl, ?_⟩
  refine rl_vg (met_on rfl rfl rfl rfl) rfl rfl (S := fun _ => True) trivial (v_not rfl) ?_
  refine xV rfl rfl rfl (v_pick_false rfl rfl) ?_
  refine xV rfl rfl rfl (v_move rfl) ?_
  refine rl_vg (met_on rfl rfl rfl rfl) rfl rfl (S := fun _ => True) trivial (v_move rfl) ?_
  refine rl_kg (met_on rfl rfl rfl rfl) (k_callf Try.func21 rfl rfl rfl rfl ?_); refine Calls.mono (left_calls _ _ hw) ?_; rintro _ w ⟨rfl, hw⟩; refine ⟨_, rfl, ?_⟩
  refine rl_vg (met_on rfl rfl rfl rfl) rfl rfl (S := fun _ => True) trivial (v_neqF rfl rfl (by rfl)) ?_
  refine xV rfl rfl rfl (v_pick_false rfl rfl) ?_
  refine xV rfl rfl rfl (v_move rfl) ?_
  refine rl_vg (met_on rfl rfl rfl rfl) rfl rfl (S := fun _ => True) trivial (v_move rfl) ?_
  refine rl_kg (met_on rfl rfl rfl rfl) (k_callf Try.func17 rfl rfl rfl rfl ?_); refine Calls.mono (writes_calls _ _ hw) ?_; rintro _ w ⟨rfl, hw⟩; refine ⟨_, rfl, ?_⟩
  refine rl_vg (met_on rfl rfl rfl rfl) rfl rfl (S := fun _ => True) trivial (v_neqF rfl rfl (by rfl)) ?_
  refine xV rfl rfl rfl (v_pick_false rfl rfl) ?_
  refine rl_nil (g_le (xK (xS rfl (xS rfl (xS rfl (xS rfl (xS rfl (xS rfl (xS rfl (xS rfl (xS rfl (xS rfl (xS rfl (xS rfl (xS rfl (xS rfl (xS rfl (xS rfl (Fr.le_refl _)))))))))))))))))) ?_)
  repeat (first | refine g_seq ?_ | refine g_skip ?_ | refine g_inBlock ?_ | refine g_block ?_ | refine g_label ?_)
  refine g_cond_false rfl ?_
  repeat (first | refine g_seq ?_ | refine g_skip ?_)
  refine g_region ?_
  refine xV rfl rfl rfl (v_move rfl) ?_
  refine rl_k rfl (k_callf Try.func19 rfl rfl rfl rfl ?_)
  refine Calls.mono (cut_calls _ _ _ hw) ?_
  rintro _ w ⟨rfl, hw⟩
  refine ⟨_, rfl, ?_⟩
  refine rl_nil (g_le (xS rfl (xS rfl (Fr.le_refl _))) ?_)
  repeat (refine g_seq ?_)
  refine g_region ?_
  refine xV rfl rfl rfl (v_move rfl) ?_
  refine rl_k rfl (k_callf Try.func22 rfl rfl rfl rfl ?_)
  refine Calls.mono (spend_calls _ _ (by repeat (first | exact Pw.ok_new | refine Pw.ok_cut ?_ _)) hw) ?_
  rintro _ w ⟨rfl, hw⟩
  refine ⟨_, rfl, ?_⟩
  refine xV rfl rfl rfl (v_assign rfl) ?_
  refine rl_nil (g_le (xK (xS rfl (xS rfl (Fr.le_refl _)))) ?_)
  repeat (refine g_seq ?_)
  refine g_region ?_
  refine xV rfl rfl rfl (v_move rfl) ?_
  refine rl_k rfl (k_callf Try.func21 rfl rfl rfl rfl ?_)
  refine Calls.mono (left_calls _ _ hw) ?_
  rintro _ w ⟨rfl, hw⟩
  refine ⟨_, rfl, ?_⟩
  refine xV rfl rfl rfl (v_assign rfl) ?_
  refine rl_nil (g_le (xK (xS rfl (xS rfl (Fr.le_refl _)))) ?_)
  repeat (refine g_seq ?_)
  refine g_region ?_
  refine xV rfl rfl rfl (v_move rfl) ?_
  refine rl_k rfl (k_callf Try.func22 rfl rfl rfl rfl ?_)
  refine Calls.mono (spend_calls _ _ (by repeat (first | exact Pw.ok_new | refine Pw.ok_spend ?_ | refine Pw.ok_cut ?_ _)) hw) ?_
  rintro _ w ⟨rfl, hw⟩
  refine ⟨_, rfl, ?_⟩
  refine xV rfl rfl rfl (v_assign rfl) ?_
  refine rl_nil (g_le (xK (xS rfl (xS rfl (Fr.le_refl _)))) ?_)
  repeat (refine g_seq ?_)
  refine g_region ?_
  refine xV rfl rfl rfl (v_move rfl) ?_
  refine rl_k rfl (k_callf Try.func22 rfl rfl rfl rfl ?_)
  refine Calls.mono (spend_calls _ _ (by repeat (first | exact Pw.ok_new | refine Pw.ok_spend ?_ | refine Pw.ok_cut ?_ _)) hw) ?_
  rintro _ w ⟨rfl, hw⟩
  refine ⟨_, rfl, ?_⟩
  refine xV rfl rfl rfl (v_assign rfl) ?_
  refine rl_nil (g_le (xK (xS rfl (xS rfl (Fr.le_refl _)))) ?_)
  repeat (refine g_seq ?_)
  refine g_region ?_
  refine xV rfl rfl rfl (v_move rfl) ?_
  refine xV rfl rfl rfl (v_eqlT rfl rfl (by rfl)) ?_
  refine xV rfl rfl rfl (v_move rfl) ?_
  refine rl_vg (met_on rfl rfl rfl rfl) rfl rfl (S := fun _ => True) trivial (v_move rfl) ?_
  refine rl_vg (met_on rfl rfl rfl rfl) rfl rfl (S := fun _ => True) trivial (v_eqlT rfl rfl (by rfl)) ?_
  refine xV rfl rfl rfl (v_pick_true rfl rfl) ?_
  refine xV rfl rfl rfl (v_move rfl) ?_
  refine rl_vg (met_on rfl rfl rfl rfl) rfl rfl (S := fun _ => True) trivial (v_move rfl) ?_
  refine rl_vg (met_on rfl rfl rfl rfl) rfl rfl (S := fun _ => True) trivial (v_eqlT rfl rfl (by rfl)) ?_
  refine xV rfl rfl rfl (v_pick_true rfl rfl) ?_
  refine xV rfl rfl rfl (v_move rfl) ?_
  refine rl_vg (met_on rfl rfl rfl rfl) rfl rfl (S := fun _ => True) trivial (v_move rfl) ?_
  refine rl_vg (met_on rfl rfl rfl rfl) rfl rfl (S := fun _ => True) trivial (v_eqlT rfl rfl (by rfl)) ?_
  refine xV rfl rfl rfl (v_pick_true rfl rfl) ?_
  refine xV rfl rfl rfl (v_move rfl) ?_
  refine rl_vg (met_on rfl rfl rfl rfl) rfl rfl (S := fun _ => True) trivial (v_move rfl) ?_
  refine rl_kg (met_on rfl rfl rfl rfl) (k_callf Try.func20 rfl rfl rfl rfl ?_); refine Calls.mono (on_calls _ _ hw) ?_; rintro _ w ⟨rfl, hw⟩; refine ⟨_, rfl, ?_⟩
  refine rl_vg (met_on rfl rfl rfl rfl) rfl rfl (S := fun _ => True) trivial (v_not rfl) ?_
  refine xV rfl rfl rfl (v_pick_true rfl rfl) ?_
  refine xV rfl rfl rfl (v_move rfl) ?_
  refine rl_vg (met_on rfl rfl rfl rfl) rfl rfl (S := fun _ => True) trivial (v_move rfl) ?_
  refine rl_kg (met_on rfl rfl rfl rfl) (k_callf Try.func21 rfl rfl rfl rfl ?_); refine Calls.mono (left_calls _ _ hw) ?_; rintro _ w ⟨rfl, hw⟩; refine ⟨_, rfl, ?_⟩
  refine rl_vg (met_on rfl rfl rfl rfl) rfl rfl (S := fun _ => True) trivial (v_eqlT rfl rfl (by rfl)) ?_
  refine xV rfl rfl rfl (v_pick_true rfl rfl) ?_
  refine xV rfl rfl rfl (v_move rfl) ?_
  refine rl_vg (met_on rfl rfl rfl rfl) rfl rfl (S := fun _ => True) trivial (v_move rfl) ?_
  refine rl_kg (met_on rfl rfl rfl rfl) (k_callf Try.func17 rfl rfl rfl rfl ?_); refine Calls.mono (writes_calls _ _ hw) ?_; rintro _ w ⟨rfl, hw⟩; refine ⟨_, rfl, ?_⟩
  refine rl_vg (met_on rfl rfl rfl rfl) rfl rfl (S := fun _ => True) trivial (v_eqlT rfl rfl (by rfl)) ?_
  refine xV rfl rfl rfl (v_pick_true rfl rfl) ?_
  refine xV rfl rfl rfl (v_assign rfl) ?_
  refine rl_nil (g_le (xK (xS rfl (xS rfl (xS rfl (xS rfl (xS rfl (xS rfl (xS rfl (xS rfl (xS rfl (xS rfl (xS rfl (xS rfl (xS rfl (xS rfl (xS rfl (xS rfl (xS rfl (xS rfl (xS rfl (xS rfl (xS rfl (xS rfl (xS rfl (xS rfl (xS rfl (xS rfl (xS rfl (xS rfl (xS rfl (Fr.le_refl _))))))))))))))))))))))))))))))) ?_)
  refine g_ret1 Try.func11 rfl rfl ?_
  exact ⟨rfl, hw.drop⟩


theorem told_calls {E : Env} {w : World} {L : List As} (p d : Nat) (s : Pw) (hw : Sat E w (PwAt p s :: RwAt d s.ref :: L)) :
    Calls Try.prog 15 #[.pointer (some ⟨p, 0, none⟩), .pointer (some ⟨d, 0, none⟩)] w fun e w' => e = .returned (.bool true) ∧ Sat E w' (PwAt p s :: RwAt d s.ref :: L) := by
  obtain ⟨off, ahead, writes⟩ := s
  refine calls_of_g (n := 28) Try.func15 rfl rfl rfl ?_
  change G _ _ _ _ _ [(0, _), (1, _)] _
  repeat (refine g_seq ?_)
  refine g_region ?_
  refine xV rfl rfl rfl (v_assign rfl) ?_
  refine rl_nil (g_le (xK (Fr.le_refl _)) ?_)
  repeat (refine g_seq ?_)
  refine g_draw [] T.mixed rfl hw (fun w hw => ?_)
  refine ra_a 0 rfl rfl rfl rfl (by kernel_rfl) (v_move rfl) ?_
  refine ra_a 2 rfl rfl rfl rfl (by kernel_rfl) (v_move rfl) ?_
  refine ra_a 3 rfl rfl rfl rfl (by kernel_rfl) (v_nilCheck rfl) ?_
  refine ra_a 4 rfl rfl rfl rfl (by kernel_rfl) (v_fieldAddr0 T.fld_90_0_0 rfl) ?_
  refine ra_v 5 rfl rfl rfl rfl (by kernel_rfl) (OpV.mono (v_load T.scal_4 rfl) (fun w hw => by exact sat_cell hw (by (repeat first | with_reducible exact xH | apply xT); first | done | fail) rfl)) (by exact hw) ?_
  refine ra_k 1 rfl rfl (by kernel_rfl) (k_callf Try.func20 rfl rfl rfl rfl ?_)
  refine Calls.mono (on_calls _ _ hw) ?_
  rintro _ w ⟨rfl, hw⟩
  refine ⟨_, rfl, ?_⟩
  refine ⟨fun _ => (by exact hw), ?_⟩
  refine ra_a 6 rfl rfl rfl rfl (by kernel_rfl) (v_eqlBoolT T.bool_4 rfl rfl (by first | rfl | assumption)) ?_
  refine ra_a 7 rfl rfl rfl rfl (by kernel_rfl) (v_move rfl) ?_
  refine ra_ag 8 rfl (met_on rfl rfl rfl rfl) rfl rfl (by kernel_rfl) (v_move rfl) ?_
  refine ra_ag 10 rfl (met_on rfl rfl rfl rfl) rfl rfl (by kernel_rfl) (v_move rfl) ?_
  refine ra_kg 9 rfl (met_on rfl rfl rfl rfl) (by kernel_rfl) (k_callf Try.func21 rfl rfl rfl rfl ?_); refine Calls.mono (left_calls _ _ hw) ?_; rintro _ w ⟨rfl, hw⟩; refine ⟨_, rfl, ?_⟩; refine ⟨fun _ => (by exact hw), ?_⟩
  refine ra_kg 11 rfl (met_on rfl rfl rfl rfl) (by kernel_rfl) (k_callf Try.func47 rfl rfl rfl rfl ?_); refine Calls.mono (rleft_calls _ _ (hw.pick (.there (.here _)))) ?_; rintro _ w ⟨rfl, hw'⟩; have hw := hw'.pick (.there (.here _)); clear hw'; refine ⟨_, rfl, ?_⟩; refine ⟨fun _ => (by exact hw), ?_⟩
  refine ra_ag 12 rfl (met_on rfl rfl rfl rfl) rfl rfl (by kernel_rfl) (v_eqlT rfl rfl (by omega)) ?_
  refine ra_a 13 rfl rfl rfl rfl (by kernel_rfl) (v_pick_true rfl rfl) ?_
  refine ra_a 14 rfl rfl rfl rfl (by kernel_rfl) (v_move rfl) ?_
  refine ra_ag 15 rfl (met_on rfl rfl rfl rfl) rfl rfl (by kernel_rfl) (v_move rfl) ?_
  refine ra_ag 17 rfl (met_on rfl rfl rfl rfl) rfl rfl (by kernel_rfl) (v_move rfl) ?_
  refine ra_ag 18 rfl (met_on rfl rfl rfl rfl) rfl rfl (by kernel_rfl) (v_nilCheck rfl) ?_
  refine ra_ag 19 rfl (met_on rfl rfl rfl rfl) rfl rfl (by kernel_rfl) (v_fieldAddr0 T.fld_90_2_2 rfl) ?_
  refine ra_vg 20 rfl (met_on rfl rfl rfl rfl) rfl rfl (by kernel_rfl) (OpV.mono (v_load T.scal_3 rfl) (fun w hw => by exact sat_cell hw (by (repeat first | with_reducible exact xH | apply xT); first | done | fail) rfl)) (by exact hw) ?_
  refine ra_kg 16 rfl (met_on rfl rfl rfl rfl) (by kernel_rfl) (k_callf Try.func17 rfl rfl rfl rfl ?_); refine Calls.mono (writes_calls _ _ hw) ?_; rintro _ w ⟨rfl, hw⟩; refine ⟨_, rfl, ?_⟩; refine ⟨fun _ => (by exact hw), ?_⟩
  refine ra_ag 21 rfl (met_on rfl rfl rfl rfl) rfl rfl (by kernel_rfl) (v_eqlT rfl rfl (by rfl)) ?_
  refine ra_a 22 rfl rfl rfl rfl (by kernel_rfl) (v_pick_true rfl rfl) ?_
  refine ra_a 23 rfl rfl rfl rfl (by kernel_rfl) (v_assign rfl) ?_
  refine ra_done (by kernel_rfl) (g_le (xK (xS rfl (xS rfl (xS rfl (xS rfl (xS rfl (xS rfl (xS rfl (xS rfl (xS rfl (xS rfl (xS rfl (xS rfl (xS rfl (xS rfl (xS rfl (xS rfl (xS rfl (xS rfl (xS rfl (xS rfl (xS rfl (xS rfl (xS rfl (Fr.le_refl _))))))))))))))))))))))))) ?_)
  refine g_ret1 Try.func15 rfl rfl ?_
  refine ⟨?_, hw⟩
  simp [Pw.ref]


/-- One call of a row: what two powers become, whatever they were. -/
theorem step11_calls {E : Env} {w : World} {L : List As} (p d : Nat) (s t : Pw) (kind n : Int) (on : Bool) (hs : s.ok) (ht : t.ok) (hw : Sat E w (PwAt p s :: RwAt d t.ref :: L)) :
    Calls Try.prog 14 #[.pointer (some ⟨p, 0, none⟩), .pointer (some ⟨d, 0, none⟩), .agg #[.int .i64 kind, .int .i64 n, .bool on]] w
      fun e w' => ∃ b s' t', e = .returned (.bool b) ∧ Pw.ok s' ∧ Pw.ok t' ∧ (s = t → b = true ∧ s' = t') ∧ Sat E w' (PwAt p s' :: RwAt d t'.ref :: L) := by
  refine calls_of_g (n := 51) Try.func14 rfl rfl rfl ?_
  change G _ _ _ _ _ [(0, _), (1, _), (2, _)] _
  repeat (refine g_seq ?_)
  refine g_region ?_
  refine rl_k rfl (k_box hw rfl rfl rfl (fun blk w hw => ?_))
  refine xV rfl rfl rfl (v_assign rfl) ?_
  refine rl_nil (g_le (xK (xK (Fr.le_refl _))) ?_)
  repeat (refine g_seq ?_)
  refine g_region ?_
  refine xV rfl rfl rfl (v_fieldAddr0 T.fld_29_0_0 rfl) ?_
  refine rl_v rfl rfl rfl (by exact sat_cell hw (by (repeat first | with_reducible exact xH | apply xT); first | done | fail) rfl) (v_load T.scal_3 rfl) ?_
  refine rl_nil (g_le (xK (xS rfl (Fr.le_refl _))) ?_)
  repeat (first | refine g_seq ?_ | refine g_block ?_)
  refine g_region ?_
  refine xV rfl rfl rfl (v_eql rfl rfl) ?_
  refine xV rfl rfl rfl (v_assign rfl) ?_
  refine rl_nil (g_le (xK (xS rfl (Fr.le_refl _))) ?_)
  refine g_cond_dec rfl (fun h1 => ?_) (fun h1 => ?_)
  · repeat (refine g_seq ?_)
    refine g_region ?_
    refine xV rfl rfl rfl (v_move rfl) ?_
    refine xV rfl rfl rfl (v_fieldAddr0 T.fld_29_1_1 rfl) ?_
    refine rl_v rfl rfl rfl (by exact sat_cell hw (by (repeat first | with_reducible exact xH | apply xT); first | done | fail) rfl) (v_load T.scal_3 rfl) ?_
    refine rl_k rfl (k_callf Try.func19 rfl rfl rfl rfl ?_)
    refine Calls.mono (cut_calls _ s _ (hw.xP)) ?_
    rintro _ w ⟨rfl, hw⟩
    refine ⟨_, rfl, ?_⟩
    refine rl_nil (g_le (xS rfl (xS rfl (xS rfl (xS rfl (Fr.le_refl _))))) ?_)
    repeat (first | refine g_seq ?_ | refine g_skip ?_ | refine g_inBlock ?_ | refine g_block ?_ | refine g_label ?_)
    refine g_region ?_
    refine xV rfl rfl rfl (v_move rfl) ?_
    refine xV rfl rfl rfl (v_fieldAddr0 T.fld_29_1_1 rfl) ?_
    refine rl_v rfl rfl rfl (by exact sat_cell hw (by (repeat first | with_reducible exact xH | apply xT); first | done | fail) rfl) (v_load T.scal_3 rfl) ?_
    refine rl_k rfl (k_callf Try.func44 rfl rfl rfl rfl ?_)
    refine Calls.mono (rcut_calls _ t _ (fun _ => ht.1) (hw.xP)) ?_
    rintro _ w ⟨rfl, hw⟩
    refine ⟨_, rfl, ?_⟩
    refine rl_nil (g_le (xS rfl (xS rfl (xS rfl (xS rfl (Fr.le_refl _))))) ?_)
    repeat (first | refine g_seq ?_ | refine g_inBlock ?_)
    refine g_region ?_
    refine xV rfl rfl rfl (v_assign rfl) ?_
    refine rl_nil (g_le (xK (Fr.le_refl _)) ?_)
    refine g_ret1 Try.func14 rfl rfl ?_
    exact ⟨true, s.cut n, t.cut n, rfl, Pw.ok_cut hs n, Pw.ok_cut ht n, fun e => ⟨rfl, by rw [e]⟩, hw.xQ⟩
  repeat (refine g_seq ?_)
  refine g_region ?_
  refine xV rfl rfl rfl (v_eql rfl rfl) ?_
  refine xV rfl rfl rfl (v_assign rfl) ?_
  refine rl_nil (g_le (xK (xS rfl (Fr.le_refl _))) ?_)
  refine g_cond_dec rfl (fun h2 => ?_) (fun h2 => ?_)
  · repeat (refine g_seq ?_)
    refine g_region ?_
    refine xV rfl rfl rfl (v_move rfl) ?_
    refine rl_k rfl (k_callf Try.func16 rfl rfl rfl rfl ?_)
    refine Calls.mono (restore_calls _ s (hw.xP)) ?_
    rintro _ w ⟨rfl, hw⟩
    refine ⟨_, rfl, ?_⟩
    refine rl_nil (g_le (xS rfl (xS rfl (Fr.le_refl _))) ?_)
    repeat (first | refine g_seq ?_ | refine g_skip ?_ | refine g_inBlock ?_ | refine g_block ?_ | refine g_label ?_)
    refine g_region ?_
    refine xV rfl rfl rfl (v_move rfl) ?_
    refine rl_k rfl (k_callf Try.func45 rfl rfl rfl rfl ?_)
    refine Calls.mono (rrestore_calls _ t (hw.xP)) ?_
    rintro _ w ⟨rfl, hw⟩
    refine ⟨_, rfl, ?_⟩
    refine rl_nil (g_le (xS rfl (xS rfl (Fr.le_refl _))) ?_)
    repeat (first | refine g_seq ?_ | refine g_inBlock ?_)
    refine g_region ?_
    refine xV rfl rfl rfl (v_assign rfl) ?_
    refine rl_nil (g_le (xK (Fr.le_refl _)) ?_)
    refine g_ret1 Try.func14 rfl rfl ?_
    exact ⟨true, s.restore, t.restore, rfl, Pw.ok_restore hs, Pw.ok_restore ht, fun e => ⟨rfl, by rw [e]⟩, hw.xQ⟩
  repeat (refine g_seq ?_)
  refine g_region ?_
  refine xV rfl rfl rfl (v_eql rfl rfl) ?_
  refine xV rfl rfl rfl (v_assign rfl) ?_
  refine rl_nil (g_le (xK (xS rfl (Fr.le_refl _))) ?_)
  refine g_cond_dec rfl (fun h3 => ?_) (fun h3 => ?_)
  · repeat (refine g_seq ?_)
    refine g_region ?_
    refine xV rfl rfl rfl (v_move rfl) ?_
    refine rl_k rfl (k_callf Try.func22 rfl rfl rfl rfl ?_)
    refine Calls.mono (spend_calls _ s hs (hw.xP)) ?_
    rintro _ w ⟨rfl, hw⟩
    refine ⟨_, rfl, ?_⟩
    refine xV rfl rfl rfl (v_assign rfl) ?_
    refine rl_nil (g_le (xK (xS rfl (xS rfl (Fr.le_refl _)))) ?_)
    repeat (refine g_seq ?_)
    refine g_region ?_
    refine xV rfl rfl rfl (v_move rfl) ?_
    refine xV rfl rfl rfl (v_move rfl) ?_
    refine rl_k rfl (k_callf Try.func46 rfl rfl rfl rfl ?_)
    refine Calls.mono (rspend_calls _ t ht (hw.xP)) ?_
    rintro _ w ⟨rfl, hw⟩
    refine ⟨_, rfl, ?_⟩
    refine xV rfl rfl rfl (v_eql rfl rfl) ?_
    refine xV rfl rfl rfl (v_assign rfl) ?_
    refine rl_nil (g_le (xK (xS rfl (xS rfl (xS rfl (xS rfl (Fr.le_refl _)))))) ?_)
    refine g_ret1 Try.func14 rfl rfl ?_
    exact ⟨_, s.spend.2, t.spend.2, rfl, Pw.ok_spend hs, Pw.ok_spend ht, fun e => ⟨by rw [e]; simp, by rw [e]⟩, hw.xQ⟩
  repeat (refine g_seq ?_)
  refine g_region ?_
  refine xV rfl rfl rfl (v_eql rfl rfl) ?_
  refine xV rfl rfl rfl (v_assign rfl) ?_
  refine rl_nil (g_le (xK (xS rfl (Fr.le_refl _))) ?_)
  refine g_cond_dec rfl (fun h4 => ?_) (fun h4 => ?_)
  · repeat (refine g_seq ?_)
    refine g_region ?_
    refine xV rfl rfl rfl (v_assign rfl) ?_
    refine rl_nil (g_le (xK (Fr.le_refl _)) ?_)
    repeat (refine g_block ?_)
    have hm0 := Int.emod_nonneg n (by omega : (50 : Int) ≠ 0)
    have hm1 := Int.emod_lt_of_pos n (by omega : (0 : Int) < 50)
    refine g_loop (σ := Int × Pw × Pw) (fun x => [(8, .int .i64 x.1), (0, _), (1, _), (5, _)])
      (fun x w => 0 ≤ x.1 ∧ x.1 ≤ 50 ∧ Pw.ok x.2.1 ∧ Pw.ok x.2.2 ∧ (s = t → x.2.1 = x.2.2) ∧ Sat E w (PwAt p x.2.1 :: RwAt d x.2.2.ref :: pt blk (.cells [Value.int .i64 kind, .int .i64 n, .bool on].toArray 29 (0, 0)) :: L)) (fun x => (50 - x.1).toNat) ?round (0, s, t) (by repeat (first | exact Fr.le_nil _ | refine Fr.le_cons rfl ?_))
      ⟨by simp, by simp, hs, ht, fun e => e, hw.xQ⟩
    rintro ⟨i, s', t'⟩ w ⟨hi0, hi1, hs', ht', hst, hw⟩ ih
    dsimp only at hi0 hi1 hs' ht' hst hw ⊢
    repeat (refine g_seq ?_)
    refine g_region ?_
    refine xV rfl rfl rfl (v_move rfl) ?_
    refine xV rfl rfl rfl (v_fieldAddr0 T.fld_29_1_1 rfl) ?_
    refine rl_v rfl rfl rfl (by exact sat_cell hw (by (repeat first | with_reducible exact xH | apply xT); first | done | fail) rfl) (v_load T.scal_3 rfl) ?_
    refine rl_k rfl (k_callf Try.func18 rfl rfl rfl rfl ?_)
    refine Calls.mono (pick11_calls _ _ (by omega) (by omega) hw) ?_
    rintro _ w ⟨rfl, hw⟩
    refine ⟨_, rfl, ?_⟩
    refine xV rfl rfl rfl (v_lss rfl rfl) ?_
    refine rl_nil (g_le (xK (xS rfl (xS rfl (xS rfl (xS rfl (Fr.le_refl _)))))) ?_)
    refine g_cond_dec rfl (fun h5 => ?_) (fun h5 => ?_)
    · repeat (first | refine g_seq ?_ | refine g_skip ?_ | refine g_block ?_)
      refine g_region ?_
      refine xV rfl rfl rfl (v_move rfl) ?_
      refine rl_k rfl (k_callf Try.func22 rfl rfl rfl rfl ?_)
      refine Calls.mono (spend_calls _ s' hs' (hw.xP)) ?_
      rintro _ w ⟨rfl, hw⟩
      refine ⟨_, rfl, ?_⟩
      refine xV rfl rfl rfl (v_assign rfl) ?_
      refine rl_nil (g_le (xK (xS rfl (xS rfl (Fr.le_refl _)))) ?_)
      repeat (refine g_seq ?_)
      refine g_region ?_
      refine xV rfl rfl rfl (v_move rfl) ?_
      refine xV rfl rfl rfl (v_move rfl) ?_
      refine rl_k rfl (k_callf Try.func46 rfl rfl rfl rfl ?_)
      refine Calls.mono (rspend_calls _ t' ht' (hw.xP)) ?_
      rintro _ w ⟨rfl, hw⟩
      refine ⟨_, rfl, ?_⟩
      refine xV rfl rfl rfl (v_neq rfl rfl) ?_
      refine rl_nil (g_le (xK (xS rfl (xS rfl (xS rfl (Fr.le_refl _))))) ?_)
      refine g_cond_dec rfl (fun h6 => ?_) (fun h6 => ?_)
      · repeat (refine g_seq ?_)
        refine g_region ?_
        refine xV rfl rfl rfl (v_assign rfl) ?_
        refine rl_nil (g_le (xK (Fr.le_refl _)) ?_)
        refine g_ret1 Try.func14 rfl rfl ?_
        exact ⟨false, s'.spend.2, t'.spend.2, rfl, Pw.ok_spend hs', Pw.ok_spend ht', fun e => absurd (by rw [hst e]) h6, hw.xQ⟩
      · repeat (first | refine g_skip ?_ | refine g_inBlock ?_)
        refine g_region ?_
        refine xV rfl rfl rfl (v_move rfl) ?_
        refine xV rfl rfl rfl (v_add rfl rfl (by omega)) ?_
        refine xV rfl rfl rfl (v_assign rfl) ?_
        refine rl_nil (g_le (xK (xS rfl (xS rfl (Fr.le_refl _)))) ?_)
        exact g_le (by repeat (first | exact Fr.le_nil _ | refine Fr.le_cons rfl ?_)) (ih (i + 1, s'.spend.2, t'.spend.2) w ⟨by simp only; omega, by simp only; omega, Pw.ok_spend hs', Pw.ok_spend ht', fun e => by simp only; rw [hst e], hw.xQ⟩ (by simp only; omega))
    · repeat (first | refine g_seq ?_ | refine g_skip ?_ | refine g_inBlock ?_ | refine g_block ?_ | refine g_label ?_)
      refine g_exit rfl ?_
      repeat (first | refine g_seq ?_ | refine g_inBlock ?_)
      refine g_region ?_
      refine xV rfl rfl rfl (v_assign rfl) ?_
      refine rl_nil (g_le (xK (Fr.le_refl _)) ?_)
      refine g_ret1 Try.func14 rfl rfl ?_
      exact ⟨true, s', t', rfl, hs', ht', fun e => ⟨rfl, hst e⟩, hw.xQ⟩
  · repeat (first | refine g_seq ?_ | refine g_skip ?_ | refine g_inBlock ?_)
    refine g_region ?_
    refine xV rfl rfl rfl (v_assign rfl) ?_
    refine rl_nil (g_le (xK (Fr.le_refl _)) ?_)
    refine g_ret1 Try.func14 rfl rfl ?_
    exact ⟨true, s, t, rfl, hs, ht, fun e => ⟨rfl, e⟩, hw.xQ⟩

end Go.Proofs.Ytdebodbkggbjeaa
