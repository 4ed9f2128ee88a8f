/-
  The functions of the statements of layer 12.
-/
import Derived.Test.YtdebodbkggbjeaaM12b
import Derived.Test.YtdebodbkggbjeaaP11L
namespace Go.Proofs.Ytdebodbkggbjeaa
set_option maxRecDepth 8000
set_option linter.unusedSimpArgs false
set_option linter.unusedVariables false
open Go Xe Go.Lib

theorem pick12_calls {E : Env} {w : World} {L : List As} (c n : Int) (h0 : 0 < n) (h1 : n ≤ 1000000) (hw : Sat E w L) :
    Calls Try.prog 24 #[.int .i64 c, .int .i64 n] w fun e w' => e = .returned (.int .i64 (c % n)) ∧ Sat E w' L := by
  have hb := tmod_bounds c n h0
  have he := pick_eq c n h0
  refine calls_of_g (n := 14) Try.func24 rfl rfl rfl ?_
  change G _ _ _ _ _ [(0, _), (1, _)] _
  repeat (refine g_seq ?_)
  refine g_region ?_
  refine xV rfl rfl rfl (v_assign rfl) ?_
  refine rl_nil (g_le (xK (Fr.le_refl _)) ?_)
  repeat (refine g_seq ?_)
  refine g_region ?_
  refine xV rfl rfl rfl (v_move rfl) ?_
  refine xV rfl rfl rfl (v_move rfl) ?_
  refine xV rfl rfl rfl (v_rem rfl rfl (by omega)) ?_
  refine xV rfl rfl rfl (v_assign rfl) ?_
  refine rl_nil (g_le (xK (xS rfl (xS rfl (xS rfl (Fr.le_refl _))))) ?_)
  repeat (refine g_seq ?_)
  refine g_region ?_
  refine xV rfl rfl rfl (v_move rfl) ?_
  refine xV rfl rfl rfl (v_lss rfl rfl) ?_
  refine rl_nil (g_le (xK (xS rfl (Fr.le_refl _))) ?_)
  refine g_cond_dec rfl (fun h => ?_) (fun h => ?_)
  · repeat (first | refine g_seq ?_ | refine g_skip ?_ | refine g_inBlock ?_ | refine g_block ?_ | refine g_label ?_)
    refine g_region ?_
    refine xV rfl rfl rfl (v_move rfl) ?_
    refine xV rfl rfl rfl (v_move rfl) ?_
    refine xV rfl rfl rfl (v_add rfl rfl (by omega)) ?_
    refine xV rfl rfl rfl (v_assign rfl) ?_
    refine rl_nil (g_le (xK (xS rfl (xS rfl (xS rfl (Fr.le_refl _))))) ?_)
    repeat (refine g_seq ?_)
    refine g_region ?_
    refine xV rfl rfl rfl (v_move rfl) ?_
    refine xV rfl rfl rfl (v_assign rfl) ?_
    refine rl_nil (g_le (xK (xS rfl (Fr.le_refl _))) ?_)
    refine g_ret1 Try.func24 rfl rfl ?_
    rw [if_pos h] at he
    exact ⟨by rw [he], hw⟩
  · repeat (first | refine g_seq ?_ | refine g_skip ?_)
    refine g_region ?_
    refine xV rfl rfl rfl (v_move rfl) ?_
    refine xV rfl rfl rfl (v_assign rfl) ?_
    refine rl_nil (g_le (xK (xS rfl (Fr.le_refl _))) ?_)
    refine g_ret1 Try.func24 rfl rfl ?_
    rw [if_neg h] at he
    exact ⟨by rw [he], hw⟩

theorem mwrite_eq {E : Env} {w : World} {L : List As} (m p : Nat) (s s' : Md) (pw pw' : Pw) (i at_ e : Int) (v : ByteArray) (hpw : pw.ok) (hpl : s.past.length ≤ 4000000000000) (h : s.write pw i at_ v = (e, s', pw')) (hw : Sat E w (MdAt m p s :: PwAt p pw :: L)) :
    Calls Try.prog 27 #[.pointer (some ⟨m, 0, none⟩), .int .i64 i, .int .i64 at_, .string v] w
      fun r w' => r = .returned (.int .i64 e) ∧ Sat E w' (MdAt m p s' :: PwAt p pw' :: L) := by
  have := mwrite_calls m p s pw i at_ v hpw hpl hw
  rwa [h] at this
theorem mread_eq {E : Env} {w : World} {L : List As} (m p : Nat) (s : Md) (i at_ n e : Int) (v : ByteArray) (hat : -9223372036854775808 ≤ at_ ∧ at_ ≤ 9223372036854775807) (h : s.read i at_ n = (v, e)) (hw : Sat E w (MdAt m p s :: L)) :
    Calls Try.prog 29 #[.pointer (some ⟨m, 0, none⟩), .int .i64 i, .int .i64 at_, .int .i64 n] w
      fun r w' => r = .returned (.tuple #[.string v, .int .i64 e]) ∧ Sat E w' (MdAt m p s :: L) := by
  have := mread_calls m p s i at_ n hat hw
  rwa [h] at this
theorem mused_eq {E : Env} {w : World} {L : List As} (m p : Nat) (s : Md) (i e : Int) (h : s.used i = e) (hw : Sat E w (MdAt m p s :: L)) :
    Calls Try.prog 26 #[.pointer (some ⟨m, 0, none⟩), .int .i64 i] w fun r w' => r = .returned (.int .i64 e) ∧ Sat E w' (MdAt m p s :: L) := by
  have := mused_calls m p s i hw
  rwa [h] at this
theorem mcount_eq {E : Env} {w : World} {L : List As} (m p : Nat) (s : Md) (e : Int) (h : (s.past.length : Int) = e) (hw : Sat E w (MdAt m p s :: L)) :
    Calls Try.prog 28 #[.pointer (some ⟨m, 0, none⟩)] w fun r w' => r = .returned (.int .i64 e) ∧ Sat E w' (MdAt m p s :: L) := by
  have := mcount_calls m p s hw
  rwa [h] at this
theorem msegments_eq {E : Env} {w : World} {L : List As} (m p : Nat) (s : Md) (e : Int) (h : (s.segs.length : Int) = e) (hw : Sat E w (MdAt m p s :: L)) :
    Calls Try.prog 48 #[.pointer (some ⟨m, 0, none⟩)] w fun r w' => r = .returned (.int .i64 e) ∧ Sat E w' (MdAt m p s :: L) := by
  have := msegments_calls m p s hw
  rwa [h] at this
theorem on_eq {E : Env} {w : World} {L : List As} (p : Nat) (s : Pw) (b : Bool) (h : (!s.off) = b) (hw : Sat E w (PwAt p s :: L)) :
    Calls Try.prog 20 #[.pointer (some ⟨p, 0, none⟩)] w fun r w' => r = .returned (.bool b) ∧ Sat E w' (PwAt p s :: L) := by
  have := on_calls p s hw
  rwa [h] at this
theorem md_power {E : Env} {w : World} {L : List As} {m p : Nat} {s : Md} (h : Sat E w (MdAt m p s :: L)) : w.cell? ⟨m, 0, none⟩ = some (.pointer (some ⟨p, 0, none⟩)) := by
  obtain ⟨_, g, cap, pa, pc, vs, _, _, _, h⟩ := md_open h
  exact h.cell 0
/-- A read of all that is used. -/
theorem Md.read_all {s : Md} {i : Int} (h : s.is i) : s.read i 0 (s.used i) = (s.seg i, 0) := by
  unfold Md.read Md.used
  rw [if_pos h, if_pos h, if_neg (by omega)]
  simp

theorem awake12_w1 : Md.write ⟨4, [ByteArray.empty, ByteArray.empty], [], 0⟩ ⟨false, 0, 0⟩ 0 0 (ByteArray.mk #[97, 98, 99]) =
    (0, ⟨4, [ByteArray.mk #[97, 98, 99], ByteArray.empty], [(0, 0, ByteArray.mk #[97, 98, 99])], 3⟩, ⟨false, 0, 1⟩) := by rfl
theorem awake12_w2 : Md.write ⟨4, [ByteArray.mk #[97, 98, 99], ByteArray.empty], [(0, 0, ByteArray.mk #[97, 98, 99])], 3⟩ ⟨false, 0, 1⟩ 0 1 (ByteArray.mk #[90]) =
    (0, ⟨4, [ByteArray.mk #[97, 90], ByteArray.empty], [(0, 0, ByteArray.mk #[97, 98, 99]), (0, 1, ByteArray.mk #[90])], 4⟩, ⟨false, 0, 2⟩) := by rfl

theorem awake12_calls {E : Env} {w : World} {L : List As} (hw : Sat E w L) :
    Calls Try.prog 23 #[] w fun e w' => e = .returned (.bool true) ∧ Sat E w' L := by
  have o1 : Pw.ok ⟨false, 0, 1⟩ := ⟨by simp, by simp, i64_in (by simp)⟩
  have o2 : Pw.ok ⟨false, 0, 2⟩ := ⟨by simp, by simp, i64_in (by simp)⟩
  refine calls_of_g (n := 64) Try.func23 rfl rfl rfl ?_
  change G _ _ _ _ _ [] _
  repeat (refine g_seq ?_)
  refine g_region ?_
  refine xV rfl rfl rfl (v_assign rfl) ?_
  refine rl_nil (g_le (xK (Fr.le_refl _)) ?_)
  repeat (refine g_seq ?_)
  refine g_region ?_
  refine rl_k rfl (k_callf Try.func12 rfl rfl rfl rfl ?_)
  refine Calls.mono (new_calls hw) ?_
  rintro _ w ⟨p, rfl, hw⟩
  refine ⟨_, rfl, ?_⟩
  refine rl_k rfl (k_callf Try.func25 rfl rfl rfl rfl ?_)
  refine Calls.mono (mnew_calls p 2 4 (by omega) (by omega) (by omega) (by omega) hw) ?_
  rintro _ w ⟨m, rfl, hw⟩
  refine ⟨_, rfl, ?_⟩
  refine xV rfl rfl rfl (v_move rfl) ?_
  refine xV rfl rfl rfl (v_extract rfl rfl) ?_
  refine xV rfl rfl rfl (v_extract rfl rfl) ?_
  refine xV rfl rfl rfl (v_assign rfl) ?_
  refine xV rfl rfl rfl (v_assign rfl) ?_
  refine rl_nil (g_le (xK (xK (xS rfl (xS rfl (xS rfl (xS rfl (xS rfl (Fr.le_refl _)))))))) ?_)
  repeat (refine g_seq ?_)
  refine g_region ?_
  refine xV rfl rfl rfl (v_move rfl) ?_
  refine xV rfl rfl rfl (v_eqlNil T.ptr_42 rfl rfl) ?_
  refine xV rfl rfl rfl (v_move rfl) ?_
  refine rl_vg (met_on rfl rfl rfl rfl) rfl rfl (S := fun _ => True) trivial (v_move rfl) ?_
  refine rl_vg (met_on rfl rfl rfl rfl) rfl rfl (S := fun _ => True) trivial (v_neqF rfl rfl (by omega)) ?_
  refine xV rfl rfl rfl (v_pick_false rfl rfl) ?_
  refine rl_nil (g_le (xK (xS rfl (xS rfl (xS rfl (xS rfl (xS rfl (Fr.le_refl _))))))) ?_)
  repeat (first | refine g_seq ?_ | refine g_skip ?_ | refine g_inBlock ?_ | refine g_block ?_ | refine g_label ?_)
  refine g_cond_false rfl ?_
  repeat (first | refine g_seq ?_ | refine g_skip ?_)
  refine g_region ?_
  refine xV rfl rfl rfl (v_move rfl) ?_
  refine rl_k rfl (k_callf Try.func27 rfl rfl rfl rfl ?_)
  refine Calls.mono (mwrite_eq m p _ _ _ _ _ _ _ _ Pw.ok_new (by simp) awake12_w1 hw) ?_
  rintro _ w ⟨rfl, hw⟩
  refine ⟨_, rfl, ?_⟩
  refine xV rfl rfl rfl (v_assign rfl) ?_
  refine rl_nil (g_le (xK (xS rfl (xS rfl (Fr.le_refl _)))) ?_)
  repeat (refine g_seq ?_)
  refine g_region ?_
  refine xV rfl rfl rfl (v_move rfl) ?_
  refine rl_k rfl (k_callf Try.func27 rfl rfl rfl rfl ?_)
  refine Calls.mono (mwrite_eq m p _ _ _ _ _ _ _ _ o1 (by simp) awake12_w2 hw) ?_
  rintro _ w ⟨rfl, hw⟩
  refine ⟨_, rfl, ?_⟩
  refine xV rfl rfl rfl (v_assign rfl) ?_
  refine rl_nil (g_le (xK (xS rfl (xS rfl (Fr.le_refl _)))) ?_)
  repeat (refine g_seq ?_)
  refine g_region ?_
  refine xV rfl rfl rfl (v_move rfl) ?_
  refine rl_k rfl (k_callf Try.func29 rfl rfl rfl rfl ?_)
  refine Calls.mono (mread_eq m p _ 0 0 2 0 (ByteArray.mk #[97, 90]) (by omega) rfl hw) ?_
  rintro _ w ⟨rfl, hw⟩
  refine ⟨_, rfl, ?_⟩
  refine xV rfl rfl rfl (v_move rfl) ?_
  refine xV rfl rfl rfl (v_extract rfl rfl) ?_
  refine xV rfl rfl rfl (v_extract rfl rfl) ?_
  refine xV rfl rfl rfl (v_assign rfl) ?_
  refine xV rfl rfl rfl (v_assign rfl) ?_
  refine rl_nil (g_le (xK (xK (xS rfl (xS rfl (xS rfl (xS rfl (xS rfl (Fr.le_refl _)))))))) ?_)
  repeat (refine g_seq ?_)
  refine g_region ?_
  refine xV rfl rfl rfl (v_move rfl) ?_
  refine xV rfl rfl rfl (v_eqlT rfl rfl (by omega)) ?_
  refine xV rfl rfl rfl (v_move rfl) ?_
  refine rl_vg (met_on rfl rfl rfl rfl) rfl rfl (S := fun _ => True) trivial (v_move rfl) ?_
  refine rl_vg (met_on rfl rfl rfl rfl) rfl rfl (S := fun _ => True) trivial (v_eqlT rfl rfl (by omega)) ?_
  refine xV rfl rfl rfl (v_pick_true rfl rfl) ?_
  refine xV rfl rfl rfl (v_move rfl) ?_
  refine rl_vg (met_on rfl rfl rfl rfl) rfl rfl (S := fun _ => True) trivial (v_move rfl) ?_
  refine rl_vg (met_on rfl rfl rfl rfl) rfl rfl (S := fun _ => True) trivial (v_eqlStrT rfl rfl (by first | rfl | assumption)) ?_
  refine xV rfl rfl rfl (v_pick_true rfl rfl) ?_
  refine xV rfl rfl rfl (v_move rfl) ?_
  refine rl_vg (met_on rfl rfl rfl rfl) rfl rfl (S := fun _ => True) trivial (v_move rfl) ?_
  refine rl_vg (met_on rfl rfl rfl rfl) rfl rfl (S := fun _ => True) trivial (v_eqlT rfl rfl (by omega)) ?_
  refine xV rfl rfl rfl (v_pick_true rfl rfl) ?_
  refine xV rfl rfl rfl (v_move rfl) ?_
  refine rl_vg (met_on rfl rfl rfl rfl) rfl rfl (S := fun _ => True) trivial (v_move rfl) ?_
  refine rl_kg (met_on rfl rfl rfl rfl) (k_callf Try.func26 rfl rfl rfl rfl ?_); refine Calls.mono (mused_eq m p _ 0 2 rfl hw) ?_; rintro _ w ⟨rfl, hw⟩; have hmp := md_power hw; refine ⟨_, rfl, ?_⟩
  refine rl_vg (met_on rfl rfl rfl rfl) rfl rfl (S := fun _ => True) trivial (v_eqlT rfl rfl (by omega)) ?_
  refine xV rfl rfl rfl (v_pick_true rfl rfl) ?_
  refine xV rfl rfl rfl (v_move rfl) ?_
  refine rl_vg (met_on rfl rfl rfl rfl) rfl rfl (S := fun _ => True) trivial (v_move rfl) ?_
  refine rl_vg (met_on rfl rfl rfl rfl) rfl rfl (S := fun _ => True) trivial (v_nilCheck rfl) ?_
  refine rl_vg (met_on rfl rfl rfl rfl) rfl rfl (S := fun _ => True) trivial (v_fieldAddr0 T.fld_48_0_0 rfl) ?_
  refine rl_vg (met_on rfl rfl rfl rfl) rfl rfl (by assumption) (v_load T.scal_24 rfl) ?_
  refine rl_kg (met_on rfl rfl rfl rfl) (k_callf Try.func17 rfl rfl rfl rfl ?_); refine Calls.mono (writes_calls p _ (hw.xP)) ?_; rintro _ w ⟨rfl, hw⟩; have hw := hw.pick .at1; refine ⟨_, rfl, ?_⟩
  refine rl_vg (met_on rfl rfl rfl rfl) rfl rfl (S := fun _ => True) trivial (v_eqlT rfl rfl (by rfl)) ?_
  refine xV rfl rfl rfl (v_pick_true rfl rfl) ?_
  refine xV rfl rfl rfl (v_move rfl) ?_
  refine rl_vg (met_on rfl rfl rfl rfl) rfl rfl (S := fun _ => True) trivial (v_move rfl) ?_
  refine rl_kg (met_on rfl rfl rfl rfl) (k_callf Try.func48 rfl rfl rfl rfl ?_); refine Calls.mono (msegments_eq m p _ 2 rfl hw) ?_; rintro _ w ⟨rfl, hw⟩; refine ⟨_, rfl, ?_⟩
  refine rl_vg (met_on rfl rfl rfl rfl) rfl rfl (S := fun _ => True) trivial (v_eqlT rfl rfl (by omega)) ?_
  refine xV rfl rfl rfl (v_pick_true rfl rfl) ?_
  refine xV rfl rfl rfl (v_move rfl) ?_
  refine rl_vg (met_on rfl rfl rfl rfl) rfl rfl (S := fun _ => True) trivial (v_move rfl) ?_
  refine rl_kg (met_on rfl rfl rfl rfl) (k_callf Try.func49 rfl rfl rfl rfl ?_); refine Calls.mono (msize_calls m p _ hw) ?_; rintro _ w ⟨rfl, hw⟩; refine ⟨_, rfl, ?_⟩
  refine rl_vg (met_on rfl rfl rfl rfl) rfl rfl (S := fun _ => True) trivial (v_eqlT rfl rfl (by rfl)) ?_
  refine xV rfl rfl rfl (v_pick_true rfl rfl) ?_
  refine xV rfl rfl rfl (v_assign rfl) ?_
  refine rl_nil (g_le (xK (xS rfl (xS rfl (xS rfl (xS rfl (xS rfl (xS rfl (xS rfl (xS rfl (xS rfl (xS rfl (xS rfl (xS rfl (xS rfl (xS rfl (xS rfl (xS rfl (xS rfl (xS rfl (xS rfl (xS rfl (xS rfl (xS rfl (xS rfl (xS rfl (xS rfl (xS rfl (xS rfl (xS rfl (xS rfl (xS rfl (xS rfl (xS rfl (xS rfl (xS rfl (xS rfl (xS rfl (xS rfl (Fr.le_refl _))))))))))))))))))))))))))))))))))))))) ?_)
  refine g_ret1 Try.func23 rfl rfl ?_
  exact ⟨rfl, hw.xQ⟩

end Go.Proofs.Ytdebodbkggbjeaa
