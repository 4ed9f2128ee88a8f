/-
  The medium: Read and Write.
-/
import Derived.Test.YtlgpdglnfjndhaaM12
namespace Go.Proofs.Ytlgpdglnfjndhaa
set_option maxRecDepth 8000
set_option linter.unusedSimpArgs false
set_option linter.unusedVariables false
open Go Xe Go.Lib


theorem mread_calls {E : Env} {w : World} {L : List As} (m p : Nat) (s : Md) (i at_ n : Int) (hat : -9223372036854775808 ≤ at_ ∧ at_ ≤ 9223372036854775807) (hw : Sat E w (MdAt m p s :: L)) :
    Calls Try.prog 37 #[.pointer (some ⟨m, 0, none⟩), .int .i64 i, .int .i64 at_, .int .i64 n] w
      fun e w' => e = .returned (.tuple #[.string (s.read i at_ n).1, .int .i64 (s.read i at_ n).2]) ∧ Sat E w' (MdAt m p s :: L) := by
  by_cases h : s.is i
  · refine calls_of_g (n := 49) Try.func37 rfl rfl rfl ?_
    change G _ _ _ _ _ [(0, _), (1, _), (2, _), (3, _)] _
    repeat (refine g_seq ?_)
    refine g_region ?_
    refine xV rfl rfl rfl (v_assign rfl) ?_
    refine xV rfl rfl rfl (v_assign rfl) ?_
    refine rl_nil (g_le (xK (xK (Fr.le_refl _))) ?_)
    repeat (refine g_seq ?_)
    refine g_region ?_
    refine xV rfl rfl rfl (v_move rfl) ?_
    refine xV rfl rfl rfl (v_move rfl) ?_
    refine rl_k rfl (k_callf Try.func33 rfl rfl rfl rfl ?_)
    refine Calls.mono (mis_calls m p s i (hw.xP)) ?_
    rintro _ w ⟨rfl, hw⟩
    refine ⟨_, rfl, ?_⟩
    refine xV rfl rfl rfl (v_not rfl) ?_
    refine rl_nil (g_le (xK (xS rfl (xS rfl (xS rfl (Fr.le_refl _))))) ?_)
    rw [decide_eq_true h]
    repeat (first | refine g_seq ?_ | refine g_skip ?_ | refine g_inBlock ?_ | refine g_block ?_ | refine g_label ?_)
    refine g_cond_false rfl ?_
    obtain ⟨hok, g, cap, pa, pc, vs, hvs, hcap, hpc, hw⟩ := md_open hw
    obtain ⟨a, c, hv, hc, hw⟩ := md_seg h hvs (hw.pick .at2)
    obtain ⟨h1, h2⟩ := id h
    have hsz := Md.seg_le hok h
    have hsz2 := hok.2.2.2.1
    repeat (first | refine g_seq ?_ | refine g_skip ?_)
    refine g_region ?_
    refine xV rfl rfl rfl (v_move rfl) ?_
    refine xV rfl rfl rfl (v_nilCheck rfl) ?_
    refine xV rfl rfl rfl (v_fieldAddr0 T.fld_44_2_2 rfl) ?_
    refine rl_v rfl rfl rfl (by exact sat_cell hw (by (repeat first | with_reducible exact xH | apply xT); first | done | fail) rfl) (v_load T.scal_41 rfl) ?_
    refine xV rfl rfl rfl (v_move rfl) ?_
    refine xV rfl rfl rfl (v_indexAddr T.sl_41_60_1 rfl rfl (by omega) (by omega)) ?_
    refine rl_v rfl rfl rfl (by exact own_cell hw (by (repeat first | with_reducible exact xH | apply xT); first | done | fail) (by first | rfl | assumption)) (v_load T.scal_60 rfl) ?_
    refine xV rfl rfl rfl (v_assign rfl) ?_
    refine rl_nil (g_le (xK (xS rfl (xS rfl (xS rfl (xS rfl (xS rfl (xS rfl (xS rfl (Fr.le_refl _))))))))) ?_)
    by_cases hr : at_ < 0 ∨ n < 0 ∨ at_ > (s.seg i).size ∨ n > (s.seg i).size - at_
    · have e : s.read i at_ n = (ByteArray.mk #[], 121) := by unfold Md.read; rw [if_pos h, if_pos hr]
      rw [e]
      have hw := md_back h hv (hw.xQ)
      by_cases a1 : at_ < 0
      · repeat (refine g_seq ?_)
        refine g_region ?_
        refine xV rfl rfl rfl (v_move rfl) ?_
        refine xV rfl rfl rfl (v_lssT rfl rfl (by omega)) ?_
        refine xV rfl rfl rfl (v_move rfl) ?_
        refine rl_off (by exact met_off rfl rfl rfl rfl rfl) rfl rfl ?_
        refine rl_off (by exact met_off rfl rfl rfl rfl rfl) rfl rfl ?_
        refine xV rfl rfl rfl (v_pick_true rfl rfl) ?_
        refine xV rfl rfl rfl (v_move rfl) ?_
        refine rl_off (by exact met_off rfl rfl rfl rfl rfl) rfl rfl ?_
        refine rl_off (by exact met_off rfl rfl rfl rfl rfl) rfl rfl ?_
        refine rl_off (by exact met_off rfl rfl rfl rfl rfl) rfl rfl ?_
        refine rl_off (by exact met_off rfl rfl rfl rfl rfl) rfl rfl ?_
        refine xV rfl rfl rfl (v_pick_true rfl rfl) ?_
        refine xV rfl rfl rfl (v_move rfl) ?_
        refine rl_off (by exact met_off rfl rfl rfl rfl rfl) rfl rfl ?_
        refine rl_off (by exact met_off rfl rfl rfl rfl rfl) rfl rfl ?_
        refine rl_off (by exact met_off rfl rfl rfl rfl rfl) rfl rfl ?_
        refine rl_off (by exact met_off rfl rfl rfl rfl rfl) rfl rfl ?_
        refine rl_off (by exact met_off rfl rfl rfl rfl rfl) rfl rfl ?_
        refine rl_off (by exact met_off rfl rfl rfl rfl rfl) rfl rfl ?_
        refine xV rfl rfl rfl (v_pick_true rfl rfl) ?_
        refine rl_nil (g_le (xK (xS rfl (xS rfl (xS rfl (xS rfl (xS rfl (xS rfl (xS rfl (xS rfl (xS rfl (xS rfl (xS rfl (xS rfl (xS rfl (xS rfl (xS rfl (xS rfl (xS rfl (xS rfl (xS rfl (Fr.le_refl _))))))))))))))))))))) ?_)
        repeat (first | refine g_seq ?_ | refine g_skip ?_ | refine g_inBlock ?_ | refine g_block ?_ | refine g_label ?_)
        refine g_cond_true rfl ?_
        repeat (refine g_seq ?_)
        refine g_region ?_
        refine xV rfl rfl rfl (v_assign rfl) ?_
        refine xV rfl rfl rfl (v_assign rfl) ?_
        refine rl_nil (g_le (xK (xK (Fr.le_refl _))) ?_)
        refine g_ret2 Try.func37 rfl rfl rfl ?_
        exact ⟨rfl, md_close hok rfl rfl rfl (hw.xQ)⟩
      by_cases a2 : n < 0
      · repeat (refine g_seq ?_)
        refine g_region ?_
        refine xV rfl rfl rfl (v_move rfl) ?_
        refine xV rfl rfl rfl (v_lssF rfl rfl (by omega)) ?_
        refine xV rfl rfl rfl (v_move rfl) ?_
        refine rl_vg (met_on rfl rfl rfl rfl) rfl rfl (S := fun _ => True) trivial (v_move rfl) ?_
        refine rl_vg (met_on rfl rfl rfl rfl) rfl rfl (S := fun _ => True) trivial (v_lssT rfl rfl (by omega)) ?_
        refine xV rfl rfl rfl (v_pick_false rfl rfl) ?_
        refine xV rfl rfl rfl (v_move rfl) ?_
        refine rl_off (by exact met_off rfl rfl rfl rfl rfl) rfl rfl ?_
        refine rl_off (by exact met_off rfl rfl rfl rfl rfl) rfl rfl ?_
        refine rl_off (by exact met_off rfl rfl rfl rfl rfl) rfl rfl ?_
        refine rl_off (by exact met_off rfl rfl rfl rfl rfl) rfl rfl ?_
        refine xV rfl rfl rfl (v_pick_true rfl rfl) ?_
        refine xV rfl rfl rfl (v_move rfl) ?_
        refine rl_off (by exact met_off rfl rfl rfl rfl rfl) rfl rfl ?_
        refine rl_off (by exact met_off rfl rfl rfl rfl rfl) rfl rfl ?_
        refine rl_off (by exact met_off rfl rfl rfl rfl rfl) rfl rfl ?_
        refine rl_off (by exact met_off rfl rfl rfl rfl rfl) rfl rfl ?_
        refine rl_off (by exact met_off rfl rfl rfl rfl rfl) rfl rfl ?_
        refine rl_off (by exact met_off rfl rfl rfl rfl rfl) rfl rfl ?_
        refine xV rfl rfl rfl (v_pick_true rfl rfl) ?_
        refine rl_nil (g_le (xK (xS rfl (xS rfl (xS rfl (xS rfl (xS rfl (xS rfl (xS rfl (xS rfl (xS rfl (xS rfl (xS rfl (xS rfl (xS rfl (xS rfl (xS rfl (xS rfl (xS rfl (xS rfl (xS rfl (Fr.le_refl _))))))))))))))))))))) ?_)
        repeat (first | refine g_seq ?_ | refine g_skip ?_ | refine g_inBlock ?_ | refine g_block ?_ | refine g_label ?_)
        refine g_cond_true rfl ?_
        repeat (refine g_seq ?_)
        refine g_region ?_
        refine xV rfl rfl rfl (v_assign rfl) ?_
        refine xV rfl rfl rfl (v_assign rfl) ?_
        refine rl_nil (g_le (xK (xK (Fr.le_refl _))) ?_)
        refine g_ret2 Try.func37 rfl rfl rfl ?_
        exact ⟨rfl, md_close hok rfl rfl rfl (hw.xQ)⟩
      by_cases a3 : at_ > (s.seg i).size
      · repeat (refine g_seq ?_)
        refine g_region ?_
        refine xV rfl rfl rfl (v_move rfl) ?_
        refine xV rfl rfl rfl (v_lssF rfl rfl (by omega)) ?_
        refine xV rfl rfl rfl (v_move rfl) ?_
        refine rl_vg (met_on rfl rfl rfl rfl) rfl rfl (S := fun _ => True) trivial (v_move rfl) ?_
        refine rl_vg (met_on rfl rfl rfl rfl) rfl rfl (S := fun _ => True) trivial (v_lssF rfl rfl (by omega)) ?_
        refine xV rfl rfl rfl (v_pick_false rfl rfl) ?_
        refine xV rfl rfl rfl (v_move rfl) ?_
        refine rl_vg (met_on rfl rfl rfl rfl) rfl rfl (S := fun _ => True) trivial (v_move rfl) ?_
        refine rl_vg (met_on rfl rfl rfl rfl) rfl rfl (S := fun _ => True) trivial (v_move rfl) ?_
        refine rl_vg (met_on rfl rfl rfl rfl) rfl rfl (S := fun _ => True) trivial (v_lenSlice T.sl_60_5_1 rfl) ?_
        refine rl_vg (met_on rfl rfl rfl rfl) rfl rfl (S := fun _ => True) trivial (v_gtrT rfl rfl (by omega)) ?_
        refine xV rfl rfl rfl (v_pick_false rfl rfl) ?_
        refine xV rfl rfl rfl (v_move rfl) ?_
        refine rl_off (by exact met_off rfl rfl rfl rfl rfl) rfl rfl ?_
        refine rl_off (by exact met_off rfl rfl rfl rfl rfl) rfl rfl ?_
        refine rl_off (by exact met_off rfl rfl rfl rfl rfl) rfl rfl ?_
        refine rl_off (by exact met_off rfl rfl rfl rfl rfl) rfl rfl ?_
        refine rl_off (by exact met_off rfl rfl rfl rfl rfl) rfl rfl ?_
        refine rl_off (by exact met_off rfl rfl rfl rfl rfl) rfl rfl ?_
        refine xV rfl rfl rfl (v_pick_true rfl rfl) ?_
        refine rl_nil (g_le (xK (xS rfl (xS rfl (xS rfl (xS rfl (xS rfl (xS rfl (xS rfl (xS rfl (xS rfl (xS rfl (xS rfl (xS rfl (xS rfl (xS rfl (xS rfl (xS rfl (xS rfl (xS rfl (xS rfl (Fr.le_refl _))))))))))))))))))))) ?_)
        repeat (first | refine g_seq ?_ | refine g_skip ?_ | refine g_inBlock ?_ | refine g_block ?_ | refine g_label ?_)
        refine g_cond_true rfl ?_
        repeat (refine g_seq ?_)
        refine g_region ?_
        refine xV rfl rfl rfl (v_assign rfl) ?_
        refine xV rfl rfl rfl (v_assign rfl) ?_
        refine rl_nil (g_le (xK (xK (Fr.le_refl _))) ?_)
        refine g_ret2 Try.func37 rfl rfl rfl ?_
        exact ⟨rfl, md_close hok rfl rfl rfl (hw.xQ)⟩
      have a4 : n > (s.seg i).size - at_ := by omega
      repeat (refine g_seq ?_)
      refine g_region ?_
      refine xV rfl rfl rfl (v_move rfl) ?_
      refine xV rfl rfl rfl (v_lssF rfl rfl (by omega)) ?_
      refine xV rfl rfl rfl (v_move rfl) ?_
      refine rl_vg (met_on rfl rfl rfl rfl) rfl rfl (S := fun _ => True) trivial (v_move rfl) ?_
      refine rl_vg (met_on rfl rfl rfl rfl) rfl rfl (S := fun _ => True) trivial (v_lssF rfl rfl (by omega)) ?_
      refine xV rfl rfl rfl (v_pick_false rfl rfl) ?_
      refine xV rfl rfl rfl (v_move rfl) ?_
      refine rl_vg (met_on rfl rfl rfl rfl) rfl rfl (S := fun _ => True) trivial (v_move rfl) ?_
      refine rl_vg (met_on rfl rfl rfl rfl) rfl rfl (S := fun _ => True) trivial (v_move rfl) ?_
      refine rl_vg (met_on rfl rfl rfl rfl) rfl rfl (S := fun _ => True) trivial (v_lenSlice T.sl_60_5_1 rfl) ?_
      refine rl_vg (met_on rfl rfl rfl rfl) rfl rfl (S := fun _ => True) trivial (v_gtrF rfl rfl (by omega)) ?_
      refine xV rfl rfl rfl (v_pick_false rfl rfl) ?_
      refine xV rfl rfl rfl (v_move rfl) ?_
      refine rl_vg (met_on rfl rfl rfl rfl) rfl rfl (S := fun _ => True) trivial (v_move rfl) ?_
      refine rl_vg (met_on rfl rfl rfl rfl) rfl rfl (S := fun _ => True) trivial (v_move rfl) ?_
      refine rl_vg (met_on rfl rfl rfl rfl) rfl rfl (S := fun _ => True) trivial (v_lenSlice T.sl_60_5_1 rfl) ?_
      refine rl_vg (met_on rfl rfl rfl rfl) rfl rfl (S := fun _ => True) trivial (v_move rfl) ?_
      refine rl_vg (met_on rfl rfl rfl rfl) rfl rfl (S := fun _ => True) trivial (v_sub rfl rfl (by omega)) ?_
      refine rl_vg (met_on rfl rfl rfl rfl) rfl rfl (S := fun _ => True) trivial (v_gtrT rfl rfl (by omega)) ?_
      refine xV rfl rfl rfl (v_pick_false rfl rfl) ?_
      refine rl_nil (g_le (xK (xS rfl (xS rfl (xS rfl (xS rfl (xS rfl (xS rfl (xS rfl (xS rfl (xS rfl (xS rfl (xS rfl (xS rfl (xS rfl (xS rfl (xS rfl (xS rfl (xS rfl (xS rfl (xS rfl (Fr.le_refl _))))))))))))))))))))) ?_)
      repeat (first | refine g_seq ?_ | refine g_skip ?_ | refine g_inBlock ?_ | refine g_block ?_ | refine g_label ?_)
      refine g_cond_true rfl ?_
      repeat (refine g_seq ?_)
      refine g_region ?_
      refine xV rfl rfl rfl (v_assign rfl) ?_
      refine xV rfl rfl rfl (v_assign rfl) ?_
      refine rl_nil (g_le (xK (xK (Fr.le_refl _))) ?_)
      refine g_ret2 Try.func37 rfl rfl rfl ?_
      exact ⟨rfl, md_close hok rfl rfl rfl (hw.xQ)⟩
    · have e : s.read i at_ n = ((s.seg i).extract at_.toNat (at_ + n).toNat, 0) := by unfold Md.read; rw [if_pos h, if_neg hr]
      rw [e]
      repeat (refine g_seq ?_)
      refine g_region ?_
      refine xV rfl rfl rfl (v_move rfl) ?_
      refine xV rfl rfl rfl (v_lssF rfl rfl (by omega)) ?_
      refine xV rfl rfl rfl (v_move rfl) ?_
      refine rl_vg (met_on rfl rfl rfl rfl) rfl rfl (S := fun _ => True) trivial (v_move rfl) ?_
      refine rl_vg (met_on rfl rfl rfl rfl) rfl rfl (S := fun _ => True) trivial (v_lssF rfl rfl (by omega)) ?_
      refine xV rfl rfl rfl (v_pick_false rfl rfl) ?_
      refine xV rfl rfl rfl (v_move rfl) ?_
      refine rl_vg (met_on rfl rfl rfl rfl) rfl rfl (S := fun _ => True) trivial (v_move rfl) ?_
      refine rl_vg (met_on rfl rfl rfl rfl) rfl rfl (S := fun _ => True) trivial (v_move rfl) ?_
      refine rl_vg (met_on rfl rfl rfl rfl) rfl rfl (S := fun _ => True) trivial (v_lenSlice T.sl_60_5_1 rfl) ?_
      refine rl_vg (met_on rfl rfl rfl rfl) rfl rfl (S := fun _ => True) trivial (v_gtrF rfl rfl (by omega)) ?_
      refine xV rfl rfl rfl (v_pick_false rfl rfl) ?_
      refine xV rfl rfl rfl (v_move rfl) ?_
      refine rl_vg (met_on rfl rfl rfl rfl) rfl rfl (S := fun _ => True) trivial (v_move rfl) ?_
      refine rl_vg (met_on rfl rfl rfl rfl) rfl rfl (S := fun _ => True) trivial (v_move rfl) ?_
      refine rl_vg (met_on rfl rfl rfl rfl) rfl rfl (S := fun _ => True) trivial (v_lenSlice T.sl_60_5_1 rfl) ?_
      refine rl_vg (met_on rfl rfl rfl rfl) rfl rfl (S := fun _ => True) trivial (v_move rfl) ?_
      refine rl_vg (met_on rfl rfl rfl rfl) rfl rfl (S := fun _ => True) trivial (v_sub rfl rfl (by omega)) ?_
      refine rl_vg (met_on rfl rfl rfl rfl) rfl rfl (S := fun _ => True) trivial (v_gtrF rfl rfl (by omega)) ?_
      refine xV rfl rfl rfl (v_pick_false rfl rfl) ?_
      refine rl_nil (g_le (xK (xS rfl (xS rfl (xS rfl (xS rfl (xS rfl (xS rfl (xS rfl (xS rfl (xS rfl (xS rfl (xS rfl (xS rfl (xS rfl (xS rfl (xS rfl (xS rfl (xS rfl (xS rfl (xS rfl (Fr.le_refl _))))))))))))))))))))) ?_)
      repeat (first | refine g_seq ?_ | refine g_skip ?_ | refine g_inBlock ?_ | refine g_block ?_ | refine g_label ?_)
      refine g_cond_false rfl ?_
      repeat (first | refine g_seq ?_ | refine g_skip ?_)
      refine g_region ?_
      refine xV rfl rfl rfl (v_move rfl) ?_
      refine xV rfl rfl rfl (v_move rfl) ?_
      refine xV rfl rfl rfl (v_move rfl) ?_
      refine xV rfl rfl rfl (v_move rfl) ?_
      refine xV rfl rfl rfl (v_add rfl rfl (by omega)) ?_
      refine xV rfl rfl rfl (v_slice T.sl_60_5_1 rfl rfl rfl (by omega) (by omega) (by omega)) ?_
      refine rl_v rfl rfl rfl (by exact own_bytes hw (by (repeat first | with_reducible exact xH | apply xT); first | done | fail) (by omega) (by omega)) (v_convBytes T.sl_60_5_1 T.u8_5 T.str_9 rfl) ?_
      refine xV rfl rfl rfl (v_assign rfl) ?_
      refine xV rfl rfl rfl (v_assign rfl) ?_
      refine rl_nil (g_le (xK (xK (xS rfl (xS rfl (xS rfl (xS rfl (xS rfl (xS rfl (xS rfl (Fr.le_refl _)))))))))) ?_)
      refine g_ret2 Try.func37 rfl rfl rfl ?_
      have hw := md_back h hv (hw.xQ)
      exact ⟨rfl, md_close hok rfl rfl rfl (hw.xQ)⟩
  · refine calls_of_g (n := 49) Try.func37 rfl rfl rfl ?_
    change G _ _ _ _ _ [(0, _), (1, _), (2, _), (3, _)] _
    repeat (refine g_seq ?_)
    refine g_region ?_
    refine xV rfl rfl rfl (v_assign rfl) ?_
    refine xV rfl rfl rfl (v_assign rfl) ?_
    refine rl_nil (g_le (xK (xK (Fr.le_refl _))) ?_)
    repeat (refine g_seq ?_)
    refine g_region ?_
    refine xV rfl rfl rfl (v_move rfl) ?_
    refine xV rfl rfl rfl (v_move rfl) ?_
    refine rl_k rfl (k_callf Try.func33 rfl rfl rfl rfl ?_)
    refine Calls.mono (mis_calls m p s i (hw.xP)) ?_
    rintro _ w ⟨rfl, hw⟩
    refine ⟨_, rfl, ?_⟩
    refine xV rfl rfl rfl (v_not rfl) ?_
    refine rl_nil (g_le (xK (xS rfl (xS rfl (xS rfl (Fr.le_refl _))))) ?_)
    rw [decide_eq_false h]
    repeat (first | refine g_seq ?_ | refine g_skip ?_ | refine g_inBlock ?_ | refine g_block ?_ | refine g_label ?_)
    refine g_cond_true rfl ?_
    repeat (refine g_seq ?_)
    refine g_region ?_
    refine xV rfl rfl rfl (v_assign rfl) ?_
    refine xV rfl rfl rfl (v_assign rfl) ?_
    refine rl_nil (g_le (xK (xK (Fr.le_refl _))) ?_)
    refine g_ret2 Try.func37 rfl rfl rfl ?_
    refine ⟨?_, hw⟩
    simp [Md.read, h]

theorem Md.ok_put {s : Md} (hok : s.ok) {i at_ : Int} {v : ByteArray} (hi : s.is i) (h1 : 0 ≤ at_) (h2 : at_ ≤ (s.seg i).size) (h3 : (v.size : Int) ≤ s.size - at_) : (s.put i at_ v).ok := by
  refine ⟨by simpa [Md.put] using hok.1, by simpa [Md.put] using hok.2.1, hok.2.2.1, hok.2.2.2.1, fun b hb => ?_⟩
  rcases List.mem_or_eq_of_mem_set hb with hb | rfl
  · exact hok.2.2.2.2 b hb
  · have e : ((s.seg i).extract 0 at_.toNat).size = at_.toNat := by rw [ByteArray.size_extract, Nat.min_eq_left (by omega)]; omega
    rw [ByteArray.size_append, e]
    show ((at_.toNat + v.size : Nat) : Int) ≤ s.size
    omega

theorem mwrite_calls {E : Env} {w : World} {L : List As} (m p : Nat) (s : Md) (pw : Pw) (i at_ : Int) (v : ByteArray) (hpw : pw.ok) (hpl : s.past.length ≤ 4000000000000) (hw : Sat E w (MdAt m p s :: PwAt p pw :: L)) :
    Calls Try.prog 15 #[.pointer (some ⟨m, 0, none⟩), .int .i64 i, .int .i64 at_, .string v] w
      fun e w' => e = .returned (.int .i64 (s.write pw i at_ v).1) ∧ Sat E w' (MdAt m p (s.write pw i at_ v).2.1 :: PwAt p (s.write pw i at_ v).2.2 :: L) := by
  by_cases h : s.is i
  · refine calls_of_g (n := 87) Try.func15 rfl rfl rfl ?_
    change G _ _ _ _ _ [(0, _), (1, _), (2, _), (3, _)] _
    repeat (refine g_seq ?_)
    refine g_region ?_
    refine xV rfl rfl rfl (v_assign rfl) ?_
    refine rl_nil (g_le (xK (Fr.le_refl _)) ?_)
    repeat (first | refine g_seq ?_ | refine g_block ?_)
    refine g_region ?_
    refine xV rfl rfl rfl (v_move rfl) ?_
    refine xV rfl rfl rfl (v_move rfl) ?_
    refine rl_k rfl (k_callf Try.func33 rfl rfl rfl rfl ?_)
    refine Calls.mono (mis_calls m p s i (hw.xP)) ?_
    rintro _ w ⟨rfl, hw⟩
    refine ⟨_, rfl, ?_⟩
    refine xV rfl rfl rfl (v_not rfl) ?_
    refine xV rfl rfl rfl (v_assign rfl) ?_
    refine rl_nil (g_le (xK (xS rfl (xS rfl (xS rfl (xS rfl (Fr.le_refl _)))))) ?_)
    rw [decide_eq_true h]
    repeat (first | refine g_seq ?_ | refine g_skip ?_ | refine g_inBlock ?_ | refine g_block ?_ | refine g_label ?_)
    refine g_cond_false rfl ?_
    obtain ⟨hok, g, cap, pa, pc, vs, hvs, hcap, hpc, hw⟩ := md_open hw
    obtain ⟨a, c, hv, hc, hw⟩ := md_seg h hvs (hw.pick .at2)
    obtain ⟨h1, h2⟩ := id h
    have hsz := Md.seg_le hok h
    have hsz2 := hok.2.2.2.1
    by_cases a1 : at_ < 0
    · have e : s.write pw i at_ v = (121, s, pw) := by unfold Md.write; rw [if_pos h, if_pos (.inl a1)]
      rw [e]
      repeat (refine g_seq ?_)
      refine g_region ?_
      refine xV rfl rfl rfl (v_move rfl) ?_
      refine xV rfl rfl rfl (v_lssT rfl rfl (by omega)) ?_
      refine xV rfl rfl rfl (v_move rfl) ?_
      refine rl_off (by exact met_off rfl rfl rfl rfl rfl) rfl rfl ?_
      refine rl_off (by exact met_off rfl rfl rfl rfl rfl) rfl rfl ?_
      refine rl_off (by exact met_off rfl rfl rfl rfl rfl) rfl rfl ?_
      refine rl_off (by exact met_off rfl rfl rfl rfl rfl) rfl rfl ?_
      refine rl_off (by exact met_off rfl rfl rfl rfl rfl) rfl rfl ?_
      refine rl_off (by exact met_off rfl rfl rfl rfl rfl) rfl rfl ?_
      refine rl_off (by exact met_off rfl rfl rfl rfl rfl) rfl rfl ?_
      refine rl_off (by exact met_off rfl rfl rfl rfl rfl) rfl rfl ?_
      refine rl_off (by exact met_off rfl rfl rfl rfl rfl) rfl rfl ?_
      refine rl_off (by exact met_off rfl rfl rfl rfl rfl) rfl rfl ?_
      refine xV rfl rfl rfl (v_pick_true rfl rfl) ?_
      refine xV rfl rfl rfl (v_assign rfl) ?_
      refine rl_nil (g_le (xK (xS rfl (xS rfl (xS rfl (xS rfl (xS rfl (xS rfl (xS rfl (xS rfl (xS rfl (xS rfl (xS rfl (xS rfl (xS rfl (xS rfl (Fr.le_refl _)))))))))))))))) ?_)
      repeat (first | refine g_seq ?_ | refine g_skip ?_ | refine g_inBlock ?_ | refine g_block ?_ | refine g_label ?_)
      refine g_cond_true rfl ?_
      repeat (refine g_seq ?_)
      refine g_region ?_
      refine xV rfl rfl rfl (v_assign rfl) ?_
      refine rl_nil (g_le (xK (Fr.le_refl _)) ?_)
      refine g_ret1 Try.func15 rfl rfl ?_
      have hw := md_back h hv (hw.xQ)
      exact ⟨rfl, md_close hok rfl rfl rfl (hw.xQ)⟩
    by_cases a2 : at_ > (s.seg i).size
    · have e : s.write pw i at_ v = (121, s, pw) := by unfold Md.write; rw [if_pos h, if_pos (.inr a2)]
      rw [e]
      repeat (refine g_seq ?_)
      refine g_region ?_
      refine xV rfl rfl rfl (v_move rfl) ?_
      refine xV rfl rfl rfl (v_lssF rfl rfl (by omega)) ?_
      refine xV rfl rfl rfl (v_move rfl) ?_
      refine rl_vg (met_on rfl rfl rfl rfl) rfl rfl (S := fun _ => True) trivial (v_move rfl) ?_
      refine rl_vg (met_on rfl rfl rfl rfl) rfl rfl (S := fun _ => True) trivial (v_move rfl) ?_
      refine rl_vg (met_on rfl rfl rfl rfl) rfl rfl (S := fun _ => True) trivial (v_nilCheck rfl) ?_
      refine rl_vg (met_on rfl rfl rfl rfl) rfl rfl (S := fun _ => True) trivial (v_fieldAddr0 T.fld_44_2_2 rfl) ?_
      refine rl_vg (met_on rfl rfl rfl rfl) rfl rfl (by exact sat_cell hw (by (repeat first | with_reducible exact xH | apply xT); first | done | fail) rfl) (v_load T.scal_41 rfl) ?_
      refine rl_vg (met_on rfl rfl rfl rfl) rfl rfl (S := fun _ => True) trivial (v_move rfl) ?_
      refine rl_vg (met_on rfl rfl rfl rfl) rfl rfl (S := fun _ => True) trivial (v_indexAddr T.sl_41_60_1 rfl rfl (by omega) (by omega)) ?_
      refine rl_vg (met_on rfl rfl rfl rfl) rfl rfl (by exact own_cell hw (by (repeat first | with_reducible exact xH | apply xT); first | done | fail) (by first | rfl | assumption)) (v_load T.scal_60 rfl) ?_
      refine rl_vg (met_on rfl rfl rfl rfl) rfl rfl (S := fun _ => True) trivial (v_lenSlice T.sl_60_5_1 rfl) ?_
      refine rl_vg (met_on rfl rfl rfl rfl) rfl rfl (S := fun _ => True) trivial (v_gtrT rfl rfl (by omega)) ?_
      refine xV rfl rfl rfl (v_pick_false rfl rfl) ?_
      refine xV rfl rfl rfl (v_assign rfl) ?_
      refine rl_nil (g_le (xK (xS rfl (xS rfl (xS rfl (xS rfl (xS rfl (xS rfl (xS rfl (xS rfl (xS rfl (xS rfl (xS rfl (xS rfl (xS rfl (xS rfl (Fr.le_refl _)))))))))))))))) ?_)
      repeat (first | refine g_seq ?_ | refine g_skip ?_ | refine g_inBlock ?_ | refine g_block ?_ | refine g_label ?_)
      refine g_cond_true rfl ?_
      repeat (refine g_seq ?_)
      refine g_region ?_
      refine xV rfl rfl rfl (v_assign rfl) ?_
      refine rl_nil (g_le (xK (Fr.le_refl _)) ?_)
      refine g_ret1 Try.func15 rfl rfl ?_
      have hw := md_back h hv (hw.xQ)
      exact ⟨rfl, md_close hok rfl rfl rfl (hw.xQ)⟩
    repeat (refine g_seq ?_)
    refine g_region ?_
    refine xV rfl rfl rfl (v_move rfl) ?_
    refine xV rfl rfl rfl (v_lssF rfl rfl (by omega)) ?_
    refine xV rfl rfl rfl (v_move rfl) ?_
    refine rl_vg (met_on rfl rfl rfl rfl) rfl rfl (S := fun _ => True) trivial (v_move rfl) ?_
    refine rl_vg (met_on rfl rfl rfl rfl) rfl rfl (S := fun _ => True) trivial (v_move rfl) ?_
    refine rl_vg (met_on rfl rfl rfl rfl) rfl rfl (S := fun _ => True) trivial (v_nilCheck rfl) ?_
    refine rl_vg (met_on rfl rfl rfl rfl) rfl rfl (S := fun _ => True) trivial (v_fieldAddr0 T.fld_44_2_2 rfl) ?_
    refine rl_vg (met_on rfl rfl rfl rfl) rfl rfl (by exact sat_cell hw (by (repeat first | with_reducible exact xH | apply xT); first | done | fail) rfl) (v_load T.scal_41 rfl) ?_
    refine rl_vg (met_on rfl rfl rfl rfl) rfl rfl (S := fun _ => True) trivial (v_move rfl) ?_
    refine rl_vg (met_on rfl rfl rfl rfl) rfl rfl (S := fun _ => True) trivial (v_indexAddr T.sl_41_60_1 rfl rfl (by omega) (by omega)) ?_
    refine rl_vg (met_on rfl rfl rfl rfl) rfl rfl (by exact own_cell hw (by (repeat first | with_reducible exact xH | apply xT); first | done | fail) (by first | rfl | assumption)) (v_load T.scal_60 rfl) ?_
    refine rl_vg (met_on rfl rfl rfl rfl) rfl rfl (S := fun _ => True) trivial (v_lenSlice T.sl_60_5_1 rfl) ?_
    refine rl_vg (met_on rfl rfl rfl rfl) rfl rfl (S := fun _ => True) trivial (v_gtrF rfl rfl (by omega)) ?_
    refine xV rfl rfl rfl (v_pick_false rfl rfl) ?_
    refine xV rfl rfl rfl (v_assign rfl) ?_
    refine rl_nil (g_le (xK (xS rfl (xS rfl (xS rfl (xS rfl (xS rfl (xS rfl (xS rfl (xS rfl (xS rfl (xS rfl (xS rfl (xS rfl (xS rfl (xS rfl (Fr.le_refl _)))))))))))))))) ?_)
    repeat (first | refine g_seq ?_ | refine g_skip ?_ | refine g_inBlock ?_ | refine g_block ?_ | refine g_label ?_)
    refine g_cond_false rfl ?_
    by_cases a3 : v.size > s.size - at_
    · have e : s.write pw i at_ v = (122, s, pw) := by unfold Md.write; rw [if_pos h, if_neg (by omega), if_pos a3]
      rw [e]
      repeat (refine g_seq ?_)
      refine g_region ?_
      refine xV rfl rfl rfl (v_move rfl) ?_
      refine xV rfl rfl rfl (v_lenStr T.str_9 rfl) ?_
      refine xV rfl rfl rfl (v_move rfl) ?_
      refine xV rfl rfl rfl (v_nilCheck rfl) ?_
      refine xV rfl rfl rfl (v_fieldAddr0 T.fld_44_1_1 rfl) ?_
      refine rl_v rfl rfl rfl (by exact sat_cell hw (by (repeat first | with_reducible exact xH | apply xT); first | done | fail) rfl) (v_load T.scal_3 rfl) ?_
      refine xV rfl rfl rfl (v_move rfl) ?_
      refine xV rfl rfl rfl (v_sub rfl rfl (by omega)) ?_
      refine xV rfl rfl rfl (v_gtrT rfl rfl (by omega)) ?_
      refine xV rfl rfl rfl (v_assign rfl) ?_
      refine rl_nil (g_le (xK (xS rfl (xS rfl (xS rfl (xS rfl (xS rfl (xS rfl (xS rfl (xS rfl (xS rfl (Fr.le_refl _))))))))))) ?_)
      repeat (first | refine g_seq ?_ | refine g_skip ?_ | refine g_inBlock ?_ | refine g_block ?_ | refine g_label ?_)
      refine g_cond_true rfl ?_
      repeat (refine g_seq ?_)
      refine g_region ?_
      refine xV rfl rfl rfl (v_assign rfl) ?_
      refine rl_nil (g_le (xK (Fr.le_refl _)) ?_)
      refine g_ret1 Try.func15 rfl rfl ?_
      have hw := md_back h hv (hw.xQ)
      exact ⟨rfl, md_close hok rfl rfl rfl (hw.xQ)⟩
    repeat (refine g_seq ?_)
    refine g_region ?_
    refine xV rfl rfl rfl (v_move rfl) ?_
    refine xV rfl rfl rfl (v_lenStr T.str_9 rfl) ?_
    refine xV rfl rfl rfl (v_move rfl) ?_
    refine xV rfl rfl rfl (v_nilCheck rfl) ?_
    refine xV rfl rfl rfl (v_fieldAddr0 T.fld_44_1_1 rfl) ?_
    refine rl_v rfl rfl rfl (by exact sat_cell hw (by (repeat first | with_reducible exact xH | apply xT); first | done | fail) rfl) (v_load T.scal_3 rfl) ?_
    refine xV rfl rfl rfl (v_move rfl) ?_
    refine xV rfl rfl rfl (v_sub rfl rfl (by omega)) ?_
    refine xV rfl rfl rfl (v_gtrF rfl rfl (by omega)) ?_
    refine xV rfl rfl rfl (v_assign rfl) ?_
    refine rl_nil (g_le (xK (xS rfl (xS rfl (xS rfl (xS rfl (xS rfl (xS rfl (xS rfl (xS rfl (xS rfl (Fr.le_refl _))))))))))) ?_)
    repeat (first | refine g_seq ?_ | refine g_skip ?_ | refine g_inBlock ?_ | refine g_block ?_ | refine g_label ?_)
    refine g_cond_false rfl ?_
    repeat (first | refine g_seq ?_ | refine g_skip ?_ | refine g_inBlock ?_)
    refine g_region ?_
    refine xV rfl rfl rfl (v_move rfl) ?_
    refine xV rfl rfl rfl (v_nilCheck rfl) ?_
    refine xV rfl rfl rfl (v_fieldAddr0 T.fld_44_0_0 rfl) ?_
    refine rl_v rfl rfl rfl (by exact sat_cell hw (by (repeat first | with_reducible exact xH | apply xT); first | done | fail) rfl) (v_load T.scal_40 rfl) ?_
    refine rl_k rfl (k_callf Try.func34 rfl rfl rfl rfl ?_)
    refine Calls.mono (spend_calls p pw hpw (hw.xP)) ?_
    rintro _ w ⟨rfl, hw⟩
    refine ⟨_, rfl, ?_⟩
    refine xV rfl rfl rfl (v_assign rfl) ?_
    refine rl_nil (g_le (xK (xS rfl (xS rfl (xS rfl (xS rfl (xS rfl (Fr.le_refl _))))))) ?_)
    repeat (refine g_seq ?_)
    refine g_region ?_
    refine xV rfl rfl rfl (v_move rfl) ?_
    refine xV rfl rfl rfl (v_neq rfl rfl) ?_
    refine rl_nil (g_le (xK (xS rfl (Fr.le_refl _))) ?_)
    repeat (first | refine g_seq ?_ | refine g_skip ?_ | refine g_inBlock ?_ | refine g_block ?_ | refine g_label ?_)
    refine g_cond_dec rfl (fun h8 => ?_) (fun h8 => ?_)
    · have e : s.write pw i at_ v = (pw.spend.1, s, pw.spend.2) := by unfold Md.write; rw [if_pos h, if_neg (by omega), if_neg a3, if_neg h8]
      rw [e]
      repeat (refine g_seq ?_)
      refine g_region ?_
      refine xV rfl rfl rfl (v_move rfl) ?_
      refine xV rfl rfl rfl (v_assign rfl) ?_
      refine rl_nil (g_le (xK (xS rfl (Fr.le_refl _))) ?_)
      refine g_ret1 Try.func15 rfl rfl ?_
      have hw := md_back h hv (hw.xQ)
      exact ⟨rfl, md_close hok rfl rfl rfl (hw.xQ)⟩
    have e : s.write pw i at_ v = (0, s.put i at_ v, pw.spend.2) := by unfold Md.write; rw [if_pos h, if_neg (by omega), if_neg a3, if_pos (by omega)]
    rw [e]
    have hw := (hw.xP (A := SegA (.slice a (s.seg i).size c) (s.seg i))).own_take (j := at_.toNat) (by omega)
    have hj0 : 0 + i.toNat * 1 < vs.length := by omega
    repeat (first | refine g_seq ?_ | refine g_skip ?_)
    refine g_drawS [17] T.mixed rfl (fun w hw => (hw.pick .at0).drop) hw (fun w hw => ?_)
    refine ra_a 0 rfl rfl rfl rfl (by kernel_rfl) (v_move rfl) ?_
    refine ra_a 1 rfl rfl rfl rfl (by kernel_rfl) (v_nilCheck rfl) ?_
    refine ra_a 2 rfl rfl rfl rfl (by kernel_rfl) (v_fieldAddr0 T.fld_44_2_2 rfl) ?_
    refine ra_v 3 rfl rfl rfl rfl (by kernel_rfl) (OpV.mono (v_load T.scal_41 rfl) (fun w hw => by exact sat_cell hw (by (repeat first | with_reducible exact xH | apply xT); first | done | fail) rfl)) (by exact Sat.sub hw (by (repeat (first | with_reducible exact Sub.refl _ | exact Sub.nil _ | (apply Sub.cons; focus ((repeat (first | with_reducible exact Pick.here _ | apply Pick.there)); (first | done | fail))) | with_reducible apply Sub.drop)); first | done | fail)) ?_
    refine ra_a 4 rfl rfl rfl rfl (by kernel_rfl) (v_move rfl) ?_
    refine ra_a 5 rfl rfl rfl rfl (by kernel_rfl) (v_move rfl) ?_
    refine ra_a 6 rfl rfl rfl rfl (by kernel_rfl) (v_nilCheck rfl) ?_
    refine ra_a 7 rfl rfl rfl rfl (by kernel_rfl) (v_fieldAddr0 T.fld_44_2_2 rfl) ?_
    refine ra_v 8 rfl rfl rfl rfl (by kernel_rfl) (OpV.mono (v_load T.scal_41 rfl) (fun w hw => by exact sat_cell hw (by (repeat first | with_reducible exact xH | apply xT); first | done | fail) rfl)) (by exact Sat.sub hw (by (repeat (first | with_reducible exact Sub.refl _ | exact Sub.nil _ | (apply Sub.cons; focus ((repeat (first | with_reducible exact Pick.here _ | apply Pick.there)); (first | done | fail))) | with_reducible apply Sub.drop)); first | done | fail)) ?_
    refine ra_a 9 rfl rfl rfl rfl (by kernel_rfl) (v_move rfl) ?_
    refine ra_a 10 rfl rfl rfl rfl (by kernel_rfl) (v_indexAddr T.sl_41_60_1 rfl rfl (by omega) (by omega)) ?_
    refine ra_v 11 rfl rfl rfl rfl (by kernel_rfl) (OpV.mono (v_load T.scal_60 rfl) (fun w hw => by exact own_cell hw (by (repeat first | with_reducible exact xH | apply xT); first | done | fail) (by first | rfl | assumption))) (by exact Sat.sub hw (by (repeat (first | with_reducible exact Sub.refl _ | exact Sub.nil _ | (apply Sub.cons; focus ((repeat (first | with_reducible exact Pick.here _ | apply Pick.there)); (first | done | fail))) | with_reducible apply Sub.drop)); first | done | fail)) ?_
    refine ra_a 12 rfl rfl rfl rfl (by kernel_rfl) (v_move rfl) ?_
    refine ra_a 13 rfl rfl rfl rfl (by kernel_rfl) (v_sliceTo T.sl_60_5_1 rfl rfl (by omega) (by omega)) ?_
    refine ra_a 14 rfl rfl rfl rfl (by kernel_rfl) (v_move rfl) ?_
    refine ra_k 15 rfl rfl (by kernel_rfl) (k_appendStr hw T.sl_60_5_1 T.str_9 T.zero_5 T.bytes_5_1 rfl rfl (by (repeat first | with_reducible exact xH | apply xT); first | done | fail) (by omega) rfl (fun vv w hw hnil => ?_))
    refine ⟨fun _ => (by exact Sat.sub hw (by (repeat (first | with_reducible exact Sub.refl _ | exact Sub.nil _ | (apply Sub.cons; focus ((repeat (first | with_reducible exact Pick.here _ | apply Pick.there)); (first | done | fail))) | with_reducible apply Sub.drop)); first | done | fail)), ?_⟩
    obtain ⟨a', c', rfl, hc', _, _⟩ := hw.own_shape
    refine ra_a 16 rfl rfl rfl rfl (by kernel_rfl) (v_indexAddr T.sl_41_60_1 rfl rfl (by omega) (by omega)) ?_
    refine ra_k 17 rfl rfl (by kernel_rfl) (k_storeOwn hw T.scal_60 rfl rfl rfl (by (repeat first | with_reducible exact xH | apply xT); first | done | fail) (by assumption) (fun w hw => ?_))
    refine ⟨fun hn => absurd (by decide) hn, ?_⟩
    refine ra_done (by kernel_rfl) (g_le (xS rfl (xS rfl (xS rfl (xS rfl (xS rfl (xS rfl (xS rfl (xS rfl (xS rfl (xS rfl (xS rfl (xS rfl (xS rfl (xS rfl (xS rfl (xS rfl (xS rfl (Fr.le_refl _)))))))))))))))))) ?_)
    repeat (refine g_seq ?_)
    refine g_region ?_
    refine xV rfl rfl rfl (v_move rfl) ?_
    refine xV rfl rfl rfl (v_move rfl) ?_
    refine xV rfl rfl rfl (v_nilCheck rfl) ?_
    refine xV rfl rfl rfl (v_fieldAddr0 T.fld_44_3_3 rfl) ?_
    refine rl_v rfl rfl rfl (by exact sat_cell hw (by (repeat first | with_reducible exact xH | apply xT); first | done | fail) rfl) (v_load T.scal_42 rfl) ?_
    refine xV rfl rfl rfl (v_move rfl) ?_
    refine xV rfl rfl rfl (v_move rfl) ?_
    refine xV rfl rfl rfl (v_move rfl) ?_
    refine xV rfl rfl rfl (v_build rfl (T.build_93_0_1_2 ..)) ?_
    refine rl_k rfl (k_buildSlice (cells := [_, _, _]) hw T.sl_42_93_3 T.zero_93 rfl rfl rfl rfl rfl rfl (fun blk w hw => ?_))
    refine rl_k rfl (k_append (news := [_, _, _]) hw T.sl_42_93_3 T.zero_93 T.bytes_93_32 rfl (by decide) rfl rfl (by (repeat first | with_reducible exact xH | apply xT); first | done | fail) rfl (by exact sat_cells hw (by (repeat first | with_reducible exact xH | apply xT); first | done | fail) ⟨rfl, rfl, rfl, trivial⟩) (by simp [Value.oneCell']) (by omega) (by simp only [maxLen]; omega) rfl (fun vv w hw hnil => ?_))
    obtain ⟨b', d', rfl, hd', _, _⟩ := hw.own_shape
    refine xV rfl rfl rfl (v_nilCheck rfl) ?_
    refine xV rfl rfl rfl (v_fieldAddr0 T.fld_44_3_3 rfl) ?_
    refine rl_k rfl (k_store hw T.scal_42 rfl rfl rfl (by (repeat first | with_reducible exact xH | apply xT); first | done | fail) rfl (by simp only [List.set, Int.reduceToNat, Nat.reduceMul, Nat.reduceAdd]; rfl) (fun w hw => ?_))
    refine rl_nil (g_le (xS rfl (xS rfl (xS rfl (xS rfl (xS rfl (xS rfl (xS rfl (xS rfl (xS rfl (xS rfl (xS rfl (xS rfl (xS rfl (Fr.le_refl _)))))))))))))) ?_)
    repeat (refine g_seq ?_)
    refine g_region ?_
    refine xV rfl rfl rfl (v_move rfl) ?_
    refine xV rfl rfl rfl (v_nilCheck rfl) ?_
    refine xV rfl rfl rfl (v_fieldAddr0 T.fld_44_4_4 rfl) ?_
    refine rl_v rfl rfl rfl (by exact sat_cell hw (by (repeat first | with_reducible exact xH | apply xT); first | done | fail) rfl) (v_load T.scal_3 rfl) ?_
    refine xV rfl rfl rfl (v_move rfl) ?_
    refine xV rfl rfl rfl (v_lenStr T.str_9 rfl) ?_
    refine xV rfl rfl rfl (v_addW rfl rfl) ?_
    refine xV rfl rfl rfl (v_nilCheck rfl) ?_
    refine xV rfl rfl rfl (v_fieldAddr0 T.fld_44_4_4 rfl) ?_
    refine rl_k rfl (k_store hw T.scal_3 rfl rfl rfl (by (repeat first | with_reducible exact xH | apply xT); first | done | fail) rfl (by simp only [List.set, Int.reduceToNat, Nat.reduceMul, Nat.reduceAdd]; rfl) (fun w hw => ?_))
    refine rl_nil (g_le (xS rfl (xS rfl (xS rfl (xS rfl (xS rfl (xS rfl (xS rfl (xS rfl (xS rfl (Fr.le_refl _)))))))))) ?_)
    repeat (refine g_seq ?_)
    refine g_region ?_
    refine xV rfl rfl rfl (v_assign rfl) ?_
    refine rl_nil (g_le (xK (Fr.le_refl _)) ?_)
    refine g_ret1 Try.func15 rfl rfl ?_
    refine ⟨rfl, ?_⟩
    rw [show 0 + i.toNat * 1 = i.toNat by omega, show at_.toNat * 1 = at_.toNat by omega, strCells_take _ _ (by omega), ← strCells_append] at hw
    have esz : at_.toNat + v.size = ((s.seg i).extract 0 at_.toNat ++ v).size := by rw [ByteArray.size_append, ByteArray.size_extract, Nat.min_eq_left (by omega)]; omega
    rw [esz] at hw
    have hw1 : Sat E w (SegA _ ((s.seg i).extract 0 at_.toNat ++ v) :: eachOf SegA (vs.set i.toNat (.slice none 0 0)) (s.segs.set i.toNat ByteArray.empty) :: pt m _ :: OwnSl 60 1 _ _ _ :: OwnSl 93 3 _ _ _ :: PwAt p _ :: L) := hw.xQ
    have hw2 := Sat.each_put (A := SegA) i.toNat hw1
    have hw3 : Sat E w (pt m _ :: OwnSl 60 1 _ _ _ :: eachOf SegA _ _ :: OwnSl 93 3 _ _ _ :: PwAt p _ :: L) := hw2.xQ
    refine md_close (s := s.put i at_ v) (Md.ok_put hok h (by omega) (by omega) (by omega)) ?_ ?_ ?_ hw3
    · simp [Md.put]
    · simp [Md.put]
    · simp [Md.put, wrCells]
  · refine calls_of_g (n := 87) Try.func15 rfl rfl rfl ?_
    change G _ _ _ _ _ [(0, _), (1, _), (2, _), (3, _)] _
    repeat (refine g_seq ?_)
    refine g_region ?_
    refine xV rfl rfl rfl (v_assign rfl) ?_
    refine rl_nil (g_le (xK (Fr.le_refl _)) ?_)
    repeat (first | refine g_seq ?_ | refine g_block ?_)
    refine g_region ?_
    refine xV rfl rfl rfl (v_move rfl) ?_
    refine xV rfl rfl rfl (v_move rfl) ?_
    refine rl_k rfl (k_callf Try.func33 rfl rfl rfl rfl ?_)
    refine Calls.mono (mis_calls m p s i (hw.xP)) ?_
    rintro _ w ⟨rfl, hw⟩
    refine ⟨_, rfl, ?_⟩
    refine xV rfl rfl rfl (v_not rfl) ?_
    refine xV rfl rfl rfl (v_assign rfl) ?_
    refine rl_nil (g_le (xK (xS rfl (xS rfl (xS rfl (xS rfl (Fr.le_refl _)))))) ?_)
    rw [decide_eq_false h]
    repeat (first | refine g_seq ?_ | refine g_skip ?_ | refine g_inBlock ?_ | refine g_block ?_ | refine g_label ?_)
    refine g_cond_true rfl ?_
    repeat (refine g_seq ?_)
    refine g_region ?_
    refine xV rfl rfl rfl (v_assign rfl) ?_
    refine rl_nil (g_le (xK (Fr.le_refl _)) ?_)
    refine g_ret1 Try.func15 rfl rfl ?_
    refine ⟨?_, ?_⟩
    · simp [Md.write, h]
    · have e : s.write pw i at_ v = (120, s, pw) := by unfold Md.write; rw [if_neg h]
      rw [e]; exact hw

end Go.Proofs.Ytlgpdglnfjndhaa
