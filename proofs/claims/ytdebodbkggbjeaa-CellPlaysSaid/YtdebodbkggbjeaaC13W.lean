/-
  The statements of layer 13 (cell), walked.
-/
import Derived.Test.YtdebodbkggbjeaaC13L
import Derived.Test.YtdebodbkggbjeaaRows
namespace Go.Proofs.Ytdebodbkggbjeaa
set_option linter.unusedSimpArgs false
set_option linter.unusedVariables false
open Go Xe Go.RowKit Go.ChangeShapes Go.WideShapes Go.ChangeAt

structure Op13 where
  kind : Int
  on : Bool
  slot : Int
  bytes : ByteArray
def rdOp13 : Rd Op13 := fun w cs x => ∃ c0 c1 c2 c3, cs = [c0, c1, c2, c3] ∧ (rdInt .i64) w [c0] x.kind ∧ rdBool w [c1] x.on ∧ (rdInt .i64) w [c2] x.slot ∧ rdStr w [c3] x.bytes
theorem reads_Op13 {H : Type} {enc : TypeId × Value → H} : Reads enc Try.prog 69 rdOp13 := fun w fuel cs d ps h hz => by
  have hl := reads_length T.agg_69_4 (by kernel_rfl) h hz
  obtain ⟨c0, c1, c2, c3, rfl⟩ : ∃ c0 c1 c2 c3, cs = [c0, c1, c2, c3] := by
    match cs, hl with
    | [c0, c1, c2, c3], _ => exact ⟨_, _, _, _, rfl⟩
  obtain ⟨x0, h0⟩ := reads_field (i := 0) (off := 0) (k := 1) (ft := 3) (by kernel_rfl) h hz (reads_int T.int_3_i64)
  obtain ⟨x1, h1⟩ := reads_field (i := 1) (off := 1) (k := 1) (ft := 4) (by kernel_rfl) h hz (reads_bool T.bool_4)
  obtain ⟨x2, h2⟩ := reads_field (i := 2) (off := 2) (k := 1) (ft := 3) (by kernel_rfl) h hz (reads_int T.int_3_i64)
  obtain ⟨x3, h3⟩ := reads_field (i := 3) (off := 3) (k := 1) (ft := 9) (by kernel_rfl) h hz (reads_str T.str_9)
  exact ⟨⟨x0, x1, x2, x3⟩, _, _, _, _, rfl, h0, h1, h2, h3⟩

theorem awake13_calls {E : Env} {w : World} {L : List As} (hw : Sat E w L) :
    Calls Try.prog 32 #[] w fun e w' => e = .returned (.bool true) ∧ Sat E w' L := by
  refine calls_of_g (n := 77) Try.func32 rfl rfl rfl ?_
  change G _ _ _ _ _ [] _
  repeat (first | refine g_seq ?_ | refine g_skip ?_ | refine g_inBlock ?_ | refine g_block ?_ | refine g_label ?_)
  refine g_region ?_
  refine rl_v rfl rfl rfl (S := fun _ => True) trivial (v_assign rfl) ?_
  refine rl_nil (g_le (Fr.le_keep (Fr.le_refl _)) ?_)
  repeat (first | refine g_seq ?_ | refine g_skip ?_ | refine g_inBlock ?_ | refine g_block ?_ | refine g_label ?_)
  refine g_region ?_
  refine rl_k rfl (k_callf Try.func12 rfl rfl rfl rfl ?_)
  refine Calls.mono (new_calls hw) ?_
  rintro _ w ⟨p, rfl, hw⟩
  refine ⟨_, rfl, ?_⟩
  refine rl_k rfl (k_callf Try.func33 rfl rfl rfl rfl ?_)
  refine Calls.mono (cnew_calls p hw) ?_
  rintro _ w ⟨c, rfl, hw⟩
  refine ⟨_, rfl, ?_⟩
  refine rl_v rfl rfl rfl (S := fun _ => True) trivial (v_assign rfl) ?_
  refine rl_nil (g_le (Fr.le_keep (Fr.le_skip rfl (Fr.le_skip rfl (Fr.le_refl _)))) ?_)
  repeat (first | refine g_seq ?_ | refine g_skip ?_ | refine g_inBlock ?_ | refine g_block ?_ | refine g_label ?_)
  refine g_region ?_
  refine rl_v rfl rfl rfl (S := fun _ => True) trivial (v_move rfl) ?_
  refine rl_v rfl rfl rfl (S := fun _ => True) trivial (v_eqlNil T.ptr_63 rfl rfl) ?_
  refine rl_nil (g_le (Fr.le_keep (Fr.le_skip rfl (Fr.le_refl _))) ?_)
  repeat (first | refine g_seq ?_ | refine g_skip ?_ | refine g_inBlock ?_ | refine g_block ?_ | refine g_label ?_)
  refine g_cond_false rfl ?_
  have e1 : Cs.set ⟨nil, nil, 0⟩ ⟨false, 0, 0⟩ 0 (ByteArray.mk #[97]) = (0, ⟨ByteArray.mk #[97], nil, 1⟩, ⟨false, 0, 1⟩) := rfl
  have e2 : Cs.set ⟨ByteArray.mk #[97], nil, 1⟩ ⟨false, 0, 1⟩ 1 (ByteArray.mk #[98]) = (0, ⟨ByteArray.mk #[97], ByteArray.mk #[98], 2⟩, ⟨false, 0, 2⟩) := rfl
  have e3 : Cs.erase ⟨ByteArray.mk #[97], ByteArray.mk #[98], 2⟩ ⟨false, 0, 2⟩ 0 = (0, ⟨nil, ByteArray.mk #[98], 3⟩, ⟨false, 0, 3⟩) := rfl
  have e4 : Cs.upto ⟨nil, ByteArray.mk #[98], 3⟩ 2 = [1] := rfl
  have e5 : Cs.told ⟨nil, ByteArray.mk #[98], 3⟩ 1 = (ByteArray.mk #[98], true) := rfl
  have e6 : Cs.told ⟨nil, ByteArray.mk #[98], 3⟩ 0 = (nil, false) := rfl
  have o1 : Pw.ok ⟨false, 0, 1⟩ := ⟨by simp, by simp, i64_in (by simp)⟩
  have o2 : Pw.ok ⟨false, 0, 2⟩ := ⟨by simp, by simp, i64_in (by simp)⟩
  repeat (first | refine g_seq ?_ | refine g_skip ?_ | refine g_inBlock ?_ | refine g_block ?_ | refine g_label ?_)
  refine g_region ?_
  refine rl_v rfl rfl rfl (S := fun _ => True) trivial (v_move rfl) ?_
  refine rl_k rfl (k_callf Try.func38 rfl rfl rfl rfl ?_)
  refine Calls.mono (set_calls c p _ _ _ _ Pw.ok_new (hw.sub (by repeat (first | with_reducible exact Sub.refl _ | with_reducible exact Sub.last1 | with_reducible exact Sub.last2 | with_reducible exact Sub.last3 | with_reducible exact Sub.last4 | with_reducible exact Sub.last5 | with_reducible exact Sub.last6 | with_reducible exact Sub.last7 | with_reducible exact Sub.last8 | with_reducible exact Sub.last9 | with_reducible exact Sub.last10 | with_reducible exact Sub.last11 | with_reducible exact Sub.last12 | with_reducible exact Sub.last13 | with_reducible exact Sub.last14 | with_reducible exact Sub.last15 | with_reducible refine Sub.head0 ?_ | with_reducible refine Sub.head1 ?_ | with_reducible refine Sub.head2 ?_ | with_reducible refine Sub.head3 ?_ | with_reducible refine Sub.head4 ?_ | with_reducible refine Sub.head5 ?_ | with_reducible refine Sub.head6 ?_ | with_reducible refine Sub.head7 ?_ | with_reducible refine Sub.head8 ?_ | with_reducible refine Sub.head9 ?_ | with_reducible refine Sub.head10 ?_ | with_reducible refine Sub.head11 ?_ | with_reducible refine Sub.head12 ?_ | with_reducible refine Sub.head13 ?_ | with_reducible refine Sub.head14 ?_ | with_reducible refine Sub.head15 ?_ | with_reducible refine Sub.drop ?_)))) ?_
  rintro _ w ⟨rfl, hw⟩
  rw [e1] at hw ⊢
  refine ⟨_, rfl, ?_⟩
  refine rl_v rfl rfl rfl (S := fun _ => True) trivial (v_assign rfl) ?_
  refine rl_nil (g_le (Fr.le_keep (Fr.le_skip rfl (Fr.le_skip rfl (Fr.le_refl _)))) ?_)
  repeat (first | refine g_seq ?_ | refine g_skip ?_ | refine g_inBlock ?_ | refine g_block ?_ | refine g_label ?_)
  refine g_region ?_
  refine rl_v rfl rfl rfl (S := fun _ => True) trivial (v_move rfl) ?_
  refine rl_k rfl (k_callf Try.func38 rfl rfl rfl rfl ?_)
  refine Calls.mono (set_calls c p _ _ _ _ o1 (hw.sub (by repeat (first | with_reducible exact Sub.refl _ | with_reducible exact Sub.last1 | with_reducible exact Sub.last2 | with_reducible exact Sub.last3 | with_reducible exact Sub.last4 | with_reducible exact Sub.last5 | with_reducible exact Sub.last6 | with_reducible exact Sub.last7 | with_reducible exact Sub.last8 | with_reducible exact Sub.last9 | with_reducible exact Sub.last10 | with_reducible exact Sub.last11 | with_reducible exact Sub.last12 | with_reducible exact Sub.last13 | with_reducible exact Sub.last14 | with_reducible exact Sub.last15 | with_reducible refine Sub.head0 ?_ | with_reducible refine Sub.head1 ?_ | with_reducible refine Sub.head2 ?_ | with_reducible refine Sub.head3 ?_ | with_reducible refine Sub.head4 ?_ | with_reducible refine Sub.head5 ?_ | with_reducible refine Sub.head6 ?_ | with_reducible refine Sub.head7 ?_ | with_reducible refine Sub.head8 ?_ | with_reducible refine Sub.head9 ?_ | with_reducible refine Sub.head10 ?_ | with_reducible refine Sub.head11 ?_ | with_reducible refine Sub.head12 ?_ | with_reducible refine Sub.head13 ?_ | with_reducible refine Sub.head14 ?_ | with_reducible refine Sub.head15 ?_ | with_reducible refine Sub.drop ?_)))) ?_
  rintro _ w ⟨rfl, hw⟩
  rw [e2] at hw ⊢
  refine ⟨_, rfl, ?_⟩
  refine rl_v rfl rfl rfl (S := fun _ => True) trivial (v_assign rfl) ?_
  refine rl_nil (g_le (Fr.le_keep (Fr.le_skip rfl (Fr.le_skip rfl (Fr.le_refl _)))) ?_)
  repeat (first | refine g_seq ?_ | refine g_skip ?_ | refine g_inBlock ?_ | refine g_block ?_ | refine g_label ?_)
  refine g_region ?_
  refine rl_v rfl rfl rfl (S := fun _ => True) trivial (v_move rfl) ?_
  refine rl_k rfl (k_callf Try.func36 rfl rfl rfl rfl ?_)
  refine Calls.mono (erase_calls c p _ _ _ o2 (hw.sub (by repeat (first | with_reducible exact Sub.refl _ | with_reducible exact Sub.last1 | with_reducible exact Sub.last2 | with_reducible exact Sub.last3 | with_reducible exact Sub.last4 | with_reducible exact Sub.last5 | with_reducible exact Sub.last6 | with_reducible exact Sub.last7 | with_reducible exact Sub.last8 | with_reducible exact Sub.last9 | with_reducible exact Sub.last10 | with_reducible exact Sub.last11 | with_reducible exact Sub.last12 | with_reducible exact Sub.last13 | with_reducible exact Sub.last14 | with_reducible exact Sub.last15 | with_reducible refine Sub.head0 ?_ | with_reducible refine Sub.head1 ?_ | with_reducible refine Sub.head2 ?_ | with_reducible refine Sub.head3 ?_ | with_reducible refine Sub.head4 ?_ | with_reducible refine Sub.head5 ?_ | with_reducible refine Sub.head6 ?_ | with_reducible refine Sub.head7 ?_ | with_reducible refine Sub.head8 ?_ | with_reducible refine Sub.head9 ?_ | with_reducible refine Sub.head10 ?_ | with_reducible refine Sub.head11 ?_ | with_reducible refine Sub.head12 ?_ | with_reducible refine Sub.head13 ?_ | with_reducible refine Sub.head14 ?_ | with_reducible refine Sub.head15 ?_ | with_reducible refine Sub.drop ?_)))) ?_
  rintro _ w ⟨rfl, hw⟩
  rw [e3] at hw ⊢
  refine ⟨_, rfl, ?_⟩
  refine rl_v rfl rfl rfl (S := fun _ => True) trivial (v_assign rfl) ?_
  refine rl_nil (g_le (Fr.le_keep (Fr.le_skip rfl (Fr.le_skip rfl (Fr.le_refl _)))) ?_)
  repeat (first | refine g_seq ?_ | refine g_skip ?_ | refine g_inBlock ?_ | refine g_block ?_ | refine g_label ?_)
  refine g_region ?_
  refine rl_v rfl rfl rfl (S := fun _ => True) trivial (v_move rfl) ?_
  refine rl_k rfl (k_callf Try.func39 rfl rfl rfl rfl ?_)
  refine Calls.mono (get_calls c p _ _ (hw.sub (by repeat (first | with_reducible exact Sub.refl _ | with_reducible exact Sub.last1 | with_reducible exact Sub.last2 | with_reducible exact Sub.last3 | with_reducible exact Sub.last4 | with_reducible exact Sub.last5 | with_reducible exact Sub.last6 | with_reducible exact Sub.last7 | with_reducible exact Sub.last8 | with_reducible exact Sub.last9 | with_reducible exact Sub.last10 | with_reducible exact Sub.last11 | with_reducible exact Sub.last12 | with_reducible exact Sub.last13 | with_reducible exact Sub.last14 | with_reducible exact Sub.last15 | with_reducible refine Sub.head0 ?_ | with_reducible refine Sub.head1 ?_ | with_reducible refine Sub.head2 ?_ | with_reducible refine Sub.head3 ?_ | with_reducible refine Sub.head4 ?_ | with_reducible refine Sub.head5 ?_ | with_reducible refine Sub.head6 ?_ | with_reducible refine Sub.head7 ?_ | with_reducible refine Sub.head8 ?_ | with_reducible refine Sub.head9 ?_ | with_reducible refine Sub.head10 ?_ | with_reducible refine Sub.head11 ?_ | with_reducible refine Sub.head12 ?_ | with_reducible refine Sub.head13 ?_ | with_reducible refine Sub.head14 ?_ | with_reducible refine Sub.head15 ?_ | with_reducible refine Sub.drop ?_)))) ?_
  rintro _ w ⟨rfl, hw⟩
  rw [e5]
  refine ⟨_, rfl, ?_⟩
  refine rl_v rfl rfl rfl (S := fun _ => True) trivial (v_move rfl) ?_
  refine rl_v rfl rfl rfl (S := fun _ => True) trivial (v_extract rfl rfl) ?_
  refine rl_v rfl rfl rfl (S := fun _ => True) trivial (v_extract rfl rfl) ?_
  refine rl_v rfl rfl rfl (S := fun _ => True) trivial (v_assign rfl) ?_
  refine rl_v rfl rfl rfl (S := fun _ => True) trivial (v_assign rfl) ?_
  refine rl_nil (g_le (Fr.le_keep (Fr.le_keep (Fr.le_skip rfl (Fr.le_skip rfl (Fr.le_skip rfl (Fr.le_skip rfl (Fr.le_skip rfl (Fr.le_refl _)))))))) ?_)
  repeat (first | refine g_seq ?_ | refine g_skip ?_ | refine g_inBlock ?_ | refine g_block ?_ | refine g_label ?_)
  refine g_region ?_
  refine rl_v rfl rfl rfl (S := fun _ => True) trivial (v_move rfl) ?_
  refine rl_k rfl (k_callf Try.func39 rfl rfl rfl rfl ?_)
  refine Calls.mono (get_calls c p _ _ (hw.sub (by repeat (first | with_reducible exact Sub.refl _ | with_reducible exact Sub.last1 | with_reducible exact Sub.last2 | with_reducible exact Sub.last3 | with_reducible exact Sub.last4 | with_reducible exact Sub.last5 | with_reducible exact Sub.last6 | with_reducible exact Sub.last7 | with_reducible exact Sub.last8 | with_reducible exact Sub.last9 | with_reducible exact Sub.last10 | with_reducible exact Sub.last11 | with_reducible exact Sub.last12 | with_reducible exact Sub.last13 | with_reducible exact Sub.last14 | with_reducible exact Sub.last15 | with_reducible refine Sub.head0 ?_ | with_reducible refine Sub.head1 ?_ | with_reducible refine Sub.head2 ?_ | with_reducible refine Sub.head3 ?_ | with_reducible refine Sub.head4 ?_ | with_reducible refine Sub.head5 ?_ | with_reducible refine Sub.head6 ?_ | with_reducible refine Sub.head7 ?_ | with_reducible refine Sub.head8 ?_ | with_reducible refine Sub.head9 ?_ | with_reducible refine Sub.head10 ?_ | with_reducible refine Sub.head11 ?_ | with_reducible refine Sub.head12 ?_ | with_reducible refine Sub.head13 ?_ | with_reducible refine Sub.head14 ?_ | with_reducible refine Sub.head15 ?_ | with_reducible refine Sub.drop ?_)))) ?_
  rintro _ w ⟨rfl, hw⟩
  rw [e6]
  refine ⟨_, rfl, ?_⟩
  refine rl_v rfl rfl rfl (S := fun _ => True) trivial (v_move rfl) ?_
  refine rl_v rfl rfl rfl (S := fun _ => True) trivial (v_extract rfl rfl) ?_
  refine rl_v rfl rfl rfl (S := fun _ => True) trivial (v_extract rfl rfl) ?_
  refine rl_v rfl rfl rfl (S := fun _ => True) trivial (v_assign rfl) ?_
  refine rl_v rfl rfl rfl (S := fun _ => True) trivial (v_assign rfl) ?_
  refine rl_nil (g_le (Fr.le_keep (Fr.le_skip rfl (Fr.le_skip rfl (Fr.le_skip rfl (Fr.le_skip rfl (Fr.le_skip rfl (Fr.le_skip rfl (Fr.le_refl _)))))))) ?_)
  repeat (first | refine g_seq ?_ | refine g_skip ?_ | refine g_inBlock ?_ | refine g_block ?_ | refine g_label ?_)
  refine g_region ?_
  refine rl_v rfl rfl rfl (S := fun _ => True) trivial (v_move rfl) ?_
  refine rl_k rfl (k_callf Try.func37 rfl rfl rfl rfl ?_)
  refine Calls.mono (slots_calls c p _ (hw.sub (by repeat (first | with_reducible exact Sub.refl _ | with_reducible exact Sub.last1 | with_reducible exact Sub.last2 | with_reducible exact Sub.last3 | with_reducible exact Sub.last4 | with_reducible exact Sub.last5 | with_reducible exact Sub.last6 | with_reducible exact Sub.last7 | with_reducible exact Sub.last8 | with_reducible exact Sub.last9 | with_reducible exact Sub.last10 | with_reducible exact Sub.last11 | with_reducible exact Sub.last12 | with_reducible exact Sub.last13 | with_reducible exact Sub.last14 | with_reducible exact Sub.last15 | with_reducible refine Sub.head0 ?_ | with_reducible refine Sub.head1 ?_ | with_reducible refine Sub.head2 ?_ | with_reducible refine Sub.head3 ?_ | with_reducible refine Sub.head4 ?_ | with_reducible refine Sub.head5 ?_ | with_reducible refine Sub.head6 ?_ | with_reducible refine Sub.head7 ?_ | with_reducible refine Sub.head8 ?_ | with_reducible refine Sub.head9 ?_ | with_reducible refine Sub.head10 ?_ | with_reducible refine Sub.head11 ?_ | with_reducible refine Sub.head12 ?_ | with_reducible refine Sub.head13 ?_ | with_reducible refine Sub.head14 ?_ | with_reducible refine Sub.head15 ?_ | with_reducible refine Sub.drop ?_)))) ?_
  rintro _ w ⟨v, rfl, hw⟩
  rw [e4] at hw
  refine ⟨_, rfl, ?_⟩
  refine rl_v rfl rfl rfl (S := fun _ => True) trivial (v_assign rfl) ?_
  refine rl_nil (g_le (Fr.le_keep (Fr.le_skip rfl (Fr.le_skip rfl (Fr.le_refl _)))) ?_)
  obtain ⟨a, k, rfl, _, _, ha⟩ := hw.own_shape
  obtain ⟨g, rfl⟩ := ha (by simp)
  unfold IntsAt at hw
  rw [show ([1] : List Int).length = 1 from rfl] at hw ⊢
  repeat (first | refine g_seq ?_ | refine g_skip ?_ | refine g_inBlock ?_ | refine g_block ?_ | refine g_label ?_)
  refine g_region ?_
  refine rl_v rfl rfl rfl (S := fun _ => True) trivial (v_move rfl) ?_
  first | (refine rl_v rfl rfl rfl (S := fun _ => True) trivial (v_eqlT rfl rfl (by first | omega | rfl)) ?_) | (refine rl_v rfl rfl rfl (S := fun _ => True) trivial (v_eqlF rfl rfl (by omega)) ?_) | (refine rl_v rfl rfl rfl (S := fun _ => True) trivial (v_eql rfl rfl) ?_)
  refine rl_v rfl rfl rfl (S := fun _ => True) trivial (v_move rfl) ?_
  first | (refine rl_vg (met_on rfl rfl rfl rfl) rfl rfl (S := fun _ => True) trivial (v_move rfl) ?_) | (refine rl_off (met_off rfl rfl rfl rfl rfl) rfl rfl ?_)
  first | (refine rl_vg (met_on rfl rfl rfl rfl) rfl rfl (S := fun _ => True) trivial (v_eqlT rfl rfl (by first | omega | rfl)) ?_) | (refine rl_vg (met_on rfl rfl rfl rfl) rfl rfl (S := fun _ => True) trivial (v_eqlF rfl rfl (by omega)) ?_) | (refine rl_vg (met_on rfl rfl rfl rfl) rfl rfl (S := fun _ => True) trivial (v_eql rfl rfl) ?_) | (refine rl_off (met_off rfl rfl rfl rfl rfl) rfl rfl ?_)
  first | (refine rl_v rfl rfl rfl (S := fun _ => True) trivial (v_pick_true rfl rfl) ?_) | (refine rl_v rfl rfl rfl (S := fun _ => True) trivial (v_pick_false rfl rfl) ?_) | (refine rl_v rfl rfl rfl (S := fun _ => True) trivial (v_pick rfl rfl rfl) ?_)
  refine rl_v rfl rfl rfl (S := fun _ => True) trivial (v_move rfl) ?_
  first | (refine rl_vg (met_on rfl rfl rfl rfl) rfl rfl (S := fun _ => True) trivial (v_move rfl) ?_) | (refine rl_off (met_off rfl rfl rfl rfl rfl) rfl rfl ?_)
  first | (refine rl_vg (met_on rfl rfl rfl rfl) rfl rfl (S := fun _ => True) trivial (v_eqlT rfl rfl (by first | omega | rfl)) ?_) | (refine rl_vg (met_on rfl rfl rfl rfl) rfl rfl (S := fun _ => True) trivial (v_eqlF rfl rfl (by omega)) ?_) | (refine rl_vg (met_on rfl rfl rfl rfl) rfl rfl (S := fun _ => True) trivial (v_eql rfl rfl) ?_) | (refine rl_off (met_off rfl rfl rfl rfl rfl) rfl rfl ?_)
  first | (refine rl_v rfl rfl rfl (S := fun _ => True) trivial (v_pick_true rfl rfl) ?_) | (refine rl_v rfl rfl rfl (S := fun _ => True) trivial (v_pick_false rfl rfl) ?_) | (refine rl_v rfl rfl rfl (S := fun _ => True) trivial (v_pick rfl rfl rfl) ?_)
  refine rl_v rfl rfl rfl (S := fun _ => True) trivial (v_move rfl) ?_
  first | (refine rl_vg (met_on rfl rfl rfl rfl) rfl rfl (S := fun _ => True) trivial (v_move rfl) ?_) | (refine rl_off (met_off rfl rfl rfl rfl rfl) rfl rfl ?_)
  first | (refine rl_vg (met_on rfl rfl rfl rfl) rfl rfl (S := fun _ => True) trivial (v_eqlStrT rfl rfl (by first | rfl | assumption)) ?_) | (refine rl_vg (met_on rfl rfl rfl rfl) rfl rfl (S := fun _ => True) trivial (v_eqlStrF rfl rfl (by first | assumption | decide)) ?_) | (refine rl_vg (met_on rfl rfl rfl rfl) rfl rfl (S := fun _ => True) trivial (v_eqlStr rfl rfl) ?_) | (refine rl_off (met_off rfl rfl rfl rfl rfl) rfl rfl ?_)
  first | (refine rl_v rfl rfl rfl (S := fun _ => True) trivial (v_pick_true rfl rfl) ?_) | (refine rl_v rfl rfl rfl (S := fun _ => True) trivial (v_pick_false rfl rfl) ?_) | (refine rl_v rfl rfl rfl (S := fun _ => True) trivial (v_pick rfl rfl rfl) ?_)
  refine rl_v rfl rfl rfl (S := fun _ => True) trivial (v_move rfl) ?_
  first | (refine rl_vg (met_on rfl rfl rfl rfl) rfl rfl (S := fun _ => True) trivial (v_move rfl) ?_) | (refine rl_off (met_off rfl rfl rfl rfl rfl) rfl rfl ?_)
  first | (refine rl_v rfl rfl rfl (S := fun _ => True) trivial (v_pick_true rfl rfl) ?_) | (refine rl_v rfl rfl rfl (S := fun _ => True) trivial (v_pick_false rfl rfl) ?_) | (refine rl_v rfl rfl rfl (S := fun _ => True) trivial (v_pick rfl rfl rfl) ?_)
  refine rl_v rfl rfl rfl (S := fun _ => True) trivial (v_move rfl) ?_
  first | (refine rl_vg (met_on rfl rfl rfl rfl) rfl rfl (S := fun _ => True) trivial (v_move rfl) ?_) | (refine rl_off (met_off rfl rfl rfl rfl rfl) rfl rfl ?_)
  first | (refine rl_vg (met_on rfl rfl rfl rfl) rfl rfl (S := fun _ => True) trivial (v_not rfl) ?_) | (refine rl_off (met_off rfl rfl rfl rfl rfl) rfl rfl ?_)
  first | (refine rl_v rfl rfl rfl (S := fun _ => True) trivial (v_pick_true rfl rfl) ?_) | (refine rl_v rfl rfl rfl (S := fun _ => True) trivial (v_pick_false rfl rfl) ?_) | (refine rl_v rfl rfl rfl (S := fun _ => True) trivial (v_pick rfl rfl rfl) ?_)
  refine rl_v rfl rfl rfl (S := fun _ => True) trivial (v_move rfl) ?_
  first | (refine rl_vg (met_on rfl rfl rfl rfl) rfl rfl (S := fun _ => True) trivial (v_move rfl) ?_) | (refine rl_off (met_off rfl rfl rfl rfl rfl) rfl rfl ?_)
  first | (refine rl_vg (met_on rfl rfl rfl rfl) rfl rfl (S := fun _ => True) trivial (v_lenSlice T.sl_74_3_1 rfl) ?_) | (refine rl_off (met_off rfl rfl rfl rfl rfl) rfl rfl ?_)
  first | (refine rl_vg (met_on rfl rfl rfl rfl) rfl rfl (S := fun _ => True) trivial (v_eqlT rfl rfl (by first | omega | rfl)) ?_) | (refine rl_vg (met_on rfl rfl rfl rfl) rfl rfl (S := fun _ => True) trivial (v_eqlF rfl rfl (by omega)) ?_) | (refine rl_vg (met_on rfl rfl rfl rfl) rfl rfl (S := fun _ => True) trivial (v_eql rfl rfl) ?_) | (refine rl_off (met_off rfl rfl rfl rfl rfl) rfl rfl ?_)
  first | (refine rl_v rfl rfl rfl (S := fun _ => True) trivial (v_pick_true rfl rfl) ?_) | (refine rl_v rfl rfl rfl (S := fun _ => True) trivial (v_pick_false rfl rfl) ?_) | (refine rl_v rfl rfl rfl (S := fun _ => True) trivial (v_pick rfl rfl rfl) ?_)
  refine rl_v rfl rfl rfl (S := fun _ => True) trivial (v_move rfl) ?_
  first | (refine rl_vg (met_on rfl rfl rfl rfl) rfl rfl (S := fun _ => True) trivial (v_move rfl) ?_) | (refine rl_off (met_off rfl rfl rfl rfl rfl) rfl rfl ?_)
  first | (refine rl_vg (met_on rfl rfl rfl rfl) rfl rfl (S := fun _ => True) trivial (v_indexAddr T.sl_74_3_1 rfl rfl (by omega) (by omega)) ?_) | (refine rl_off (met_off rfl rfl rfl rfl rfl) rfl rfl ?_)
  first | (refine rl_vg (met_on rfl rfl rfl rfl) rfl rfl (by first | exact sat_cell hw (by first | with_reducible exact Pick.at0 | with_reducible exact Pick.at1 | with_reducible exact Pick.at2 | with_reducible exact Pick.at3 | with_reducible exact Pick.at4 | with_reducible exact Pick.at5 | with_reducible exact Pick.at6 | with_reducible exact Pick.at7 | with_reducible exact Pick.at8 | with_reducible exact Pick.at9 | with_reducible exact Pick.at10 | with_reducible exact Pick.at11 | with_reducible exact Pick.at12 | with_reducible exact Pick.at13 | with_reducible exact Pick.at14 | with_reducible exact Pick.at15) rfl | exact own_cell hw (by first | with_reducible exact Pick.at0 | with_reducible exact Pick.at1 | with_reducible exact Pick.at2 | with_reducible exact Pick.at3 | with_reducible exact Pick.at4 | with_reducible exact Pick.at5 | with_reducible exact Pick.at6 | with_reducible exact Pick.at7 | with_reducible exact Pick.at8 | with_reducible exact Pick.at9 | with_reducible exact Pick.at10 | with_reducible exact Pick.at11 | with_reducible exact Pick.at12 | with_reducible exact Pick.at13 | with_reducible exact Pick.at14 | with_reducible exact Pick.at15) (by first | rfl | assumption) | exact old_cell hw (by first | with_reducible exact Pick.at0 | with_reducible exact Pick.at1 | with_reducible exact Pick.at2 | with_reducible exact Pick.at3 | with_reducible exact Pick.at4 | with_reducible exact Pick.at5 | with_reducible exact Pick.at6 | with_reducible exact Pick.at7 | with_reducible exact Pick.at8 | with_reducible exact Pick.at9 | with_reducible exact Pick.at10 | with_reducible exact Pick.at11 | with_reducible exact Pick.at12 | with_reducible exact Pick.at13 | with_reducible exact Pick.at14 | with_reducible exact Pick.at15) (by assumption)) (v_load T.scal_3 rfl) ?_) | (refine rl_off (met_off rfl rfl rfl rfl rfl) rfl rfl ?_)
  first | (refine rl_vg (met_on rfl rfl rfl rfl) rfl rfl (S := fun _ => True) trivial (v_eqlT rfl rfl (by first | omega | rfl)) ?_) | (refine rl_vg (met_on rfl rfl rfl rfl) rfl rfl (S := fun _ => True) trivial (v_eqlF rfl rfl (by omega)) ?_) | (refine rl_vg (met_on rfl rfl rfl rfl) rfl rfl (S := fun _ => True) trivial (v_eql rfl rfl) ?_) | (refine rl_off (met_off rfl rfl rfl rfl rfl) rfl rfl ?_)
  first | (refine rl_v rfl rfl rfl (S := fun _ => True) trivial (v_pick_true rfl rfl) ?_) | (refine rl_v rfl rfl rfl (S := fun _ => True) trivial (v_pick_false rfl rfl) ?_) | (refine rl_v rfl rfl rfl (S := fun _ => True) trivial (v_pick rfl rfl rfl) ?_)
  refine rl_v rfl rfl rfl (S := fun _ => True) trivial (v_move rfl) ?_
  first | (refine rl_vg (met_on rfl rfl rfl rfl) rfl rfl (S := fun _ => True) trivial (v_move rfl) ?_) | (refine rl_off (met_off rfl rfl rfl rfl rfl) rfl rfl ?_)
  first | (refine rl_kg (met_on rfl rfl rfl rfl) (k_callf Try.func42 rfl rfl rfl rfl ?_); refine Calls.mono (count_calls c p _ (hw.pick (by first | with_reducible exact Pick.at0 | with_reducible exact Pick.at1 | with_reducible exact Pick.at2 | with_reducible exact Pick.at3 | with_reducible exact Pick.at4 | with_reducible exact Pick.at5 | with_reducible exact Pick.at6 | with_reducible exact Pick.at7 | with_reducible exact Pick.at8 | with_reducible exact Pick.at9 | with_reducible exact Pick.at10 | with_reducible exact Pick.at11 | with_reducible exact Pick.at12 | with_reducible exact Pick.at13 | with_reducible exact Pick.at14 | with_reducible exact Pick.at15))) ?_; rintro _ w ⟨rfl, hw⟩; refine ⟨_, rfl, ?_⟩) | (refine rl_off (met_off rfl rfl rfl rfl rfl) rfl rfl ?_)
  first | (refine rl_vg (met_on rfl rfl rfl rfl) rfl rfl (S := fun _ => True) trivial (v_eqlT rfl rfl (by first | omega | rfl)) ?_) | (refine rl_vg (met_on rfl rfl rfl rfl) rfl rfl (S := fun _ => True) trivial (v_eqlF rfl rfl (by omega)) ?_) | (refine rl_vg (met_on rfl rfl rfl rfl) rfl rfl (S := fun _ => True) trivial (v_eql rfl rfl) ?_) | (refine rl_off (met_off rfl rfl rfl rfl rfl) rfl rfl ?_)
  first | (refine rl_v rfl rfl rfl (S := fun _ => True) trivial (v_pick_true rfl rfl) ?_) | (refine rl_v rfl rfl rfl (S := fun _ => True) trivial (v_pick_false rfl rfl) ?_) | (refine rl_v rfl rfl rfl (S := fun _ => True) trivial (v_pick rfl rfl rfl) ?_)
  refine rl_v rfl rfl rfl (S := fun _ => True) trivial (v_move rfl) ?_
  first | (refine rl_vg (met_on rfl rfl rfl rfl) rfl rfl (S := fun _ => True) trivial (v_move rfl) ?_) | (refine rl_off (met_off rfl rfl rfl rfl rfl) rfl rfl ?_)
  first | (refine rl_vg (met_on rfl rfl rfl rfl) rfl rfl (S := fun _ => True) trivial (v_nilCheck rfl) ?_) | (refine rl_off (met_off rfl rfl rfl rfl rfl) rfl rfl ?_)
  first | (refine rl_vg (met_on rfl rfl rfl rfl) rfl rfl (S := fun _ => True) trivial (v_fieldAddr0 T.fld_72_0_0 rfl) ?_) | (refine rl_vg (met_on rfl rfl rfl rfl) rfl rfl (S := fun _ => True) trivial (v_fieldAddr T.fld_72_0_0 rfl) ?_) | (refine rl_off (met_off rfl rfl rfl rfl rfl) rfl rfl ?_)
  first | (refine rl_vg (met_on rfl rfl rfl rfl) rfl rfl (by first | exact sat_cell hw (by first | with_reducible exact Pick.at0 | with_reducible exact Pick.at1 | with_reducible exact Pick.at2 | with_reducible exact Pick.at3 | with_reducible exact Pick.at4 | with_reducible exact Pick.at5 | with_reducible exact Pick.at6 | with_reducible exact Pick.at7 | with_reducible exact Pick.at8 | with_reducible exact Pick.at9 | with_reducible exact Pick.at10 | with_reducible exact Pick.at11 | with_reducible exact Pick.at12 | with_reducible exact Pick.at13 | with_reducible exact Pick.at14 | with_reducible exact Pick.at15) rfl | exact own_cell hw (by first | with_reducible exact Pick.at0 | with_reducible exact Pick.at1 | with_reducible exact Pick.at2 | with_reducible exact Pick.at3 | with_reducible exact Pick.at4 | with_reducible exact Pick.at5 | with_reducible exact Pick.at6 | with_reducible exact Pick.at7 | with_reducible exact Pick.at8 | with_reducible exact Pick.at9 | with_reducible exact Pick.at10 | with_reducible exact Pick.at11 | with_reducible exact Pick.at12 | with_reducible exact Pick.at13 | with_reducible exact Pick.at14 | with_reducible exact Pick.at15) (by first | rfl | assumption) | exact old_cell hw (by first | with_reducible exact Pick.at0 | with_reducible exact Pick.at1 | with_reducible exact Pick.at2 | with_reducible exact Pick.at3 | with_reducible exact Pick.at4 | with_reducible exact Pick.at5 | with_reducible exact Pick.at6 | with_reducible exact Pick.at7 | with_reducible exact Pick.at8 | with_reducible exact Pick.at9 | with_reducible exact Pick.at10 | with_reducible exact Pick.at11 | with_reducible exact Pick.at12 | with_reducible exact Pick.at13 | with_reducible exact Pick.at14 | with_reducible exact Pick.at15) (by assumption)) (v_load T.scal_24 rfl) ?_) | (refine rl_off (met_off rfl rfl rfl rfl rfl) rfl rfl ?_)
  first | (refine rl_kg (met_on rfl rfl rfl rfl) (k_callf Try.func17 rfl rfl rfl rfl ?_); refine Calls.mono (writes_calls p _ (hw.pick (by first | with_reducible exact Pick.at0 | with_reducible exact Pick.at1 | with_reducible exact Pick.at2 | with_reducible exact Pick.at3 | with_reducible exact Pick.at4 | with_reducible exact Pick.at5 | with_reducible exact Pick.at6 | with_reducible exact Pick.at7 | with_reducible exact Pick.at8 | with_reducible exact Pick.at9 | with_reducible exact Pick.at10 | with_reducible exact Pick.at11 | with_reducible exact Pick.at12 | with_reducible exact Pick.at13 | with_reducible exact Pick.at14 | with_reducible exact Pick.at15))) ?_; rintro _ w ⟨rfl, hw⟩; refine ⟨_, rfl, ?_⟩) | (refine rl_off (met_off rfl rfl rfl rfl rfl) rfl rfl ?_)
  first | (refine rl_vg (met_on rfl rfl rfl rfl) rfl rfl (S := fun _ => True) trivial (v_eqlT rfl rfl (by first | omega | rfl)) ?_) | (refine rl_vg (met_on rfl rfl rfl rfl) rfl rfl (S := fun _ => True) trivial (v_eqlF rfl rfl (by omega)) ?_) | (refine rl_vg (met_on rfl rfl rfl rfl) rfl rfl (S := fun _ => True) trivial (v_eql rfl rfl) ?_) | (refine rl_off (met_off rfl rfl rfl rfl rfl) rfl rfl ?_)
  first | (refine rl_v rfl rfl rfl (S := fun _ => True) trivial (v_pick_true rfl rfl) ?_) | (refine rl_v rfl rfl rfl (S := fun _ => True) trivial (v_pick_false rfl rfl) ?_) | (refine rl_v rfl rfl rfl (S := fun _ => True) trivial (v_pick rfl rfl rfl) ?_)
  refine rl_v rfl rfl rfl (S := fun _ => True) trivial (v_assign rfl) ?_
  refine rl_nil (g_le (Fr.le_keep (Fr.le_skip rfl (Fr.le_skip rfl (Fr.le_skip rfl (Fr.le_skip rfl (Fr.le_skip rfl (Fr.le_skip rfl (Fr.le_skip rfl (Fr.le_skip rfl (Fr.le_skip rfl (Fr.le_skip rfl (Fr.le_skip rfl (Fr.le_skip rfl (Fr.le_skip rfl (Fr.le_skip rfl (Fr.le_skip rfl (Fr.le_skip rfl (Fr.le_skip rfl (Fr.le_skip rfl (Fr.le_skip rfl (Fr.le_skip rfl (Fr.le_skip rfl (Fr.le_skip rfl (Fr.le_skip rfl (Fr.le_skip rfl (Fr.le_skip rfl (Fr.le_skip rfl (Fr.le_skip rfl (Fr.le_skip rfl (Fr.le_skip rfl (Fr.le_skip rfl (Fr.le_skip rfl (Fr.le_skip rfl (Fr.le_skip rfl (Fr.le_skip rfl (Fr.le_skip rfl (Fr.le_skip rfl (Fr.le_skip rfl (Fr.le_skip rfl (Fr.le_skip rfl (Fr.le_skip rfl (Fr.le_skip rfl (Fr.le_skip rfl (Fr.le_skip rfl (Fr.le_skip rfl (Fr.le_skip rfl (Fr.le_refl _))))))))))))))))))))))))))))))))))))))))))))))) ?_)
  refine g_ret1 Try.func32 rfl rfl ?_
  exact ⟨rfl, hw.sub (by repeat (first | with_reducible exact Sub.refl _ | with_reducible exact Sub.last1 | with_reducible exact Sub.last2 | with_reducible exact Sub.last3 | with_reducible exact Sub.last4 | with_reducible exact Sub.last5 | with_reducible exact Sub.last6 | with_reducible exact Sub.last7 | with_reducible exact Sub.last8 | with_reducible exact Sub.last9 | with_reducible exact Sub.last10 | with_reducible exact Sub.last11 | with_reducible exact Sub.last12 | with_reducible exact Sub.last13 | with_reducible exact Sub.last14 | with_reducible exact Sub.last15 | with_reducible refine Sub.head0 ?_ | with_reducible refine Sub.head1 ?_ | with_reducible refine Sub.head2 ?_ | with_reducible refine Sub.head3 ?_ | with_reducible refine Sub.head4 ?_ | with_reducible refine Sub.head5 ?_ | with_reducible refine Sub.head6 ?_ | with_reducible refine Sub.head7 ?_ | with_reducible refine Sub.head8 ?_ | with_reducible refine Sub.head9 ?_ | with_reducible refine Sub.head10 ?_ | with_reducible refine Sub.head11 ?_ | with_reducible refine Sub.head12 ?_ | with_reducible refine Sub.head13 ?_ | with_reducible refine Sub.head14 ?_ | with_reducible refine Sub.head15 ?_ | with_reducible refine Sub.drop ?_))⟩

/-- Element i of a row of calls. -/
theorem op13_at {w : World} {a : Option Addr} {len cap : Nat} {xs : List Op13} (h : rdArg (rdSl 40 4 rdOp13) w (.slice a len cap) xs) (i : Int) (h0 : 0 ≤ i) (h1 : i < len) :
    ∃ b o kind on slot str, a = some ⟨b, o, none⟩ ∧ CellsAt w b (o + i.toNat * 4) [.int .i64 kind, .bool on, .int .i64 slot, .string str] ∧ w.cell? ⟨b, o + i.toNat * 4 + 1, none⟩ = some (.bool on) := by
  obtain ⟨_, _, _, hat⟩ := rdSl_at h
  obtain ⟨b, o, x, ecs, rfl, _, h2, _, ⟨c0, c1, c2, c3, rfl, ⟨h3, _⟩, h4, ⟨h5, _⟩, ⟨h6, _⟩⟩, _⟩ := hat i h0 h1
  simp only [rdBool, List.cons.injEq, and_true] at h3 h4 h5 h6
  subst h3; subst h4; subst h5; subst h6
  exact ⟨b, o, _, _, _, _, rfl, h2, h2.get 1 _ rfl⟩

theorem CellPlays_law {w : World} {a : Option Addr} {len cap : Nat} {xs : List Op13} (hr : rdArg (rdSl 40 4 rdOp13) w (.slice a len cap) xs) :
    Law Try.prog 8 [.slice a len cap] w := by
  unfold Law
  have hw := Sat.old w
  generalize w = W at hr hw ⊢
  refine calls_of_g (n := 86) Try.func8 rfl rfl rfl ?_
  change G _ _ _ _ _ [(0, _)] _
  repeat (first | refine g_seq ?_ | refine g_skip ?_ | refine g_inBlock ?_ | refine g_block ?_ | refine g_label ?_)
  refine g_region ?_
  refine rl_v rfl rfl rfl (S := fun _ => True) trivial (v_assign rfl) ?_
  refine rl_nil (g_le (Fr.le_keep (Fr.le_refl _)) ?_)
  repeat (first | refine g_seq ?_ | refine g_skip ?_ | refine g_inBlock ?_ | refine g_block ?_ | refine g_label ?_)
  refine g_region ?_
  refine rl_k rfl (k_callf Try.func32 rfl rfl rfl rfl ?_)
  refine Calls.mono (awake13_calls hw) ?_
  rintro _ w ⟨rfl, hw⟩
  refine ⟨_, rfl, ?_⟩
  refine rl_v rfl rfl rfl (S := fun _ => True) trivial (v_assign rfl) ?_
  refine rl_nil (g_le (Fr.le_keep (Fr.le_skip rfl (Fr.le_refl _))) ?_)
  repeat (first | refine g_seq ?_ | refine g_skip ?_ | refine g_inBlock ?_ | refine g_block ?_ | refine g_label ?_)
  refine g_region ?_
  refine rl_k rfl (k_callf Try.func12 rfl rfl rfl rfl ?_)
  refine Calls.mono (new_calls hw) ?_
  rintro _ w ⟨p, rfl, hw⟩
  refine ⟨_, rfl, ?_⟩
  refine rl_v rfl rfl rfl (S := fun _ => True) trivial (v_assign rfl) ?_
  refine rl_nil (g_le (Fr.le_keep (Fr.le_skip rfl (Fr.le_refl _))) ?_)
  repeat (first | refine g_seq ?_ | refine g_skip ?_ | refine g_inBlock ?_ | refine g_block ?_ | refine g_label ?_)
  refine g_region ?_
  refine rl_v rfl rfl rfl (S := fun _ => True) trivial (v_move rfl) ?_
  refine rl_k rfl (k_callf Try.func33 rfl rfl rfl rfl ?_)
  refine Calls.mono (cnew_calls p hw) ?_
  rintro _ w ⟨c, rfl, hw⟩
  refine ⟨_, rfl, ?_⟩
  refine rl_v rfl rfl rfl (S := fun _ => True) trivial (v_assign rfl) ?_
  refine rl_nil (g_le (Fr.le_keep (Fr.le_skip rfl (Fr.le_skip rfl (Fr.le_refl _)))) ?_)
  repeat (first | refine g_seq ?_ | refine g_skip ?_ | refine g_inBlock ?_ | refine g_block ?_ | refine g_label ?_)
  refine g_region ?_
  refine rl_v rfl rfl rfl (S := fun _ => True) trivial (v_move rfl) ?_
  refine rl_k rfl (k_callf Try.func33 rfl rfl rfl rfl ?_)
  refine Calls.mono (cnew_calls p hw) ?_
  rintro _ w ⟨c', rfl, hw⟩
  refine ⟨_, rfl, ?_⟩
  refine rl_v rfl rfl rfl (S := fun _ => True) trivial (v_assign rfl) ?_
  refine rl_nil (g_le (Fr.le_keep (Fr.le_skip rfl (Fr.le_skip rfl (Fr.le_refl _)))) ?_)
  repeat (first | refine g_seq ?_ | refine g_skip ?_ | refine g_inBlock ?_ | refine g_block ?_ | refine g_label ?_)
  refine g_region ?_
  refine rl_k rfl (k_callf Try.func33 rfl rfl rfl rfl ?_)
  refine Calls.mono (cnil_calls hw) ?_
  rintro _ w ⟨rfl, hw⟩
  refine ⟨_, rfl, ?_⟩
  refine rl_v rfl rfl rfl (S := fun _ => True) trivial (v_assign rfl) ?_
  refine rl_nil (g_le (Fr.le_keep (Fr.le_skip rfl (Fr.le_refl _))) ?_)
  repeat (first | refine g_seq ?_ | refine g_skip ?_ | refine g_inBlock ?_ | refine g_block ?_ | refine g_label ?_)
  refine g_region ?_
  refine rl_v rfl rfl rfl (S := fun _ => True) trivial (v_move rfl) ?_
  refine rl_v rfl rfl rfl (S := fun _ => True) trivial (v_not rfl) ?_
  refine rl_v rfl rfl rfl (S := fun _ => True) trivial (v_move rfl) ?_
  first | (refine rl_vg (met_on rfl rfl rfl rfl) rfl rfl (S := fun _ => True) trivial (v_move rfl) ?_) | (refine rl_off (met_off rfl rfl rfl rfl rfl) rfl rfl ?_)
  first | (refine rl_vg (met_on rfl rfl rfl rfl) rfl rfl (S := fun _ => True) trivial (v_eqlNil T.ptr_63 rfl rfl) ?_) | (refine rl_off (met_off rfl rfl rfl rfl rfl) rfl rfl ?_)
  first | (refine rl_v rfl rfl rfl (S := fun _ => True) trivial (v_pick_true rfl rfl) ?_) | (refine rl_v rfl rfl rfl (S := fun _ => True) trivial (v_pick_false rfl rfl) ?_) | (refine rl_v rfl rfl rfl (S := fun _ => True) trivial (v_pick rfl rfl rfl) ?_)
  refine rl_v rfl rfl rfl (S := fun _ => True) trivial (v_move rfl) ?_
  first | (refine rl_vg (met_on rfl rfl rfl rfl) rfl rfl (S := fun _ => True) trivial (v_move rfl) ?_) | (refine rl_off (met_off rfl rfl rfl rfl rfl) rfl rfl ?_)
  first | (refine rl_vg (met_on rfl rfl rfl rfl) rfl rfl (S := fun _ => True) trivial (v_eqlNil T.ptr_63 rfl rfl) ?_) | (refine rl_off (met_off rfl rfl rfl rfl rfl) rfl rfl ?_)
  first | (refine rl_v rfl rfl rfl (S := fun _ => True) trivial (v_pick_true rfl rfl) ?_) | (refine rl_v rfl rfl rfl (S := fun _ => True) trivial (v_pick_false rfl rfl) ?_) | (refine rl_v rfl rfl rfl (S := fun _ => True) trivial (v_pick rfl rfl rfl) ?_)
  refine rl_v rfl rfl rfl (S := fun _ => True) trivial (v_move rfl) ?_
  first | (refine rl_vg (met_on rfl rfl rfl rfl) rfl rfl (S := fun _ => True) trivial (v_move rfl) ?_) | (refine rl_off (met_off rfl rfl rfl rfl rfl) rfl rfl ?_)
  first | (refine rl_vg (met_on rfl rfl rfl rfl) rfl rfl (S := fun _ => True) trivial (v_neqNil T.ptr_63 rfl rfl) ?_) | (refine rl_off (met_off rfl rfl rfl rfl rfl) rfl rfl ?_)
  first | (refine rl_v rfl rfl rfl (S := fun _ => True) trivial (v_pick_true rfl rfl) ?_) | (refine rl_v rfl rfl rfl (S := fun _ => True) trivial (v_pick_false rfl rfl) ?_) | (refine rl_v rfl rfl rfl (S := fun _ => True) trivial (v_pick rfl rfl rfl) ?_)
  refine rl_nil (g_le (Fr.le_keep (Fr.le_skip rfl (Fr.le_skip rfl (Fr.le_skip rfl (Fr.le_skip rfl (Fr.le_skip rfl (Fr.le_skip rfl (Fr.le_skip rfl (Fr.le_skip rfl (Fr.le_skip rfl (Fr.le_skip rfl (Fr.le_skip rfl (Fr.le_skip rfl (Fr.le_skip rfl (Fr.le_refl _))))))))))))))) ?_)
  repeat (first | refine g_seq ?_ | refine g_skip ?_ | refine g_inBlock ?_ | refine g_block ?_ | refine g_label ?_)
  refine g_cond_false rfl ?_
  repeat (first | refine g_seq ?_ | refine g_skip ?_ | refine g_inBlock ?_ | refine g_block ?_ | refine g_label ?_)
  refine g_region ?_
  refine rl_k rfl (k_callf Try.func13 rfl rfl rfl rfl ?_)
  refine Calls.mono (rnew_calls hw) ?_
  rintro _ w ⟨q, rfl, hw⟩
  refine ⟨_, rfl, ?_⟩
  refine rl_v rfl rfl rfl (S := fun _ => True) trivial (v_assign rfl) ?_
  refine rl_nil (g_le (Fr.le_keep (Fr.le_skip rfl (Fr.le_refl _))) ?_)
  repeat (first | refine g_seq ?_ | refine g_skip ?_ | refine g_inBlock ?_ | refine g_block ?_ | refine g_label ?_)
  refine g_region ?_
  refine rl_v rfl rfl rfl (S := fun _ => True) trivial (v_move rfl) ?_
  refine rl_k rfl (k_callf Try.func34 rfl rfl rfl rfl ?_)
  refine Calls.mono (rcnew_calls q hw) ?_
  rintro _ w ⟨d, rfl, hw⟩
  refine ⟨_, rfl, ?_⟩
  refine rl_v rfl rfl rfl (S := fun _ => True) trivial (v_assign rfl) ?_
  refine rl_nil (g_le (Fr.le_keep (Fr.le_skip rfl (Fr.le_skip rfl (Fr.le_refl _)))) ?_)
  repeat (first | refine g_seq ?_ | refine g_skip ?_ | refine g_inBlock ?_ | refine g_block ?_ | refine g_label ?_)
  refine g_region ?_
  refine rl_v rfl rfl rfl (S := fun _ => True) trivial (v_move rfl) ?_
  refine rl_k rfl (k_callf Try.func34 rfl rfl rfl rfl ?_)
  refine Calls.mono (rcnew_calls q hw) ?_
  rintro _ w ⟨d', rfl, hw⟩
  refine ⟨_, rfl, ?_⟩
  refine rl_v rfl rfl rfl (S := fun _ => True) trivial (v_assign rfl) ?_
  refine rl_nil (g_le (Fr.le_keep (Fr.le_skip rfl (Fr.le_skip rfl (Fr.le_refl _)))) ?_)
  repeat (first | refine g_seq ?_ | refine g_skip ?_ | refine g_inBlock ?_ | refine g_block ?_ | refine g_label ?_)
  refine g_region ?_
  refine rl_v rfl rfl rfl (S := fun _ => True) trivial (v_assign rfl) ?_
  refine rl_nil (g_le (Fr.le_keep (Fr.le_refl _)) ?_)
  repeat (first | refine g_seq ?_ | refine g_skip ?_ | refine g_inBlock ?_ | refine g_block ?_ | refine g_label ?_)
  obtain ⟨_, hcap, hlc, _⟩ := rdSl_at hr
  have hmax : (len : Int) ≤ 140737488351232 := by unfold reachBytes at hcap; omega
  refine g_loop (σ := Int × Cs × Cs × Pw) (fun x => [(11, .int .i64 x.1), (0, _), (5, _), (6, _), (9, _), (10, _)])
    (fun x w => 0 ≤ x.1 ∧ x.1 ≤ len ∧ Pw.ok x.2.2.2 ∧ Sat (envOf W) w [CellAt c p x.2.1, RcAt d q x.2.1, CellAt c' p x.2.2.1, RcAt d' q x.2.2.1, PwAt p x.2.2.2, RwAt q x.2.2.2.ref, Old W]) (fun x => (len - x.1).toNat) ?round
    (0, ⟨nil, nil, 0⟩, ⟨nil, nil, 0⟩, ⟨false, 0, 0⟩) (by repeat (first | exact Fr.le_nil _ | refine Fr.le_cons rfl ?_)) ⟨by simp, by simp, Pw.ok_new, hw.sub (by repeat (first | with_reducible exact Sub.refl _ | with_reducible exact Sub.last1 | with_reducible exact Sub.last2 | with_reducible exact Sub.last3 | with_reducible exact Sub.last4 | with_reducible exact Sub.last5 | with_reducible exact Sub.last6 | with_reducible exact Sub.last7 | with_reducible exact Sub.last8 | with_reducible exact Sub.last9 | with_reducible exact Sub.last10 | with_reducible exact Sub.last11 | with_reducible exact Sub.last12 | with_reducible exact Sub.last13 | with_reducible exact Sub.last14 | with_reducible exact Sub.last15 | with_reducible refine Sub.head0 ?_ | with_reducible refine Sub.head1 ?_ | with_reducible refine Sub.head2 ?_ | with_reducible refine Sub.head3 ?_ | with_reducible refine Sub.head4 ?_ | with_reducible refine Sub.head5 ?_ | with_reducible refine Sub.head6 ?_ | with_reducible refine Sub.head7 ?_ | with_reducible refine Sub.head8 ?_ | with_reducible refine Sub.head9 ?_ | with_reducible refine Sub.head10 ?_ | with_reducible refine Sub.head11 ?_ | with_reducible refine Sub.head12 ?_ | with_reducible refine Sub.head13 ?_ | with_reducible refine Sub.head14 ?_ | with_reducible refine Sub.head15 ?_ | with_reducible refine Sub.drop ?_))⟩
  rintro ⟨i, s, s', pw⟩ w ⟨hi0, hi1, hok, hw⟩ ih
  dsimp only at hi0 hi1 hok hw ⊢
  repeat (first | refine g_seq ?_ | refine g_skip ?_ | refine g_inBlock ?_ | refine g_block ?_ | refine g_label ?_)
  refine g_region ?_
  refine rl_v rfl rfl rfl (S := fun _ => True) trivial (v_move rfl) ?_
  refine rl_v rfl rfl rfl (S := fun _ => True) trivial (v_move rfl) ?_
  refine rl_v rfl rfl rfl (S := fun _ => True) trivial (v_lenSlice T.sl_62_69_4 rfl) ?_
  first | (refine rl_v rfl rfl rfl (S := fun _ => True) trivial (v_lssT rfl rfl (by omega)) ?_) | (refine rl_v rfl rfl rfl (S := fun _ => True) trivial (v_lssF rfl rfl (by omega)) ?_) | (refine rl_v rfl rfl rfl (S := fun _ => True) trivial (v_lss rfl rfl) ?_)
  refine rl_nil (g_le (Fr.le_keep (Fr.le_skip rfl (Fr.le_skip rfl (Fr.le_skip rfl (Fr.le_refl _))))) ?_)
  repeat (first | refine g_seq ?_ | refine g_skip ?_ | refine g_inBlock ?_ | refine g_block ?_ | refine g_label ?_)
  refine g_cond_dec rfl (fun h5 => ?_) (fun h5 => ?_)
  · obtain ⟨b, o, kind, on, slot, str, rfl, hat, hon⟩ := op13_at hr i hi0 h5
    repeat (first | refine g_seq ?_ | refine g_skip ?_ | refine g_inBlock ?_ | refine g_block ?_ | refine g_label ?_)
    refine g_region ?_
    refine rl_v rfl rfl rfl (S := fun _ => True) trivial (v_assign rfl) ?_
    refine rl_nil (g_le (Fr.le_keep (Fr.le_refl _)) ?_)
    repeat (first | refine g_seq ?_ | refine g_skip ?_ | refine g_inBlock ?_ | refine g_block ?_ | refine g_label ?_)
    refine g_region ?_
    refine rl_v rfl rfl rfl (S := fun _ => True) trivial (v_move rfl) ?_
    refine rl_v rfl rfl rfl (S := fun _ => True) trivial (v_move rfl) ?_
    refine rl_v rfl rfl rfl (S := fun _ => True) trivial (v_indexAddr T.sl_62_69_4 rfl rfl (by omega) (by omega)) ?_
    first | (refine rl_v rfl rfl rfl (S := fun _ => True) trivial (v_fieldAddr0 T.fld_69_1_1 rfl) ?_) | (refine rl_v rfl rfl rfl (S := fun _ => True) trivial (v_fieldAddr T.fld_69_1_1 rfl) ?_)
    refine rl_v rfl rfl rfl (by first | exact sat_cell hw (by first | with_reducible exact Pick.at0 | with_reducible exact Pick.at1 | with_reducible exact Pick.at2 | with_reducible exact Pick.at3 | with_reducible exact Pick.at4 | with_reducible exact Pick.at5 | with_reducible exact Pick.at6 | with_reducible exact Pick.at7 | with_reducible exact Pick.at8 | with_reducible exact Pick.at9 | with_reducible exact Pick.at10 | with_reducible exact Pick.at11 | with_reducible exact Pick.at12 | with_reducible exact Pick.at13 | with_reducible exact Pick.at14 | with_reducible exact Pick.at15) rfl | exact own_cell hw (by first | with_reducible exact Pick.at0 | with_reducible exact Pick.at1 | with_reducible exact Pick.at2 | with_reducible exact Pick.at3 | with_reducible exact Pick.at4 | with_reducible exact Pick.at5 | with_reducible exact Pick.at6 | with_reducible exact Pick.at7 | with_reducible exact Pick.at8 | with_reducible exact Pick.at9 | with_reducible exact Pick.at10 | with_reducible exact Pick.at11 | with_reducible exact Pick.at12 | with_reducible exact Pick.at13 | with_reducible exact Pick.at14 | with_reducible exact Pick.at15) (by first | rfl | assumption) | exact old_cell hw (by first | with_reducible exact Pick.at0 | with_reducible exact Pick.at1 | with_reducible exact Pick.at2 | with_reducible exact Pick.at3 | with_reducible exact Pick.at4 | with_reducible exact Pick.at5 | with_reducible exact Pick.at6 | with_reducible exact Pick.at7 | with_reducible exact Pick.at8 | with_reducible exact Pick.at9 | with_reducible exact Pick.at10 | with_reducible exact Pick.at11 | with_reducible exact Pick.at12 | with_reducible exact Pick.at13 | with_reducible exact Pick.at14 | with_reducible exact Pick.at15) (by assumption)) (v_load T.scal_4 rfl) ?_
    refine rl_nil (g_le (Fr.le_keep (Fr.le_skip rfl (Fr.le_skip rfl (Fr.le_skip rfl (Fr.le_skip rfl (Fr.le_refl _)))))) ?_)
    repeat (first | refine g_seq ?_ | refine g_skip ?_ | refine g_inBlock ?_ | refine g_block ?_ | refine g_label ?_)
    refine g_cond rfl (fun h6 => ?_) (fun h6 => ?_)
    · repeat (first | refine g_seq ?_ | refine g_skip ?_ | refine g_inBlock ?_ | refine g_block ?_ | refine g_label ?_)
      refine g_region ?_
      refine rl_v rfl rfl rfl (S := fun _ => True) trivial (v_move rfl) ?_
      refine rl_v rfl rfl rfl (S := fun _ => True) trivial (v_move rfl) ?_
      refine rl_v rfl rfl rfl (S := fun _ => True) trivial (v_move rfl) ?_
      refine rl_v rfl rfl rfl (S := fun _ => True) trivial (v_move rfl) ?_
      refine rl_v rfl rfl rfl (S := fun _ => True) trivial (v_indexAddr T.sl_62_69_4 rfl rfl (by omega) (by omega)) ?_
      refine rl_v rfl rfl rfl (by first | exact sat_cells hw (by first | with_reducible exact Pick.at0 | with_reducible exact Pick.at1 | with_reducible exact Pick.at2 | with_reducible exact Pick.at3 | with_reducible exact Pick.at4 | with_reducible exact Pick.at5 | with_reducible exact Pick.at6 | with_reducible exact Pick.at7 | with_reducible exact Pick.at8 | with_reducible exact Pick.at9 | with_reducible exact Pick.at10 | with_reducible exact Pick.at11 | with_reducible exact Pick.at12 | with_reducible exact Pick.at13 | with_reducible exact Pick.at14 | with_reducible exact Pick.at15) ⟨rfl, rfl, rfl, rfl, trivial⟩ | exact old_cells hw (by first | with_reducible exact Pick.at0 | with_reducible exact Pick.at1 | with_reducible exact Pick.at2 | with_reducible exact Pick.at3 | with_reducible exact Pick.at4 | with_reducible exact Pick.at5 | with_reducible exact Pick.at6 | with_reducible exact Pick.at7 | with_reducible exact Pick.at8 | with_reducible exact Pick.at9 | with_reducible exact Pick.at10 | with_reducible exact Pick.at11 | with_reducible exact Pick.at12 | with_reducible exact Pick.at13 | with_reducible exact Pick.at14 | with_reducible exact Pick.at15) (by assumption)) (v_loadAgg (vs := [_, _, _, _]) T.agg_69_4 rfl rfl) ?_
      refine rl_k rfl (k_callf Try.func35 rfl rfl rfl rfl ?_)
      refine Calls.mono (step13_calls c' d' p q s' pw _ _ _ _ hok (hw.sub (by repeat (first | with_reducible exact Sub.refl _ | with_reducible exact Sub.last1 | with_reducible exact Sub.last2 | with_reducible exact Sub.last3 | with_reducible exact Sub.last4 | with_reducible exact Sub.last5 | with_reducible exact Sub.last6 | with_reducible exact Sub.last7 | with_reducible exact Sub.last8 | with_reducible exact Sub.last9 | with_reducible exact Sub.last10 | with_reducible exact Sub.last11 | with_reducible exact Sub.last12 | with_reducible exact Sub.last13 | with_reducible exact Sub.last14 | with_reducible exact Sub.last15 | with_reducible refine Sub.head0 ?_ | with_reducible refine Sub.head1 ?_ | with_reducible refine Sub.head2 ?_ | with_reducible refine Sub.head3 ?_ | with_reducible refine Sub.head4 ?_ | with_reducible refine Sub.head5 ?_ | with_reducible refine Sub.head6 ?_ | with_reducible refine Sub.head7 ?_ | with_reducible refine Sub.head8 ?_ | with_reducible refine Sub.head9 ?_ | with_reducible refine Sub.head10 ?_ | with_reducible refine Sub.head11 ?_ | with_reducible refine Sub.head12 ?_ | with_reducible refine Sub.head13 ?_ | with_reducible refine Sub.head14 ?_ | with_reducible refine Sub.head15 ?_ | with_reducible refine Sub.drop ?_)))) ?_
      rintro _ w ⟨s', pw, rfl, hok, hw⟩
      refine ⟨_, rfl, ?_⟩
      refine rl_v rfl rfl rfl (S := fun _ => True) trivial (v_assign rfl) ?_
      refine rl_nil (g_le (Fr.le_keep (Fr.le_skip rfl (Fr.le_skip rfl (Fr.le_skip rfl (Fr.le_skip rfl (Fr.le_skip rfl (Fr.le_skip rfl (Fr.le_skip rfl (Fr.le_refl _))))))))) ?_)
      repeat (first | refine g_seq ?_ | refine g_skip ?_ | refine g_inBlock ?_ | refine g_block ?_ | refine g_label ?_)
      refine g_region ?_
      refine rl_v rfl rfl rfl (S := fun _ => True) trivial (v_move rfl) ?_
      refine rl_v rfl rfl rfl (S := fun _ => True) trivial (v_not rfl) ?_
      refine rl_v rfl rfl rfl (S := fun _ => True) trivial (v_move rfl) ?_
      first | (refine rl_vg (met_on rfl rfl rfl rfl) rfl rfl (S := fun _ => True) trivial (v_move rfl) ?_) | (refine rl_off (met_off rfl rfl rfl rfl rfl) rfl rfl ?_)
      first | (refine rl_vg (met_on rfl rfl rfl rfl) rfl rfl (S := fun _ => True) trivial (v_move rfl) ?_) | (refine rl_off (met_off rfl rfl rfl rfl rfl) rfl rfl ?_)
      first | (refine rl_kg (met_on rfl rfl rfl rfl) (k_callf Try.func41 rfl rfl rfl rfl ?_); refine Calls.mono (tells_calls c d p q s pw (hw.sub (by repeat (first | with_reducible exact Sub.refl _ | with_reducible exact Sub.last1 | with_reducible exact Sub.last2 | with_reducible exact Sub.last3 | with_reducible exact Sub.last4 | with_reducible exact Sub.last5 | with_reducible exact Sub.last6 | with_reducible exact Sub.last7 | with_reducible exact Sub.last8 | with_reducible exact Sub.last9 | with_reducible exact Sub.last10 | with_reducible exact Sub.last11 | with_reducible exact Sub.last12 | with_reducible exact Sub.last13 | with_reducible exact Sub.last14 | with_reducible exact Sub.last15 | with_reducible refine Sub.head0 ?_ | with_reducible refine Sub.head1 ?_ | with_reducible refine Sub.head2 ?_ | with_reducible refine Sub.head3 ?_ | with_reducible refine Sub.head4 ?_ | with_reducible refine Sub.head5 ?_ | with_reducible refine Sub.head6 ?_ | with_reducible refine Sub.head7 ?_ | with_reducible refine Sub.head8 ?_ | with_reducible refine Sub.head9 ?_ | with_reducible refine Sub.head10 ?_ | with_reducible refine Sub.head11 ?_ | with_reducible refine Sub.head12 ?_ | with_reducible refine Sub.head13 ?_ | with_reducible refine Sub.head14 ?_ | with_reducible refine Sub.head15 ?_ | with_reducible refine Sub.drop ?_)))) ?_; rintro _ w ⟨rfl, hw⟩; refine ⟨_, rfl, ?_⟩) | (refine rl_off (met_off rfl rfl rfl rfl rfl) rfl rfl ?_)
      first | (refine rl_vg (met_on rfl rfl rfl rfl) rfl rfl (S := fun _ => True) trivial (v_not rfl) ?_) | (refine rl_off (met_off rfl rfl rfl rfl rfl) rfl rfl ?_)
      first | (refine rl_v rfl rfl rfl (S := fun _ => True) trivial (v_pick_true rfl rfl) ?_) | (refine rl_v rfl rfl rfl (S := fun _ => True) trivial (v_pick_false rfl rfl) ?_) | (refine rl_v rfl rfl rfl (S := fun _ => True) trivial (v_pick rfl rfl rfl) ?_)
      refine rl_v rfl rfl rfl (S := fun _ => True) trivial (v_move rfl) ?_
      first | (refine rl_vg (met_on rfl rfl rfl rfl) rfl rfl (S := fun _ => True) trivial (v_move rfl) ?_) | (refine rl_off (met_off rfl rfl rfl rfl rfl) rfl rfl ?_)
      first | (refine rl_vg (met_on rfl rfl rfl rfl) rfl rfl (S := fun _ => True) trivial (v_move rfl) ?_) | (refine rl_off (met_off rfl rfl rfl rfl rfl) rfl rfl ?_)
      first | (refine rl_kg (met_on rfl rfl rfl rfl) (k_callf Try.func41 rfl rfl rfl rfl ?_); refine Calls.mono (tells_calls c' d' p q s' pw (hw.sub (by repeat (first | with_reducible exact Sub.refl _ | with_reducible exact Sub.last1 | with_reducible exact Sub.last2 | with_reducible exact Sub.last3 | with_reducible exact Sub.last4 | with_reducible exact Sub.last5 | with_reducible exact Sub.last6 | with_reducible exact Sub.last7 | with_reducible exact Sub.last8 | with_reducible exact Sub.last9 | with_reducible exact Sub.last10 | with_reducible exact Sub.last11 | with_reducible exact Sub.last12 | with_reducible exact Sub.last13 | with_reducible exact Sub.last14 | with_reducible exact Sub.last15 | with_reducible refine Sub.head0 ?_ | with_reducible refine Sub.head1 ?_ | with_reducible refine Sub.head2 ?_ | with_reducible refine Sub.head3 ?_ | with_reducible refine Sub.head4 ?_ | with_reducible refine Sub.head5 ?_ | with_reducible refine Sub.head6 ?_ | with_reducible refine Sub.head7 ?_ | with_reducible refine Sub.head8 ?_ | with_reducible refine Sub.head9 ?_ | with_reducible refine Sub.head10 ?_ | with_reducible refine Sub.head11 ?_ | with_reducible refine Sub.head12 ?_ | with_reducible refine Sub.head13 ?_ | with_reducible refine Sub.head14 ?_ | with_reducible refine Sub.head15 ?_ | with_reducible refine Sub.drop ?_)))) ?_; rintro _ w ⟨rfl, hw⟩; refine ⟨_, rfl, ?_⟩) | (refine rl_off (met_off rfl rfl rfl rfl rfl) rfl rfl ?_)
      first | (refine rl_vg (met_on rfl rfl rfl rfl) rfl rfl (S := fun _ => True) trivial (v_not rfl) ?_) | (refine rl_off (met_off rfl rfl rfl rfl rfl) rfl rfl ?_)
      first | (refine rl_v rfl rfl rfl (S := fun _ => True) trivial (v_pick_true rfl rfl) ?_) | (refine rl_v rfl rfl rfl (S := fun _ => True) trivial (v_pick_false rfl rfl) ?_) | (refine rl_v rfl rfl rfl (S := fun _ => True) trivial (v_pick rfl rfl rfl) ?_)
      refine rl_nil (g_le (Fr.le_keep (Fr.le_skip rfl (Fr.le_skip rfl (Fr.le_skip rfl (Fr.le_skip rfl (Fr.le_skip rfl (Fr.le_skip rfl (Fr.le_skip rfl (Fr.le_skip rfl (Fr.le_skip rfl (Fr.le_skip rfl (Fr.le_skip rfl (Fr.le_skip rfl (Fr.le_skip rfl (Fr.le_refl _))))))))))))))) ?_)
      repeat (first | refine g_seq ?_ | refine g_skip ?_ | refine g_inBlock ?_ | refine g_block ?_ | refine g_label ?_)
      refine g_cond_false rfl ?_
      repeat (first | refine g_seq ?_ | refine g_skip ?_ | refine g_inBlock ?_ | refine g_block ?_ | refine g_label ?_)
      refine g_region ?_
      refine rl_v rfl rfl rfl (S := fun _ => True) trivial (v_move rfl) ?_
      first | (refine rl_v rfl rfl rfl (S := fun _ => True) trivial (v_add rfl rfl (by omega)) ?_) | (refine rl_v rfl rfl rfl (S := fun _ => True) trivial (v_addW rfl rfl) ?_)
      refine rl_v rfl rfl rfl (S := fun _ => True) trivial (v_assign rfl) ?_
      refine rl_nil (g_le (Fr.le_keep (Fr.le_skip rfl (Fr.le_skip rfl (Fr.le_refl _)))) ?_)
      exact g_le (by repeat (first | exact Fr.le_nil _ | refine Fr.le_cons rfl ?_)) (ih (i + 1, s, s', pw) w ⟨by simp only; omega, by simp only; omega, hok, hw.sub (by repeat (first | with_reducible exact Sub.refl _ | with_reducible exact Sub.last1 | with_reducible exact Sub.last2 | with_reducible exact Sub.last3 | with_reducible exact Sub.last4 | with_reducible exact Sub.last5 | with_reducible exact Sub.last6 | with_reducible exact Sub.last7 | with_reducible exact Sub.last8 | with_reducible exact Sub.last9 | with_reducible exact Sub.last10 | with_reducible exact Sub.last11 | with_reducible exact Sub.last12 | with_reducible exact Sub.last13 | with_reducible exact Sub.last14 | with_reducible exact Sub.last15 | with_reducible refine Sub.head0 ?_ | with_reducible refine Sub.head1 ?_ | with_reducible refine Sub.head2 ?_ | with_reducible refine Sub.head3 ?_ | with_reducible refine Sub.head4 ?_ | with_reducible refine Sub.head5 ?_ | with_reducible refine Sub.head6 ?_ | with_reducible refine Sub.head7 ?_ | with_reducible refine Sub.head8 ?_ | with_reducible refine Sub.head9 ?_ | with_reducible refine Sub.head10 ?_ | with_reducible refine Sub.head11 ?_ | with_reducible refine Sub.head12 ?_ | with_reducible refine Sub.head13 ?_ | with_reducible refine Sub.head14 ?_ | with_reducible refine Sub.head15 ?_ | with_reducible refine Sub.drop ?_))⟩ (by simp only; omega))
    · repeat (first | refine g_seq ?_ | refine g_skip ?_ | refine g_inBlock ?_ | refine g_block ?_ | refine g_label ?_)
      refine g_region ?_
      refine rl_v rfl rfl rfl (S := fun _ => True) trivial (v_move rfl) ?_
      refine rl_v rfl rfl rfl (S := fun _ => True) trivial (v_move rfl) ?_
      refine rl_v rfl rfl rfl (S := fun _ => True) trivial (v_move rfl) ?_
      refine rl_v rfl rfl rfl (S := fun _ => True) trivial (v_move rfl) ?_
      refine rl_v rfl rfl rfl (S := fun _ => True) trivial (v_indexAddr T.sl_62_69_4 rfl rfl (by omega) (by omega)) ?_
      refine rl_v rfl rfl rfl (by first | exact sat_cells hw (by first | with_reducible exact Pick.at0 | with_reducible exact Pick.at1 | with_reducible exact Pick.at2 | with_reducible exact Pick.at3 | with_reducible exact Pick.at4 | with_reducible exact Pick.at5 | with_reducible exact Pick.at6 | with_reducible exact Pick.at7 | with_reducible exact Pick.at8 | with_reducible exact Pick.at9 | with_reducible exact Pick.at10 | with_reducible exact Pick.at11 | with_reducible exact Pick.at12 | with_reducible exact Pick.at13 | with_reducible exact Pick.at14 | with_reducible exact Pick.at15) ⟨rfl, rfl, rfl, rfl, trivial⟩ | exact old_cells hw (by first | with_reducible exact Pick.at0 | with_reducible exact Pick.at1 | with_reducible exact Pick.at2 | with_reducible exact Pick.at3 | with_reducible exact Pick.at4 | with_reducible exact Pick.at5 | with_reducible exact Pick.at6 | with_reducible exact Pick.at7 | with_reducible exact Pick.at8 | with_reducible exact Pick.at9 | with_reducible exact Pick.at10 | with_reducible exact Pick.at11 | with_reducible exact Pick.at12 | with_reducible exact Pick.at13 | with_reducible exact Pick.at14 | with_reducible exact Pick.at15) (by assumption)) (v_loadAgg (vs := [_, _, _, _]) T.agg_69_4 rfl rfl) ?_
      refine rl_k rfl (k_callf Try.func35 rfl rfl rfl rfl ?_)
      refine Calls.mono (step13_calls c d p q s pw _ _ _ _ hok (hw.sub (by repeat (first | with_reducible exact Sub.refl _ | with_reducible exact Sub.last1 | with_reducible exact Sub.last2 | with_reducible exact Sub.last3 | with_reducible exact Sub.last4 | with_reducible exact Sub.last5 | with_reducible exact Sub.last6 | with_reducible exact Sub.last7 | with_reducible exact Sub.last8 | with_reducible exact Sub.last9 | with_reducible exact Sub.last10 | with_reducible exact Sub.last11 | with_reducible exact Sub.last12 | with_reducible exact Sub.last13 | with_reducible exact Sub.last14 | with_reducible exact Sub.last15 | with_reducible refine Sub.head0 ?_ | with_reducible refine Sub.head1 ?_ | with_reducible refine Sub.head2 ?_ | with_reducible refine Sub.head3 ?_ | with_reducible refine Sub.head4 ?_ | with_reducible refine Sub.head5 ?_ | with_reducible refine Sub.head6 ?_ | with_reducible refine Sub.head7 ?_ | with_reducible refine Sub.head8 ?_ | with_reducible refine Sub.head9 ?_ | with_reducible refine Sub.head10 ?_ | with_reducible refine Sub.head11 ?_ | with_reducible refine Sub.head12 ?_ | with_reducible refine Sub.head13 ?_ | with_reducible refine Sub.head14 ?_ | with_reducible refine Sub.head15 ?_ | with_reducible refine Sub.drop ?_)))) ?_
      rintro _ w ⟨s, pw, rfl, hok, hw⟩
      refine ⟨_, rfl, ?_⟩
      refine rl_v rfl rfl rfl (S := fun _ => True) trivial (v_assign rfl) ?_
      refine rl_nil (g_le (Fr.le_keep (Fr.le_skip rfl (Fr.le_skip rfl (Fr.le_skip rfl (Fr.le_skip rfl (Fr.le_skip rfl (Fr.le_skip rfl (Fr.le_skip rfl (Fr.le_refl _))))))))) ?_)
      repeat (first | refine g_seq ?_ | refine g_skip ?_ | refine g_inBlock ?_ | refine g_block ?_ | refine g_label ?_)
      refine g_region ?_
      refine rl_v rfl rfl rfl (S := fun _ => True) trivial (v_move rfl) ?_
      refine rl_v rfl rfl rfl (S := fun _ => True) trivial (v_not rfl) ?_
      refine rl_v rfl rfl rfl (S := fun _ => True) trivial (v_move rfl) ?_
      first | (refine rl_vg (met_on rfl rfl rfl rfl) rfl rfl (S := fun _ => True) trivial (v_move rfl) ?_) | (refine rl_off (met_off rfl rfl rfl rfl rfl) rfl rfl ?_)
      first | (refine rl_vg (met_on rfl rfl rfl rfl) rfl rfl (S := fun _ => True) trivial (v_move rfl) ?_) | (refine rl_off (met_off rfl rfl rfl rfl rfl) rfl rfl ?_)
      first | (refine rl_kg (met_on rfl rfl rfl rfl) (k_callf Try.func41 rfl rfl rfl rfl ?_); refine Calls.mono (tells_calls c d p q s pw (hw.sub (by repeat (first | with_reducible exact Sub.refl _ | with_reducible exact Sub.last1 | with_reducible exact Sub.last2 | with_reducible exact Sub.last3 | with_reducible exact Sub.last4 | with_reducible exact Sub.last5 | with_reducible exact Sub.last6 | with_reducible exact Sub.last7 | with_reducible exact Sub.last8 | with_reducible exact Sub.last9 | with_reducible exact Sub.last10 | with_reducible exact Sub.last11 | with_reducible exact Sub.last12 | with_reducible exact Sub.last13 | with_reducible exact Sub.last14 | with_reducible exact Sub.last15 | with_reducible refine Sub.head0 ?_ | with_reducible refine Sub.head1 ?_ | with_reducible refine Sub.head2 ?_ | with_reducible refine Sub.head3 ?_ | with_reducible refine Sub.head4 ?_ | with_reducible refine Sub.head5 ?_ | with_reducible refine Sub.head6 ?_ | with_reducible refine Sub.head7 ?_ | with_reducible refine Sub.head8 ?_ | with_reducible refine Sub.head9 ?_ | with_reducible refine Sub.head10 ?_ | with_reducible refine Sub.head11 ?_ | with_reducible refine Sub.head12 ?_ | with_reducible refine Sub.head13 ?_ | with_reducible refine Sub.head14 ?_ | with_reducible refine Sub.head15 ?_ | with_reducible refine Sub.drop ?_)))) ?_; rintro _ w ⟨rfl, hw⟩; refine ⟨_, rfl, ?_⟩) | (refine rl_off (met_off rfl rfl rfl rfl rfl) rfl rfl ?_)
      first | (refine rl_vg (met_on rfl rfl rfl rfl) rfl rfl (S := fun _ => True) trivial (v_not rfl) ?_) | (refine rl_off (met_off rfl rfl rfl rfl rfl) rfl rfl ?_)
      first | (refine rl_v rfl rfl rfl (S := fun _ => True) trivial (v_pick_true rfl rfl) ?_) | (refine rl_v rfl rfl rfl (S := fun _ => True) trivial (v_pick_false rfl rfl) ?_) | (refine rl_v rfl rfl rfl (S := fun _ => True) trivial (v_pick rfl rfl rfl) ?_)
      refine rl_v rfl rfl rfl (S := fun _ => True) trivial (v_move rfl) ?_
      first | (refine rl_vg (met_on rfl rfl rfl rfl) rfl rfl (S := fun _ => True) trivial (v_move rfl) ?_) | (refine rl_off (met_off rfl rfl rfl rfl rfl) rfl rfl ?_)
      first | (refine rl_vg (met_on rfl rfl rfl rfl) rfl rfl (S := fun _ => True) trivial (v_move rfl) ?_) | (refine rl_off (met_off rfl rfl rfl rfl rfl) rfl rfl ?_)
      first | (refine rl_kg (met_on rfl rfl rfl rfl) (k_callf Try.func41 rfl rfl rfl rfl ?_); refine Calls.mono (tells_calls c' d' p q s' pw (hw.sub (by repeat (first | with_reducible exact Sub.refl _ | with_reducible exact Sub.last1 | with_reducible exact Sub.last2 | with_reducible exact Sub.last3 | with_reducible exact Sub.last4 | with_reducible exact Sub.last5 | with_reducible exact Sub.last6 | with_reducible exact Sub.last7 | with_reducible exact Sub.last8 | with_reducible exact Sub.last9 | with_reducible exact Sub.last10 | with_reducible exact Sub.last11 | with_reducible exact Sub.last12 | with_reducible exact Sub.last13 | with_reducible exact Sub.last14 | with_reducible exact Sub.last15 | with_reducible refine Sub.head0 ?_ | with_reducible refine Sub.head1 ?_ | with_reducible refine Sub.head2 ?_ | with_reducible refine Sub.head3 ?_ | with_reducible refine Sub.head4 ?_ | with_reducible refine Sub.head5 ?_ | with_reducible refine Sub.head6 ?_ | with_reducible refine Sub.head7 ?_ | with_reducible refine Sub.head8 ?_ | with_reducible refine Sub.head9 ?_ | with_reducible refine Sub.head10 ?_ | with_reducible refine Sub.head11 ?_ | with_reducible refine Sub.head12 ?_ | with_reducible refine Sub.head13 ?_ | with_reducible refine Sub.head14 ?_ | with_reducible refine Sub.head15 ?_ | with_reducible refine Sub.drop ?_)))) ?_; rintro _ w ⟨rfl, hw⟩; refine ⟨_, rfl, ?_⟩) | (refine rl_off (met_off rfl rfl rfl rfl rfl) rfl rfl ?_)
      first | (refine rl_vg (met_on rfl rfl rfl rfl) rfl rfl (S := fun _ => True) trivial (v_not rfl) ?_) | (refine rl_off (met_off rfl rfl rfl rfl rfl) rfl rfl ?_)
      first | (refine rl_v rfl rfl rfl (S := fun _ => True) trivial (v_pick_true rfl rfl) ?_) | (refine rl_v rfl rfl rfl (S := fun _ => True) trivial (v_pick_false rfl rfl) ?_) | (refine rl_v rfl rfl rfl (S := fun _ => True) trivial (v_pick rfl rfl rfl) ?_)
      refine rl_nil (g_le (Fr.le_keep (Fr.le_skip rfl (Fr.le_skip rfl (Fr.le_skip rfl (Fr.le_skip rfl (Fr.le_skip rfl (Fr.le_skip rfl (Fr.le_skip rfl (Fr.le_skip rfl (Fr.le_skip rfl (Fr.le_skip rfl (Fr.le_skip rfl (Fr.le_skip rfl (Fr.le_skip rfl (Fr.le_refl _))))))))))))))) ?_)
      repeat (first | refine g_seq ?_ | refine g_skip ?_ | refine g_inBlock ?_ | refine g_block ?_ | refine g_label ?_)
      refine g_cond_false rfl ?_
      repeat (first | refine g_seq ?_ | refine g_skip ?_ | refine g_inBlock ?_ | refine g_block ?_ | refine g_label ?_)
      refine g_region ?_
      refine rl_v rfl rfl rfl (S := fun _ => True) trivial (v_move rfl) ?_
      first | (refine rl_v rfl rfl rfl (S := fun _ => True) trivial (v_add rfl rfl (by omega)) ?_) | (refine rl_v rfl rfl rfl (S := fun _ => True) trivial (v_addW rfl rfl) ?_)
      refine rl_v rfl rfl rfl (S := fun _ => True) trivial (v_assign rfl) ?_
      refine rl_nil (g_le (Fr.le_keep (Fr.le_skip rfl (Fr.le_skip rfl (Fr.le_refl _)))) ?_)
      exact g_le (by repeat (first | exact Fr.le_nil _ | refine Fr.le_cons rfl ?_)) (ih (i + 1, s, s', pw) w ⟨by simp only; omega, by simp only; omega, hok, hw.sub (by repeat (first | with_reducible exact Sub.refl _ | with_reducible exact Sub.last1 | with_reducible exact Sub.last2 | with_reducible exact Sub.last3 | with_reducible exact Sub.last4 | with_reducible exact Sub.last5 | with_reducible exact Sub.last6 | with_reducible exact Sub.last7 | with_reducible exact Sub.last8 | with_reducible exact Sub.last9 | with_reducible exact Sub.last10 | with_reducible exact Sub.last11 | with_reducible exact Sub.last12 | with_reducible exact Sub.last13 | with_reducible exact Sub.last14 | with_reducible exact Sub.last15 | with_reducible refine Sub.head0 ?_ | with_reducible refine Sub.head1 ?_ | with_reducible refine Sub.head2 ?_ | with_reducible refine Sub.head3 ?_ | with_reducible refine Sub.head4 ?_ | with_reducible refine Sub.head5 ?_ | with_reducible refine Sub.head6 ?_ | with_reducible refine Sub.head7 ?_ | with_reducible refine Sub.head8 ?_ | with_reducible refine Sub.head9 ?_ | with_reducible refine Sub.head10 ?_ | with_reducible refine Sub.head11 ?_ | with_reducible refine Sub.head12 ?_ | with_reducible refine Sub.head13 ?_ | with_reducible refine Sub.head14 ?_ | with_reducible refine Sub.head15 ?_ | with_reducible refine Sub.drop ?_))⟩ (by simp only; omega))
  · repeat (first | refine g_seq ?_ | refine g_skip ?_ | refine g_inBlock ?_ | refine g_block ?_ | refine g_label ?_)
    refine g_exit rfl ?_
    repeat (first | refine g_seq ?_ | refine g_skip ?_ | refine g_inBlock ?_ | refine g_block ?_ | refine g_label ?_)
    refine g_region ?_
    refine rl_v rfl rfl rfl (S := fun _ => True) trivial (v_move rfl) ?_
    refine rl_v rfl rfl rfl (S := fun _ => True) trivial (v_move rfl) ?_
    refine rl_k rfl (k_callf Try.func41 rfl rfl rfl rfl ?_)
    refine Calls.mono (tells_calls c d p q s pw (hw.sub (by repeat (first | with_reducible exact Sub.refl _ | with_reducible exact Sub.last1 | with_reducible exact Sub.last2 | with_reducible exact Sub.last3 | with_reducible exact Sub.last4 | with_reducible exact Sub.last5 | with_reducible exact Sub.last6 | with_reducible exact Sub.last7 | with_reducible exact Sub.last8 | with_reducible exact Sub.last9 | with_reducible exact Sub.last10 | with_reducible exact Sub.last11 | with_reducible exact Sub.last12 | with_reducible exact Sub.last13 | with_reducible exact Sub.last14 | with_reducible exact Sub.last15 | with_reducible refine Sub.head0 ?_ | with_reducible refine Sub.head1 ?_ | with_reducible refine Sub.head2 ?_ | with_reducible refine Sub.head3 ?_ | with_reducible refine Sub.head4 ?_ | with_reducible refine Sub.head5 ?_ | with_reducible refine Sub.head6 ?_ | with_reducible refine Sub.head7 ?_ | with_reducible refine Sub.head8 ?_ | with_reducible refine Sub.head9 ?_ | with_reducible refine Sub.head10 ?_ | with_reducible refine Sub.head11 ?_ | with_reducible refine Sub.head12 ?_ | with_reducible refine Sub.head13 ?_ | with_reducible refine Sub.head14 ?_ | with_reducible refine Sub.head15 ?_ | with_reducible refine Sub.drop ?_)))) ?_
    rintro _ w ⟨rfl, hw⟩
    refine ⟨_, rfl, ?_⟩
    refine rl_v rfl rfl rfl (S := fun _ => True) trivial (v_move rfl) ?_
    first | (refine rl_vg (met_on rfl rfl rfl rfl) rfl rfl (S := fun _ => True) trivial (v_move rfl) ?_) | (refine rl_off (met_off rfl rfl rfl rfl rfl) rfl rfl ?_)
    first | (refine rl_vg (met_on rfl rfl rfl rfl) rfl rfl (S := fun _ => True) trivial (v_move rfl) ?_) | (refine rl_off (met_off rfl rfl rfl rfl rfl) rfl rfl ?_)
    first | (refine rl_kg (met_on rfl rfl rfl rfl) (k_callf Try.func41 rfl rfl rfl rfl ?_); refine Calls.mono (tells_calls c' d' p q s' pw (hw.sub (by repeat (first | with_reducible exact Sub.refl _ | with_reducible exact Sub.last1 | with_reducible exact Sub.last2 | with_reducible exact Sub.last3 | with_reducible exact Sub.last4 | with_reducible exact Sub.last5 | with_reducible exact Sub.last6 | with_reducible exact Sub.last7 | with_reducible exact Sub.last8 | with_reducible exact Sub.last9 | with_reducible exact Sub.last10 | with_reducible exact Sub.last11 | with_reducible exact Sub.last12 | with_reducible exact Sub.last13 | with_reducible exact Sub.last14 | with_reducible exact Sub.last15 | with_reducible refine Sub.head0 ?_ | with_reducible refine Sub.head1 ?_ | with_reducible refine Sub.head2 ?_ | with_reducible refine Sub.head3 ?_ | with_reducible refine Sub.head4 ?_ | with_reducible refine Sub.head5 ?_ | with_reducible refine Sub.head6 ?_ | with_reducible refine Sub.head7 ?_ | with_reducible refine Sub.head8 ?_ | with_reducible refine Sub.head9 ?_ | with_reducible refine Sub.head10 ?_ | with_reducible refine Sub.head11 ?_ | with_reducible refine Sub.head12 ?_ | with_reducible refine Sub.head13 ?_ | with_reducible refine Sub.head14 ?_ | with_reducible refine Sub.head15 ?_ | with_reducible refine Sub.drop ?_)))) ?_; rintro _ w ⟨rfl, hw⟩; refine ⟨_, rfl, ?_⟩) | (refine rl_off (met_off rfl rfl rfl rfl rfl) rfl rfl ?_)
    first | (refine rl_v rfl rfl rfl (S := fun _ => True) trivial (v_pick_true rfl rfl) ?_) | (refine rl_v rfl rfl rfl (S := fun _ => True) trivial (v_pick_false rfl rfl) ?_) | (refine rl_v rfl rfl rfl (S := fun _ => True) trivial (v_pick rfl rfl rfl) ?_)
    refine rl_v rfl rfl rfl (S := fun _ => True) trivial (v_assign rfl) ?_
    refine rl_nil (g_le (Fr.le_keep (Fr.le_skip rfl (Fr.le_skip rfl (Fr.le_skip rfl (Fr.le_skip rfl (Fr.le_skip rfl (Fr.le_skip rfl (Fr.le_skip rfl (Fr.le_skip rfl (Fr.le_refl _)))))))))) ?_)
    refine g_ret1 Try.func8 rfl rfl ?_
    exact ⟨rfl, hw.sub (by repeat (first | with_reducible exact Sub.refl _ | with_reducible exact Sub.last1 | with_reducible exact Sub.last2 | with_reducible exact Sub.last3 | with_reducible exact Sub.last4 | with_reducible exact Sub.last5 | with_reducible exact Sub.last6 | with_reducible exact Sub.last7 | with_reducible exact Sub.last8 | with_reducible exact Sub.last9 | with_reducible exact Sub.last10 | with_reducible exact Sub.last11 | with_reducible exact Sub.last12 | with_reducible exact Sub.last13 | with_reducible exact Sub.last14 | with_reducible exact Sub.last15 | with_reducible refine Sub.head0 ?_ | with_reducible refine Sub.head1 ?_ | with_reducible refine Sub.head2 ?_ | with_reducible refine Sub.head3 ?_ | with_reducible refine Sub.head4 ?_ | with_reducible refine Sub.head5 ?_ | with_reducible refine Sub.head6 ?_ | with_reducible refine Sub.head7 ?_ | with_reducible refine Sub.head8 ?_ | with_reducible refine Sub.head9 ?_ | with_reducible refine Sub.head10 ?_ | with_reducible refine Sub.head11 ?_ | with_reducible refine Sub.head12 ?_ | with_reducible refine Sub.head13 ?_ | with_reducible refine Sub.head14 ?_ | with_reducible refine Sub.head15 ?_ | with_reducible refine Sub.drop ?_))⟩

set_option maxRecDepth 100000 in
theorem CellPlays_lifted (os : Os) (started : os.Started) (H : Type) (enc : TypeId × Value → H) :
    ReturnsInHanded {} Try.checked os 8 .any (Rows.cellPlaysSpec.pre6 enc Try.prog Try.f8 Rows.cellPlaysRow.domain false) (Rows.cellPlaysSpec.post enc Try.prog Try.f8 false true false false) := by
  refine returnsInHanded_of_change_sized (C := Try.checked) T.own started (by kernel_rfl) Try.func8
    (ChangeSpec.witness6 (enc := enc) (C := Try.checked) false ⟨#[], #[(.slice none 0 0)], []⟩ 8 (by kernel_rfl) (by kernel_rfl) (by kernel_rfl) (by kernel_rfl)) ?_
  intro W base args ds gs before hval0 hW hcnd hsz0 _
  have hval : ∀ (j : Nat) t v, Try.f8.params[j]? = some t → args[j]? = some v → Value.okWide Try.prog W .any base t v := hval0
  have hW' := hW
  obtain ⟨p, q, hA0, hV, rfl, hfz, hnd⟩ := hW
  have hA : DataW.TrodAll enc Try.prog W 0 (fun _ => true) true Try.f8.params.toList args.toList ds p := hA0
  obtain ⟨rfl, rfl⟩ := trodVars_none hV
  have hsz : (DataW.weightsEach Try.prog (Try.f8.params.toList ++ []) (ds ++ [])).all (· ≤ reachBytes) = true := hsz0
  rw [List.append_nil, List.append_nil] at hsz
  rw [Try.params8] at hA hval hsz
  obtain ⟨v0, vs0, d0, ds0, p0, q0, hargs, rfl, rfl, h0, r0⟩ := trodAll_cons hA
  obtain ⟨rfl, rfl, rfl⟩ := trodAll_nil r0
  obtain rfl : args = #[v0] := by cases args; simp_all
  have lt0 : ∀ x ∈ p0, x.block < W.heap.size := by obtain ⟨m, hm⟩ := h0; exact DataW.trod_lt m _ _ _ hm
  obtain ⟨x0, w0⟩ := arg_of (j := 0) (reads_sl T.sl_62_69_4 T.bytes_69_40 (by decide) reads_Op13) h0 hsz rfl rfl
  obtain ⟨a0, l0, c0, rfl⟩ := okWide_slice Try.underlying62 (hval 0 62 v0 rfl rfl)
  refine (CellPlays_law w0).mono fun e W' ⟨he, hb⟩ => ?_
  have bel := hb.below
  subst he
  exact ⟨_, rfl, _, _, _, [], _, [], hW', trodAll_mk1 (shut_bool Try.underlying4 _), (trodAll_cons_mk (Below.trod T.laidOut (by kernel_rfl) (of_decide_eq_true (by kernel_rfl)) h0 bel lt0) trodAll_mk0), rfl, bel.frame _, fun h => by cases h⟩
theorem CellPlays_holds : Rows.CellPlaysSaid :=
  OpenClaim.holds_of_wide 8 Try.f8 rfl rfl rfl rfl rfl rfl rfl ⟨rfl, rfl, rfl, rfl, rfl⟩ rfl rfl rfl rfl rfl (by kernel_rfl) Try.func8 (by kernel_rfl)
    (of_decide_eq_true (by kernel_rfl)) (by unfold Func.isWrapper; rw [if_neg (of_decide_eq_false (by kernel_rfl))]; exact ⟨rfl, rfl⟩)
    (fun os started H enc _ => CellPlays_lifted os started H enc)
#print axioms CellPlays_holds


/-- A power that is on, with no cut ahead. -/
def Pw.free (s : Pw) : Prop := s.off = false ∧ s.ahead = 0 ∧ s.ok
theorem Pw.free_spend {s : Pw} (h : s.free) : s.spend.1 = 0 ∧ s.spend.2.free := by
  obtain ⟨off, ahead, writes⟩ := s
  obtain ⟨h1, h2, h3⟩ := h
  simp only at h1 h2
  subst h1; subst h2
  exact ⟨rfl, rfl, rfl, Pw.ok_spend h3⟩
/-- Slots alike. -/
def Cs.like (s t : Cs) : Prop := s.a = t.a ∧ s.b = t.b
theorem Cs.like_get {s t : Cs} (h : s.like t) (i : Int) : s.get i = t.get i := by
  unfold Cs.get; rw [h.1, h.2]
theorem Cs.like_told {s t : Cs} (h : s.like t) (i : Int) : s.told i = t.told i := by
  unfold Cs.told; rw [Cs.like_get h]
theorem Cs.like_upto {s t : Cs} (h : s.like t) (i : Int) : s.upto i = t.upto i := by
  unfold Cs.upto; rw [h.1, h.2]
theorem Cs.like_put {s t : Cs} (h : s.like t) (i : Int) (v : ByteArray) : (s.put i v).like (t.put i v) := by
  unfold Cs.put; split
  · exact ⟨rfl, h.2⟩
  · exact ⟨h.1, rfl⟩
theorem Cs.like_lay {s t : Cs} {pw pv : Pw} (h : s.like t) (h1 : pw.free) (h2 : pv.free) (i : Int) (v : ByteArray) :
    (s.lay pw i v).1 = (t.lay pv i v).1 ∧ (s.lay pw i v).2.1.like (t.lay pv i v).2.1 ∧ (s.lay pw i v).2.2.free ∧ (t.lay pv i v).2.2.free := by
  unfold Cs.lay
  rw [if_pos (Pw.free_spend h1).1, if_pos (Pw.free_spend h2).1]
  exact ⟨rfl, Cs.like_put h i v, (Pw.free_spend h1).2, (Pw.free_spend h2).2⟩
theorem Cs.like_set {s t : Cs} {pw pv : Pw} (h : s.like t) (h1 : pw.free) (h2 : pv.free) (i : Int) (v : ByteArray) :
    (s.set pw i v).1 = (t.set pv i v).1 ∧ (s.set pw i v).2.1.like (t.set pv i v).2.1 ∧ (s.set pw i v).2.2.free ∧ (t.set pv i v).2.2.free := by
  unfold Cs.set
  rw [Cs.like_get h]
  split
  · split
    · exact ⟨rfl, h, h1, h2⟩
    · split
      · exact ⟨rfl, h, h1, h2⟩
      · exact Cs.like_lay h h1 h2 i v
  · exact ⟨rfl, h, h1, h2⟩
theorem Cs.like_erase {s t : Cs} {pw pv : Pw} (h : s.like t) (h1 : pw.free) (h2 : pv.free) (i : Int) :
    (s.erase pw i).1 = (t.erase pv i).1 ∧ (s.erase pw i).2.1.like (t.erase pv i).2.1 ∧ (s.erase pw i).2.2.free ∧ (t.erase pv i).2.2.free := by
  unfold Cs.erase
  rw [Cs.like_get h]
  split
  · split
    · exact ⟨rfl, h, h1, h2⟩
    · exact Cs.like_lay h h1 h2 i nil
  · exact ⟨rfl, h, h1, h2⟩
theorem Cs.erase_empty {s : Cs} {pw : Pw} (h : pw.free) (i : Int) (hi : i = 0 ∨ i = 1) : (s.erase pw i).2.1.get i = nil ∧ (∀ j, j ≠ i → (j = 0 ∨ j = 1) → (s.erase pw i).2.1.get j = s.get j) ∧ (s.erase pw i).2.2.free := by
  unfold Cs.erase
  rw [if_pos hi]
  split
  · rename_i h0
    exact ⟨h0, fun _ _ _ => rfl, h⟩
  · unfold Cs.lay
    rw [if_pos (Pw.free_spend h).1]
    refine ⟨?_, fun j hj hj' => ?_, (Pw.free_spend h).2⟩
    · rcases hi with rfl | rfl <;> simp [Cs.put, Cs.get]
    · rcases hi with rfl | rfl <;> rcases hj' with rfl | rfl <;> simp_all [Cs.put, Cs.get]

theorem get_eq {E : Env} {w : World} {L : List As} (c p : Nat) (s : Cs) (i : Int) (x : ByteArray) (y : Bool) (h : s.told i = (x, y)) (hw : Sat E w (CellAt c p s :: L)) :
    Calls Try.prog 39 #[.pointer (some ⟨c, 0, none⟩), .int .i64 i] w
      fun e w' => e = .returned (.tuple #[.string x, .bool y]) ∧ Sat E w' (CellAt c p s :: L) := by
  have := get_calls c p s i hw
  rwa [h] at this

set_option maxHeartbeats 4000000 in
theorem CellForgets_law {w : World} {a a' : Option Addr} {len cap len' cap' : Nat} {xs ys : List Op13} (hr : rdArg (rdSl 40 4 rdOp13) w (.slice a len cap) xs) (hr' : rdArg (rdSl 40 4 rdOp13) w (.slice a' len' cap') ys) :
    Law Try.prog 7 [.slice a len cap, .slice a' len' cap'] w := by
  unfold Law
  have hw := Sat.old w
  generalize w = W at hr hr' hw ⊢
  refine calls_of_g (n := 135) Try.func7 rfl rfl rfl ?_
  change G _ _ _ _ _ [(0, _), (1, _)] _
  repeat (first | refine g_seq ?_ | refine g_skip ?_ | refine g_inBlock ?_ | refine g_block ?_ | refine g_label ?_)
  refine g_region ?_
  refine rl_v rfl rfl rfl (S := fun _ => True) trivial (v_assign rfl) ?_
  refine rl_nil (g_le (Fr.le_keep (Fr.le_refl _)) ?_)
  repeat (first | refine g_seq ?_ | refine g_skip ?_ | refine g_inBlock ?_ | refine g_block ?_ | refine g_label ?_)
  refine g_region ?_
  refine rl_k rfl (k_callf Try.func32 rfl rfl rfl rfl ?_)
  refine Calls.mono (awake13_calls hw) ?_
  rintro _ w ⟨rfl, hw⟩
  refine ⟨_, rfl, ?_⟩
  refine rl_v rfl rfl rfl (S := fun _ => True) trivial (v_assign rfl) ?_
  refine rl_nil (g_le (Fr.le_keep (Fr.le_skip rfl (Fr.le_refl _))) ?_)
  repeat (first | refine g_seq ?_ | refine g_skip ?_ | refine g_inBlock ?_ | refine g_block ?_ | refine g_label ?_)
  refine g_region ?_
  refine rl_k rfl (k_callf Try.func12 rfl rfl rfl rfl ?_)
  refine Calls.mono (new_calls hw) ?_
  rintro _ w ⟨p, rfl, hw⟩
  refine ⟨_, rfl, ?_⟩
  refine rl_k rfl (k_callf Try.func33 rfl rfl rfl rfl ?_)
  refine Calls.mono (cnew_calls p hw) ?_
  rintro _ w ⟨c, rfl, hw⟩
  refine ⟨_, rfl, ?_⟩
  refine rl_v rfl rfl rfl (S := fun _ => True) trivial (v_assign rfl) ?_
  refine rl_nil (g_le (Fr.le_keep (Fr.le_skip rfl (Fr.le_skip rfl (Fr.le_refl _)))) ?_)
  repeat (first | refine g_seq ?_ | refine g_skip ?_ | refine g_inBlock ?_ | refine g_block ?_ | refine g_label ?_)
  refine g_region ?_
  refine rl_k rfl (k_callf Try.func12 rfl rfl rfl rfl ?_)
  refine Calls.mono (new_calls hw) ?_
  rintro _ w ⟨q, rfl, hw⟩
  refine ⟨_, rfl, ?_⟩
  refine rl_k rfl (k_callf Try.func33 rfl rfl rfl rfl ?_)
  refine Calls.mono (cnew_calls q hw) ?_
  rintro _ w ⟨d, rfl, hw⟩
  refine ⟨_, rfl, ?_⟩
  refine rl_v rfl rfl rfl (S := fun _ => True) trivial (v_assign rfl) ?_
  refine rl_nil (g_le (Fr.le_keep (Fr.le_skip rfl (Fr.le_skip rfl (Fr.le_refl _)))) ?_)
  repeat (first | refine g_seq ?_ | refine g_skip ?_ | refine g_inBlock ?_ | refine g_block ?_ | refine g_label ?_)
  refine g_region ?_
  refine rl_v rfl rfl rfl (S := fun _ => True) trivial (v_move rfl) ?_
  refine rl_v rfl rfl rfl (S := fun _ => True) trivial (v_not rfl) ?_
  refine rl_v rfl rfl rfl (S := fun _ => True) trivial (v_move rfl) ?_
  first | (refine rl_vg (met_on rfl rfl rfl rfl) rfl rfl (S := fun _ => True) trivial (v_move rfl) ?_) | (refine rl_off (met_off rfl rfl rfl rfl rfl) rfl rfl ?_)
  first | (refine rl_vg (met_on rfl rfl rfl rfl) rfl rfl (S := fun _ => True) trivial (v_eqlNil T.ptr_63 rfl rfl) ?_) | (refine rl_off (met_off rfl rfl rfl rfl rfl) rfl rfl ?_)
  first | (refine rl_v rfl rfl rfl (S := fun _ => True) trivial (v_pick_true rfl rfl) ?_) | (refine rl_v rfl rfl rfl (S := fun _ => True) trivial (v_pick_false rfl rfl) ?_) | (refine rl_v rfl rfl rfl (S := fun _ => True) trivial (v_pick rfl rfl rfl) ?_)
  refine rl_v rfl rfl rfl (S := fun _ => True) trivial (v_move rfl) ?_
  first | (refine rl_vg (met_on rfl rfl rfl rfl) rfl rfl (S := fun _ => True) trivial (v_move rfl) ?_) | (refine rl_off (met_off rfl rfl rfl rfl rfl) rfl rfl ?_)
  first | (refine rl_vg (met_on rfl rfl rfl rfl) rfl rfl (S := fun _ => True) trivial (v_eqlNil T.ptr_63 rfl rfl) ?_) | (refine rl_off (met_off rfl rfl rfl rfl rfl) rfl rfl ?_)
  first | (refine rl_v rfl rfl rfl (S := fun _ => True) trivial (v_pick_true rfl rfl) ?_) | (refine rl_v rfl rfl rfl (S := fun _ => True) trivial (v_pick_false rfl rfl) ?_) | (refine rl_v rfl rfl rfl (S := fun _ => True) trivial (v_pick rfl rfl rfl) ?_)
  refine rl_nil (g_le (Fr.le_keep (Fr.le_skip rfl (Fr.le_skip rfl (Fr.le_skip rfl (Fr.le_skip rfl (Fr.le_skip rfl (Fr.le_skip rfl (Fr.le_skip rfl (Fr.le_skip rfl (Fr.le_skip rfl (Fr.le_refl _))))))))))) ?_)
  repeat (first | refine g_seq ?_ | refine g_skip ?_ | refine g_inBlock ?_ | refine g_block ?_ | refine g_label ?_)
  refine g_cond_false rfl ?_
  repeat (first | refine g_seq ?_ | refine g_skip ?_ | refine g_inBlock ?_ | refine g_block ?_ | refine g_label ?_)
  refine g_region ?_
  refine rl_k rfl (k_callf Try.func13 rfl rfl rfl rfl ?_)
  refine Calls.mono (rnew_calls hw) ?_
  rintro _ w ⟨rp, rfl, hw⟩
  refine ⟨_, rfl, ?_⟩
  refine rl_k rfl (k_callf Try.func34 rfl rfl rfl rfl ?_)
  refine Calls.mono (rcnew_calls rp hw) ?_
  rintro _ w ⟨rc, rfl, hw⟩
  refine ⟨_, rfl, ?_⟩
  refine rl_v rfl rfl rfl (S := fun _ => True) trivial (v_assign rfl) ?_
  refine rl_nil (g_le (Fr.le_keep (Fr.le_skip rfl (Fr.le_skip rfl (Fr.le_refl _)))) ?_)
  repeat (first | refine g_seq ?_ | refine g_skip ?_ | refine g_inBlock ?_ | refine g_block ?_ | refine g_label ?_)
  refine g_region ?_
  refine rl_v rfl rfl rfl (S := fun _ => True) trivial (v_assign rfl) ?_
  refine rl_nil (g_le (Fr.le_keep (Fr.le_refl _)) ?_)
  repeat (first | refine g_seq ?_ | refine g_skip ?_ | refine g_inBlock ?_ | refine g_block ?_ | refine g_label ?_)
  obtain ⟨_, hcap, hlc, _⟩ := rdSl_at hr
  have hmax : (len : Int) ≤ 140737488351232 := by unfold reachBytes at hcap; omega
  obtain ⟨_, hcap', hlc', _⟩ := rdSl_at hr'
  have hmax' : (len' : Int) ≤ 140737488351232 := by unfold reachBytes at hcap'; omega
  refine g_loop (σ := Int × Cs × Pw) (fun x => [(9, .int .i64 x.1), (0, _), (1, _), (6, _), (7, _), (8, _)])
    (fun x w => 0 ≤ x.1 ∧ x.1 ≤ len ∧ Pw.ok x.2.2 ∧ Sat (envOf W) w [CellAt c p x.2.1, RcAt rc rp x.2.1, PwAt p x.2.2, RwAt rp x.2.2.ref, CellAt d q ⟨nil, nil, 0⟩, PwAt q ⟨false, 0, 0⟩, Old W]) (fun x => (len - x.1).toNat) ?round
    (0, ⟨nil, nil, 0⟩, ⟨false, 0, 0⟩) (by repeat (first | exact Fr.le_nil _ | refine Fr.le_cons rfl ?_)) ⟨by simp, by simp, Pw.ok_new, hw.sub (by repeat (first | with_reducible exact Sub.refl _ | with_reducible exact Sub.last1 | with_reducible exact Sub.last2 | with_reducible exact Sub.last3 | with_reducible exact Sub.last4 | with_reducible exact Sub.last5 | with_reducible exact Sub.last6 | with_reducible exact Sub.last7 | with_reducible exact Sub.last8 | with_reducible exact Sub.last9 | with_reducible exact Sub.last10 | with_reducible exact Sub.last11 | with_reducible exact Sub.last12 | with_reducible exact Sub.last13 | with_reducible exact Sub.last14 | with_reducible exact Sub.last15 | with_reducible refine Sub.head0 ?_ | with_reducible refine Sub.head1 ?_ | with_reducible refine Sub.head2 ?_ | with_reducible refine Sub.head3 ?_ | with_reducible refine Sub.head4 ?_ | with_reducible refine Sub.head5 ?_ | with_reducible refine Sub.head6 ?_ | with_reducible refine Sub.head7 ?_ | with_reducible refine Sub.head8 ?_ | with_reducible refine Sub.head9 ?_ | with_reducible refine Sub.head10 ?_ | with_reducible refine Sub.head11 ?_ | with_reducible refine Sub.head12 ?_ | with_reducible refine Sub.head13 ?_ | with_reducible refine Sub.head14 ?_ | with_reducible refine Sub.head15 ?_ | with_reducible refine Sub.drop ?_))⟩
  rintro ⟨i, s, pw⟩ w ⟨hi0, hi1, hok, hw⟩ ih
  dsimp only at hi0 hi1 hok hw ⊢
  repeat (first | refine g_seq ?_ | refine g_skip ?_ | refine g_inBlock ?_ | refine g_block ?_ | refine g_label ?_)
  refine g_region ?_
  refine rl_v rfl rfl rfl (S := fun _ => True) trivial (v_move rfl) ?_
  refine rl_v rfl rfl rfl (S := fun _ => True) trivial (v_move rfl) ?_
  refine rl_v rfl rfl rfl (S := fun _ => True) trivial (v_lenSlice T.sl_62_69_4 rfl) ?_
  first | (refine rl_v rfl rfl rfl (S := fun _ => True) trivial (v_lssT rfl rfl (by omega)) ?_) | (refine rl_v rfl rfl rfl (S := fun _ => True) trivial (v_lssF rfl rfl (by omega)) ?_) | (refine rl_v rfl rfl rfl (S := fun _ => True) trivial (v_lss rfl rfl) ?_)
  refine rl_nil (g_le (Fr.le_keep (Fr.le_skip rfl (Fr.le_skip rfl (Fr.le_skip rfl (Fr.le_refl _))))) ?_)
  repeat (first | refine g_seq ?_ | refine g_skip ?_ | refine g_inBlock ?_ | refine g_block ?_ | refine g_label ?_)
  refine g_cond_dec rfl (fun h5 => ?_) (fun h5 => ?_)
  · obtain ⟨b, o, kind, on, slot, str, rfl, hat, hon⟩ := op13_at hr i hi0 h5
    repeat (first | refine g_seq ?_ | refine g_skip ?_ | refine g_inBlock ?_ | refine g_block ?_ | refine g_label ?_)
    refine g_region ?_
    refine rl_v rfl rfl rfl (S := fun _ => True) trivial (v_move rfl) ?_
    refine rl_v rfl rfl rfl (S := fun _ => True) trivial (v_move rfl) ?_
    refine rl_v rfl rfl rfl (S := fun _ => True) trivial (v_move rfl) ?_
    refine rl_v rfl rfl rfl (S := fun _ => True) trivial (v_move rfl) ?_
    refine rl_v rfl rfl rfl (S := fun _ => True) trivial (v_indexAddr T.sl_62_69_4 rfl rfl (by omega) (by omega)) ?_
    refine rl_v rfl rfl rfl (by first | exact sat_cells hw (by first | with_reducible exact Pick.at0 | with_reducible exact Pick.at1 | with_reducible exact Pick.at2 | with_reducible exact Pick.at3 | with_reducible exact Pick.at4 | with_reducible exact Pick.at5 | with_reducible exact Pick.at6 | with_reducible exact Pick.at7 | with_reducible exact Pick.at8 | with_reducible exact Pick.at9 | with_reducible exact Pick.at10 | with_reducible exact Pick.at11 | with_reducible exact Pick.at12 | with_reducible exact Pick.at13 | with_reducible exact Pick.at14 | with_reducible exact Pick.at15) ⟨rfl, rfl, rfl, rfl, trivial⟩ | exact old_cells hw (by first | with_reducible exact Pick.at0 | with_reducible exact Pick.at1 | with_reducible exact Pick.at2 | with_reducible exact Pick.at3 | with_reducible exact Pick.at4 | with_reducible exact Pick.at5 | with_reducible exact Pick.at6 | with_reducible exact Pick.at7 | with_reducible exact Pick.at8 | with_reducible exact Pick.at9 | with_reducible exact Pick.at10 | with_reducible exact Pick.at11 | with_reducible exact Pick.at12 | with_reducible exact Pick.at13 | with_reducible exact Pick.at14 | with_reducible exact Pick.at15) (by assumption)) (v_loadAgg (vs := [_, _, _, _]) T.agg_69_4 rfl rfl) ?_
    refine rl_k rfl (k_callf Try.func35 rfl rfl rfl rfl ?_)
    refine Calls.mono (step13_calls c rc p rp s pw _ _ _ _ hok (hw.sub (by repeat (first | with_reducible exact Sub.refl _ | with_reducible exact Sub.last1 | with_reducible exact Sub.last2 | with_reducible exact Sub.last3 | with_reducible exact Sub.last4 | with_reducible exact Sub.last5 | with_reducible exact Sub.last6 | with_reducible exact Sub.last7 | with_reducible exact Sub.last8 | with_reducible exact Sub.last9 | with_reducible exact Sub.last10 | with_reducible exact Sub.last11 | with_reducible exact Sub.last12 | with_reducible exact Sub.last13 | with_reducible exact Sub.last14 | with_reducible exact Sub.last15 | with_reducible refine Sub.head0 ?_ | with_reducible refine Sub.head1 ?_ | with_reducible refine Sub.head2 ?_ | with_reducible refine Sub.head3 ?_ | with_reducible refine Sub.head4 ?_ | with_reducible refine Sub.head5 ?_ | with_reducible refine Sub.head6 ?_ | with_reducible refine Sub.head7 ?_ | with_reducible refine Sub.head8 ?_ | with_reducible refine Sub.head9 ?_ | with_reducible refine Sub.head10 ?_ | with_reducible refine Sub.head11 ?_ | with_reducible refine Sub.head12 ?_ | with_reducible refine Sub.head13 ?_ | with_reducible refine Sub.head14 ?_ | with_reducible refine Sub.head15 ?_ | with_reducible refine Sub.drop ?_)))) ?_
    rintro _ w ⟨s, pw, rfl, hok, hw⟩
    refine ⟨_, rfl, ?_⟩
    refine rl_nil (g_le (Fr.le_skip rfl (Fr.le_skip rfl (Fr.le_skip rfl (Fr.le_skip rfl (Fr.le_skip rfl (Fr.le_skip rfl (Fr.le_skip rfl (Fr.le_refl _)))))))) ?_)
    repeat (first | refine g_seq ?_ | refine g_skip ?_ | refine g_inBlock ?_ | refine g_block ?_ | refine g_label ?_)
    refine g_region ?_
    refine rl_v rfl rfl rfl (S := fun _ => True) trivial (v_move rfl) ?_
    first | (refine rl_v rfl rfl rfl (S := fun _ => True) trivial (v_add rfl rfl (by omega)) ?_) | (refine rl_v rfl rfl rfl (S := fun _ => True) trivial (v_addW rfl rfl) ?_)
    refine rl_v rfl rfl rfl (S := fun _ => True) trivial (v_assign rfl) ?_
    refine rl_nil (g_le (Fr.le_keep (Fr.le_skip rfl (Fr.le_skip rfl (Fr.le_refl _)))) ?_)
    exact g_le (by repeat (first | exact Fr.le_nil _ | refine Fr.le_cons rfl ?_)) (ih (i + 1, s, pw) w ⟨by simp only; omega, by simp only; omega, hok, hw.sub (by repeat (first | with_reducible exact Sub.refl _ | with_reducible exact Sub.last1 | with_reducible exact Sub.last2 | with_reducible exact Sub.last3 | with_reducible exact Sub.last4 | with_reducible exact Sub.last5 | with_reducible exact Sub.last6 | with_reducible exact Sub.last7 | with_reducible exact Sub.last8 | with_reducible exact Sub.last9 | with_reducible exact Sub.last10 | with_reducible exact Sub.last11 | with_reducible exact Sub.last12 | with_reducible exact Sub.last13 | with_reducible exact Sub.last14 | with_reducible exact Sub.last15 | with_reducible refine Sub.head0 ?_ | with_reducible refine Sub.head1 ?_ | with_reducible refine Sub.head2 ?_ | with_reducible refine Sub.head3 ?_ | with_reducible refine Sub.head4 ?_ | with_reducible refine Sub.head5 ?_ | with_reducible refine Sub.head6 ?_ | with_reducible refine Sub.head7 ?_ | with_reducible refine Sub.head8 ?_ | with_reducible refine Sub.head9 ?_ | with_reducible refine Sub.head10 ?_ | with_reducible refine Sub.head11 ?_ | with_reducible refine Sub.head12 ?_ | with_reducible refine Sub.head13 ?_ | with_reducible refine Sub.head14 ?_ | with_reducible refine Sub.head15 ?_ | with_reducible refine Sub.drop ?_))⟩ (by simp only; omega))
  repeat (first | refine g_seq ?_ | refine g_skip ?_ | refine g_inBlock ?_ | refine g_block ?_ | refine g_label ?_)
  refine g_exit rfl ?_
  repeat (first | refine g_seq ?_ | refine g_skip ?_ | refine g_inBlock ?_ | refine g_block ?_ | refine g_label ?_)
  refine g_region ?_
  refine rl_v rfl rfl rfl (S := fun _ => True) trivial (v_move rfl) ?_
  refine rl_v rfl rfl rfl (S := fun _ => True) trivial (v_nilCheck rfl) ?_
  first | (refine rl_v rfl rfl rfl (S := fun _ => True) trivial (v_fieldAddr0 T.fld_72_0_0 rfl) ?_) | (refine rl_v rfl rfl rfl (S := fun _ => True) trivial (v_fieldAddr T.fld_72_0_0 rfl) ?_)
  refine rl_v rfl rfl rfl (by first | exact sat_cell hw (by first | with_reducible exact Pick.at0 | with_reducible exact Pick.at1 | with_reducible exact Pick.at2 | with_reducible exact Pick.at3 | with_reducible exact Pick.at4 | with_reducible exact Pick.at5 | with_reducible exact Pick.at6 | with_reducible exact Pick.at7 | with_reducible exact Pick.at8 | with_reducible exact Pick.at9 | with_reducible exact Pick.at10 | with_reducible exact Pick.at11 | with_reducible exact Pick.at12 | with_reducible exact Pick.at13 | with_reducible exact Pick.at14 | with_reducible exact Pick.at15) rfl | exact own_cell hw (by first | with_reducible exact Pick.at0 | with_reducible exact Pick.at1 | with_reducible exact Pick.at2 | with_reducible exact Pick.at3 | with_reducible exact Pick.at4 | with_reducible exact Pick.at5 | with_reducible exact Pick.at6 | with_reducible exact Pick.at7 | with_reducible exact Pick.at8 | with_reducible exact Pick.at9 | with_reducible exact Pick.at10 | with_reducible exact Pick.at11 | with_reducible exact Pick.at12 | with_reducible exact Pick.at13 | with_reducible exact Pick.at14 | with_reducible exact Pick.at15) (by first | rfl | assumption) | exact old_cell hw (by first | with_reducible exact Pick.at0 | with_reducible exact Pick.at1 | with_reducible exact Pick.at2 | with_reducible exact Pick.at3 | with_reducible exact Pick.at4 | with_reducible exact Pick.at5 | with_reducible exact Pick.at6 | with_reducible exact Pick.at7 | with_reducible exact Pick.at8 | with_reducible exact Pick.at9 | with_reducible exact Pick.at10 | with_reducible exact Pick.at11 | with_reducible exact Pick.at12 | with_reducible exact Pick.at13 | with_reducible exact Pick.at14 | with_reducible exact Pick.at15) (by assumption)) (v_load T.scal_24 rfl) ?_
  refine rl_k rfl (k_callf Try.func16 rfl rfl rfl rfl ?_)
  refine Calls.mono (restore_calls p pw (hw.sub (by repeat (first | with_reducible exact Sub.refl _ | with_reducible exact Sub.last1 | with_reducible exact Sub.last2 | with_reducible exact Sub.last3 | with_reducible exact Sub.last4 | with_reducible exact Sub.last5 | with_reducible exact Sub.last6 | with_reducible exact Sub.last7 | with_reducible exact Sub.last8 | with_reducible exact Sub.last9 | with_reducible exact Sub.last10 | with_reducible exact Sub.last11 | with_reducible exact Sub.last12 | with_reducible exact Sub.last13 | with_reducible exact Sub.last14 | with_reducible exact Sub.last15 | with_reducible refine Sub.head0 ?_ | with_reducible refine Sub.head1 ?_ | with_reducible refine Sub.head2 ?_ | with_reducible refine Sub.head3 ?_ | with_reducible refine Sub.head4 ?_ | with_reducible refine Sub.head5 ?_ | with_reducible refine Sub.head6 ?_ | with_reducible refine Sub.head7 ?_ | with_reducible refine Sub.head8 ?_ | with_reducible refine Sub.head9 ?_ | with_reducible refine Sub.head10 ?_ | with_reducible refine Sub.head11 ?_ | with_reducible refine Sub.head12 ?_ | with_reducible refine Sub.head13 ?_ | with_reducible refine Sub.head14 ?_ | with_reducible refine Sub.head15 ?_ | with_reducible refine Sub.drop ?_)))) ?_
  rintro _ w ⟨rfl, hw⟩
  refine ⟨_, rfl, ?_⟩
  refine rl_nil (g_le (Fr.le_skip rfl (Fr.le_skip rfl (Fr.le_skip rfl (Fr.le_skip rfl (Fr.le_skip rfl (Fr.le_refl _)))))) ?_)
  have hf : pw.restore.free := ⟨rfl, rfl, Pw.ok_restore hok⟩
  generalize pw.restore = pw at hf hw
  repeat (first | refine g_seq ?_ | refine g_skip ?_ | refine g_inBlock ?_ | refine g_block ?_ | refine g_label ?_)
  refine g_region ?_
  refine rl_v rfl rfl rfl (S := fun _ => True) trivial (v_move rfl) ?_
  refine rl_k rfl (k_callf Try.func36 rfl rfl rfl rfl ?_)
  refine Calls.mono (erase_calls c p s pw 0 hf.2.2 (hw.sub (by repeat (first | with_reducible exact Sub.refl _ | with_reducible exact Sub.last1 | with_reducible exact Sub.last2 | with_reducible exact Sub.last3 | with_reducible exact Sub.last4 | with_reducible exact Sub.last5 | with_reducible exact Sub.last6 | with_reducible exact Sub.last7 | with_reducible exact Sub.last8 | with_reducible exact Sub.last9 | with_reducible exact Sub.last10 | with_reducible exact Sub.last11 | with_reducible exact Sub.last12 | with_reducible exact Sub.last13 | with_reducible exact Sub.last14 | with_reducible exact Sub.last15 | with_reducible refine Sub.head0 ?_ | with_reducible refine Sub.head1 ?_ | with_reducible refine Sub.head2 ?_ | with_reducible refine Sub.head3 ?_ | with_reducible refine Sub.head4 ?_ | with_reducible refine Sub.head5 ?_ | with_reducible refine Sub.head6 ?_ | with_reducible refine Sub.head7 ?_ | with_reducible refine Sub.head8 ?_ | with_reducible refine Sub.head9 ?_ | with_reducible refine Sub.head10 ?_ | with_reducible refine Sub.head11 ?_ | with_reducible refine Sub.head12 ?_ | with_reducible refine Sub.head13 ?_ | with_reducible refine Sub.head14 ?_ | with_reducible refine Sub.head15 ?_ | with_reducible refine Sub.drop ?_)))) ?_
  rintro _ w ⟨rfl, hw⟩
  refine ⟨_, rfl, ?_⟩
  refine rl_nil (g_le (Fr.le_skip rfl (Fr.le_skip rfl (Fr.le_refl _))) ?_)
  obtain ⟨e0, e1, hf⟩ := Cs.erase_empty (s := s) hf 0 (.inl rfl)
  generalize (s.erase pw 0).2.1 = s1 at e0 e1 hw
  generalize (s.erase pw 0).2.2 = pw1 at hf hw
  repeat (first | refine g_seq ?_ | refine g_skip ?_ | refine g_inBlock ?_ | refine g_block ?_ | refine g_label ?_)
  refine g_region ?_
  refine rl_v rfl rfl rfl (S := fun _ => True) trivial (v_move rfl) ?_
  refine rl_k rfl (k_callf Try.func36 rfl rfl rfl rfl ?_)
  refine Calls.mono (erase_calls c p s1 pw1 1 hf.2.2 (hw.sub (by repeat (first | with_reducible exact Sub.refl _ | with_reducible exact Sub.last1 | with_reducible exact Sub.last2 | with_reducible exact Sub.last3 | with_reducible exact Sub.last4 | with_reducible exact Sub.last5 | with_reducible exact Sub.last6 | with_reducible exact Sub.last7 | with_reducible exact Sub.last8 | with_reducible exact Sub.last9 | with_reducible exact Sub.last10 | with_reducible exact Sub.last11 | with_reducible exact Sub.last12 | with_reducible exact Sub.last13 | with_reducible exact Sub.last14 | with_reducible exact Sub.last15 | with_reducible refine Sub.head0 ?_ | with_reducible refine Sub.head1 ?_ | with_reducible refine Sub.head2 ?_ | with_reducible refine Sub.head3 ?_ | with_reducible refine Sub.head4 ?_ | with_reducible refine Sub.head5 ?_ | with_reducible refine Sub.head6 ?_ | with_reducible refine Sub.head7 ?_ | with_reducible refine Sub.head8 ?_ | with_reducible refine Sub.head9 ?_ | with_reducible refine Sub.head10 ?_ | with_reducible refine Sub.head11 ?_ | with_reducible refine Sub.head12 ?_ | with_reducible refine Sub.head13 ?_ | with_reducible refine Sub.head14 ?_ | with_reducible refine Sub.head15 ?_ | with_reducible refine Sub.drop ?_)))) ?_
  rintro _ w ⟨rfl, hw⟩
  refine ⟨_, rfl, ?_⟩
  refine rl_nil (g_le (Fr.le_skip rfl (Fr.le_skip rfl (Fr.le_refl _))) ?_)
  obtain ⟨e2, e3, hf⟩ := Cs.erase_empty (s := s1) hf 1 (.inr rfl)
  have e3 := (e3 0 (by omega) (.inl rfl)).trans e0
  generalize (s1.erase pw1 1).2.1 = s2 at e2 e3 hw
  generalize (s1.erase pw1 1).2.2 = pw2 at hf hw
  have hlk : Cs.like s2 ⟨nil, nil, 0⟩ := ⟨e3, e2⟩
  have hup : s2.upto 2 = [] := by rw [Cs.like_upto hlk]; rfl
  repeat (first | refine g_seq ?_ | refine g_skip ?_ | refine g_inBlock ?_ | refine g_block ?_ | refine g_label ?_)
  refine g_region ?_
  refine rl_v rfl rfl rfl (S := fun _ => True) trivial (v_move rfl) ?_
  refine rl_k rfl (k_callf Try.func37 rfl rfl rfl rfl ?_)
  refine Calls.mono (slots_calls c p s2 (hw.sub (by repeat (first | with_reducible exact Sub.refl _ | with_reducible exact Sub.last1 | with_reducible exact Sub.last2 | with_reducible exact Sub.last3 | with_reducible exact Sub.last4 | with_reducible exact Sub.last5 | with_reducible exact Sub.last6 | with_reducible exact Sub.last7 | with_reducible exact Sub.last8 | with_reducible exact Sub.last9 | with_reducible exact Sub.last10 | with_reducible exact Sub.last11 | with_reducible exact Sub.last12 | with_reducible exact Sub.last13 | with_reducible exact Sub.last14 | with_reducible exact Sub.last15 | with_reducible refine Sub.head0 ?_ | with_reducible refine Sub.head1 ?_ | with_reducible refine Sub.head2 ?_ | with_reducible refine Sub.head3 ?_ | with_reducible refine Sub.head4 ?_ | with_reducible refine Sub.head5 ?_ | with_reducible refine Sub.head6 ?_ | with_reducible refine Sub.head7 ?_ | with_reducible refine Sub.head8 ?_ | with_reducible refine Sub.head9 ?_ | with_reducible refine Sub.head10 ?_ | with_reducible refine Sub.head11 ?_ | with_reducible refine Sub.head12 ?_ | with_reducible refine Sub.head13 ?_ | with_reducible refine Sub.head14 ?_ | with_reducible refine Sub.head15 ?_ | with_reducible refine Sub.drop ?_)))) ?_
  rintro _ w ⟨v, rfl, hw⟩
  rw [hup] at hw
  obtain ⟨va, vc, rfl, _, _, _⟩ := hw.own_shape
  refine ⟨_, rfl, ?_⟩
  refine rl_v rfl rfl rfl (S := fun _ => True) trivial (v_lenSlice T.sl_74_3_1 rfl) ?_
  first | (refine rl_v rfl rfl rfl (S := fun _ => True) trivial (v_neqT rfl rfl (by omega)) ?_) | (refine rl_v rfl rfl rfl (S := fun _ => True) trivial (v_neqF rfl rfl (by first | omega | rfl)) ?_) | (refine rl_v rfl rfl rfl (S := fun _ => True) trivial (v_neq rfl rfl) ?_)
  refine rl_nil (g_le (Fr.le_keep (Fr.le_skip rfl (Fr.le_skip rfl (Fr.le_skip rfl (Fr.le_refl _))))) ?_)
  repeat (first | refine g_seq ?_ | refine g_skip ?_ | refine g_inBlock ?_ | refine g_block ?_ | refine g_label ?_)
  refine g_cond_false rfl ?_
  repeat (first | refine g_seq ?_ | refine g_skip ?_ | refine g_inBlock ?_ | refine g_block ?_ | refine g_label ?_)
  refine g_region ?_
  refine rl_v rfl rfl rfl (S := fun _ => True) trivial (v_assign rfl) ?_
  refine rl_nil (g_le (Fr.le_keep (Fr.le_refl _)) ?_)
  repeat (first | refine g_seq ?_ | refine g_skip ?_ | refine g_inBlock ?_ | refine g_block ?_ | refine g_label ?_)
  have hfq : Pw.free ⟨false, 0, 0⟩ := ⟨rfl, rfl, Pw.ok_new⟩
  refine g_loop (σ := Int × Cs × Cs × Pw × Pw) (fun x => [(10, .int .i64 x.1), (0, _), (1, _), (6, _), (7, _)])
    (fun x w => 0 ≤ x.1 ∧ x.1 ≤ len' ∧ x.2.1.like x.2.2.1 ∧ Pw.free x.2.2.2.1 ∧ Pw.free x.2.2.2.2 ∧ Sat (envOf W) w [CellAt c p x.2.1, CellAt d q x.2.2.1, PwAt p x.2.2.2.1, PwAt q x.2.2.2.2, Old W]) (fun x => (len' - x.1).toNat) ?round2
    (0, s2, ⟨nil, nil, 0⟩, pw2, ⟨false, 0, 0⟩) (by repeat (first | exact Fr.le_nil _ | refine Fr.le_cons rfl ?_)) ⟨by simp, by simp, hlk, hf, hfq, hw.sub (by repeat (first | with_reducible exact Sub.refl _ | with_reducible exact Sub.last1 | with_reducible exact Sub.last2 | with_reducible exact Sub.last3 | with_reducible exact Sub.last4 | with_reducible exact Sub.last5 | with_reducible exact Sub.last6 | with_reducible exact Sub.last7 | with_reducible exact Sub.last8 | with_reducible exact Sub.last9 | with_reducible exact Sub.last10 | with_reducible exact Sub.last11 | with_reducible exact Sub.last12 | with_reducible exact Sub.last13 | with_reducible exact Sub.last14 | with_reducible exact Sub.last15 | with_reducible refine Sub.head0 ?_ | with_reducible refine Sub.head1 ?_ | with_reducible refine Sub.head2 ?_ | with_reducible refine Sub.head3 ?_ | with_reducible refine Sub.head4 ?_ | with_reducible refine Sub.head5 ?_ | with_reducible refine Sub.head6 ?_ | with_reducible refine Sub.head7 ?_ | with_reducible refine Sub.head8 ?_ | with_reducible refine Sub.head9 ?_ | with_reducible refine Sub.head10 ?_ | with_reducible refine Sub.head11 ?_ | with_reducible refine Sub.head12 ?_ | with_reducible refine Sub.head13 ?_ | with_reducible refine Sub.head14 ?_ | with_reducible refine Sub.head15 ?_ | with_reducible refine Sub.drop ?_))⟩
  clear hf hlk hfq e2 e3 hup e0 e1 hok ih
  rintro ⟨i, s, t, pw, pv⟩ w ⟨hi0, hi1, hlk, hpw, hpv, hw⟩ ih2
  dsimp only at hi0 hi1 hlk hpw hpv hw ⊢
  repeat (first | refine g_seq ?_ | refine g_skip ?_ | refine g_inBlock ?_ | refine g_block ?_ | refine g_label ?_)
  refine g_region ?_
  refine rl_v rfl rfl rfl (S := fun _ => True) trivial (v_move rfl) ?_
  refine rl_v rfl rfl rfl (S := fun _ => True) trivial (v_move rfl) ?_
  refine rl_v rfl rfl rfl (S := fun _ => True) trivial (v_lenSlice T.sl_62_69_4 rfl) ?_
  first | (refine rl_v rfl rfl rfl (S := fun _ => True) trivial (v_lssT rfl rfl (by omega)) ?_) | (refine rl_v rfl rfl rfl (S := fun _ => True) trivial (v_lssF rfl rfl (by omega)) ?_) | (refine rl_v rfl rfl rfl (S := fun _ => True) trivial (v_lss rfl rfl) ?_)
  refine rl_nil (g_le (Fr.le_keep (Fr.le_skip rfl (Fr.le_skip rfl (Fr.le_skip rfl (Fr.le_refl _))))) ?_)
  repeat (first | refine g_seq ?_ | refine g_skip ?_ | refine g_inBlock ?_ | refine g_block ?_ | refine g_label ?_)
  refine g_cond_dec rfl (fun h5 => ?_) (fun h5 => ?_)
  · obtain ⟨b, o, kind, on, slot, str, rfl, hat, hon⟩ := op13_at hr' i hi0 h5
    repeat (first | refine g_seq ?_ | refine g_skip ?_ | refine g_inBlock ?_ | refine g_block ?_ | refine g_label ?_)
    refine g_region ?_
    refine rl_v rfl rfl rfl (S := fun _ => True) trivial (v_move rfl) ?_
    refine rl_v rfl rfl rfl (S := fun _ => True) trivial (v_move rfl) ?_
    refine rl_v rfl rfl rfl (S := fun _ => True) trivial (v_indexAddr T.sl_62_69_4 rfl rfl (by omega) (by omega)) ?_
    refine rl_v rfl rfl rfl (by first | exact sat_cells hw (by first | with_reducible exact Pick.at0 | with_reducible exact Pick.at1 | with_reducible exact Pick.at2 | with_reducible exact Pick.at3 | with_reducible exact Pick.at4 | with_reducible exact Pick.at5 | with_reducible exact Pick.at6 | with_reducible exact Pick.at7 | with_reducible exact Pick.at8 | with_reducible exact Pick.at9 | with_reducible exact Pick.at10 | with_reducible exact Pick.at11 | with_reducible exact Pick.at12 | with_reducible exact Pick.at13 | with_reducible exact Pick.at14 | with_reducible exact Pick.at15) ⟨rfl, rfl, rfl, rfl, trivial⟩ | exact old_cells hw (by first | with_reducible exact Pick.at0 | with_reducible exact Pick.at1 | with_reducible exact Pick.at2 | with_reducible exact Pick.at3 | with_reducible exact Pick.at4 | with_reducible exact Pick.at5 | with_reducible exact Pick.at6 | with_reducible exact Pick.at7 | with_reducible exact Pick.at8 | with_reducible exact Pick.at9 | with_reducible exact Pick.at10 | with_reducible exact Pick.at11 | with_reducible exact Pick.at12 | with_reducible exact Pick.at13 | with_reducible exact Pick.at14 | with_reducible exact Pick.at15) (by assumption)) (v_loadAgg (vs := [_, _, _, _]) T.agg_69_4 rfl rfl) ?_
    refine rl_k rfl (k_alloc hw T.zero_69 rfl rfl (fun blk w hw => ?_))
    first | (refine rl_k rfl (k_storeWhole hw T.agg_69_4 rfl rfl (by simp [Value.oneCell']) rfl (by first | with_reducible exact Pick.at0 | with_reducible exact Pick.at1 | with_reducible exact Pick.at2 | with_reducible exact Pick.at3 | with_reducible exact Pick.at4 | with_reducible exact Pick.at5 | with_reducible exact Pick.at6 | with_reducible exact Pick.at7 | with_reducible exact Pick.at8 | with_reducible exact Pick.at9 | with_reducible exact Pick.at10 | with_reducible exact Pick.at11 | with_reducible exact Pick.at12 | with_reducible exact Pick.at13 | with_reducible exact Pick.at14 | with_reducible exact Pick.at15) rfl (fun w hw => ?_))) | (refine rl_k rfl (k_storeAgg hw T.agg_69_4 rfl rfl (by simp [Value.oneCell']) rfl (by first | with_reducible exact Pick.at0 | with_reducible exact Pick.at1 | with_reducible exact Pick.at2 | with_reducible exact Pick.at3 | with_reducible exact Pick.at4 | with_reducible exact Pick.at5 | with_reducible exact Pick.at6 | with_reducible exact Pick.at7 | with_reducible exact Pick.at8 | with_reducible exact Pick.at9 | with_reducible exact Pick.at10 | with_reducible exact Pick.at11 | with_reducible exact Pick.at12 | with_reducible exact Pick.at13 | with_reducible exact Pick.at14 | with_reducible exact Pick.at15) rfl rfl (fun w hw => ?_)))
    refine rl_nil (g_le (Fr.le_keep (Fr.le_skip rfl (Fr.le_skip rfl (Fr.le_skip rfl (Fr.le_skip rfl (Fr.le_refl _)))))) ?_)
    repeat (first | refine g_seq ?_ | refine g_skip ?_ | refine g_inBlock ?_ | refine g_block ?_ | refine g_label ?_)
    refine g_region ?_
    first | (refine rl_v rfl rfl rfl (S := fun _ => True) trivial (v_fieldAddr0 T.fld_69_0_0 rfl) ?_) | (refine rl_v rfl rfl rfl (S := fun _ => True) trivial (v_fieldAddr T.fld_69_0_0 rfl) ?_)
    refine rl_v rfl rfl rfl (by first | exact sat_cell hw (by first | with_reducible exact Pick.at0 | with_reducible exact Pick.at1 | with_reducible exact Pick.at2 | with_reducible exact Pick.at3 | with_reducible exact Pick.at4 | with_reducible exact Pick.at5 | with_reducible exact Pick.at6 | with_reducible exact Pick.at7 | with_reducible exact Pick.at8 | with_reducible exact Pick.at9 | with_reducible exact Pick.at10 | with_reducible exact Pick.at11 | with_reducible exact Pick.at12 | with_reducible exact Pick.at13 | with_reducible exact Pick.at14 | with_reducible exact Pick.at15) rfl | exact own_cell hw (by first | with_reducible exact Pick.at0 | with_reducible exact Pick.at1 | with_reducible exact Pick.at2 | with_reducible exact Pick.at3 | with_reducible exact Pick.at4 | with_reducible exact Pick.at5 | with_reducible exact Pick.at6 | with_reducible exact Pick.at7 | with_reducible exact Pick.at8 | with_reducible exact Pick.at9 | with_reducible exact Pick.at10 | with_reducible exact Pick.at11 | with_reducible exact Pick.at12 | with_reducible exact Pick.at13 | with_reducible exact Pick.at14 | with_reducible exact Pick.at15) (by first | rfl | assumption) | exact old_cell hw (by first | with_reducible exact Pick.at0 | with_reducible exact Pick.at1 | with_reducible exact Pick.at2 | with_reducible exact Pick.at3 | with_reducible exact Pick.at4 | with_reducible exact Pick.at5 | with_reducible exact Pick.at6 | with_reducible exact Pick.at7 | with_reducible exact Pick.at8 | with_reducible exact Pick.at9 | with_reducible exact Pick.at10 | with_reducible exact Pick.at11 | with_reducible exact Pick.at12 | with_reducible exact Pick.at13 | with_reducible exact Pick.at14 | with_reducible exact Pick.at15) (by assumption)) (v_load T.scal_3 rfl) ?_
    refine rl_nil (g_le (Fr.le_keep (Fr.le_skip rfl (Fr.le_refl _))) ?_)
    repeat (first | refine g_seq ?_ | refine g_skip ?_ | refine g_inBlock ?_ | refine g_block ?_ | refine g_label ?_)
    refine g_region ?_
    first | (refine rl_v rfl rfl rfl (S := fun _ => True) trivial (v_eqlT rfl rfl (by first | omega | rfl)) ?_) | (refine rl_v rfl rfl rfl (S := fun _ => True) trivial (v_eqlF rfl rfl (by omega)) ?_) | (refine rl_v rfl rfl rfl (S := fun _ => True) trivial (v_eql rfl rfl) ?_)
    refine rl_v rfl rfl rfl (S := fun _ => True) trivial (v_assign rfl) ?_
    refine rl_nil (g_le (Fr.le_keep (Fr.le_skip rfl (Fr.le_refl _))) ?_)
    repeat (first | refine g_seq ?_ | refine g_skip ?_ | refine g_inBlock ?_ | refine g_block ?_ | refine g_label ?_)
    refine g_cond_dec rfl (fun h6 => ?_) (fun h6 => ?_)
    · obtain ⟨he, hlk', hpw', hpv'⟩ := Cs.like_set hlk hpw hpv slot str
      repeat (first | refine g_seq ?_ | refine g_skip ?_ | refine g_inBlock ?_ | refine g_block ?_ | refine g_label ?_)
      refine g_region ?_
      refine rl_v rfl rfl rfl (S := fun _ => True) trivial (v_move rfl) ?_
      first | (refine rl_v rfl rfl rfl (S := fun _ => True) trivial (v_fieldAddr0 T.fld_69_2_2 rfl) ?_) | (refine rl_v rfl rfl rfl (S := fun _ => True) trivial (v_fieldAddr T.fld_69_2_2 rfl) ?_)
      refine rl_v rfl rfl rfl (by first | exact sat_cell hw (by first | with_reducible exact Pick.at0 | with_reducible exact Pick.at1 | with_reducible exact Pick.at2 | with_reducible exact Pick.at3 | with_reducible exact Pick.at4 | with_reducible exact Pick.at5 | with_reducible exact Pick.at6 | with_reducible exact Pick.at7 | with_reducible exact Pick.at8 | with_reducible exact Pick.at9 | with_reducible exact Pick.at10 | with_reducible exact Pick.at11 | with_reducible exact Pick.at12 | with_reducible exact Pick.at13 | with_reducible exact Pick.at14 | with_reducible exact Pick.at15) rfl | exact own_cell hw (by first | with_reducible exact Pick.at0 | with_reducible exact Pick.at1 | with_reducible exact Pick.at2 | with_reducible exact Pick.at3 | with_reducible exact Pick.at4 | with_reducible exact Pick.at5 | with_reducible exact Pick.at6 | with_reducible exact Pick.at7 | with_reducible exact Pick.at8 | with_reducible exact Pick.at9 | with_reducible exact Pick.at10 | with_reducible exact Pick.at11 | with_reducible exact Pick.at12 | with_reducible exact Pick.at13 | with_reducible exact Pick.at14 | with_reducible exact Pick.at15) (by first | rfl | assumption) | exact old_cell hw (by first | with_reducible exact Pick.at0 | with_reducible exact Pick.at1 | with_reducible exact Pick.at2 | with_reducible exact Pick.at3 | with_reducible exact Pick.at4 | with_reducible exact Pick.at5 | with_reducible exact Pick.at6 | with_reducible exact Pick.at7 | with_reducible exact Pick.at8 | with_reducible exact Pick.at9 | with_reducible exact Pick.at10 | with_reducible exact Pick.at11 | with_reducible exact Pick.at12 | with_reducible exact Pick.at13 | with_reducible exact Pick.at14 | with_reducible exact Pick.at15) (by assumption)) (v_load T.scal_3 rfl) ?_
      first | (refine rl_v rfl rfl rfl (S := fun _ => True) trivial (v_fieldAddr0 T.fld_69_3_3 rfl) ?_) | (refine rl_v rfl rfl rfl (S := fun _ => True) trivial (v_fieldAddr T.fld_69_3_3 rfl) ?_)
      refine rl_v rfl rfl rfl (by first | exact sat_cell hw (by first | with_reducible exact Pick.at0 | with_reducible exact Pick.at1 | with_reducible exact Pick.at2 | with_reducible exact Pick.at3 | with_reducible exact Pick.at4 | with_reducible exact Pick.at5 | with_reducible exact Pick.at6 | with_reducible exact Pick.at7 | with_reducible exact Pick.at8 | with_reducible exact Pick.at9 | with_reducible exact Pick.at10 | with_reducible exact Pick.at11 | with_reducible exact Pick.at12 | with_reducible exact Pick.at13 | with_reducible exact Pick.at14 | with_reducible exact Pick.at15) rfl | exact own_cell hw (by first | with_reducible exact Pick.at0 | with_reducible exact Pick.at1 | with_reducible exact Pick.at2 | with_reducible exact Pick.at3 | with_reducible exact Pick.at4 | with_reducible exact Pick.at5 | with_reducible exact Pick.at6 | with_reducible exact Pick.at7 | with_reducible exact Pick.at8 | with_reducible exact Pick.at9 | with_reducible exact Pick.at10 | with_reducible exact Pick.at11 | with_reducible exact Pick.at12 | with_reducible exact Pick.at13 | with_reducible exact Pick.at14 | with_reducible exact Pick.at15) (by first | rfl | assumption) | exact old_cell hw (by first | with_reducible exact Pick.at0 | with_reducible exact Pick.at1 | with_reducible exact Pick.at2 | with_reducible exact Pick.at3 | with_reducible exact Pick.at4 | with_reducible exact Pick.at5 | with_reducible exact Pick.at6 | with_reducible exact Pick.at7 | with_reducible exact Pick.at8 | with_reducible exact Pick.at9 | with_reducible exact Pick.at10 | with_reducible exact Pick.at11 | with_reducible exact Pick.at12 | with_reducible exact Pick.at13 | with_reducible exact Pick.at14 | with_reducible exact Pick.at15) (by assumption)) (v_load T.scal_9 rfl) ?_
      refine rl_k rfl (k_callf Try.func38 rfl rfl rfl rfl ?_)
      refine Calls.mono (set_calls c p s pw slot str hpw.2.2 (hw.sub (by repeat (first | with_reducible exact Sub.refl _ | with_reducible exact Sub.last1 | with_reducible exact Sub.last2 | with_reducible exact Sub.last3 | with_reducible exact Sub.last4 | with_reducible exact Sub.last5 | with_reducible exact Sub.last6 | with_reducible exact Sub.last7 | with_reducible exact Sub.last8 | with_reducible exact Sub.last9 | with_reducible exact Sub.last10 | with_reducible exact Sub.last11 | with_reducible exact Sub.last12 | with_reducible exact Sub.last13 | with_reducible exact Sub.last14 | with_reducible exact Sub.last15 | with_reducible refine Sub.head0 ?_ | with_reducible refine Sub.head1 ?_ | with_reducible refine Sub.head2 ?_ | with_reducible refine Sub.head3 ?_ | with_reducible refine Sub.head4 ?_ | with_reducible refine Sub.head5 ?_ | with_reducible refine Sub.head6 ?_ | with_reducible refine Sub.head7 ?_ | with_reducible refine Sub.head8 ?_ | with_reducible refine Sub.head9 ?_ | with_reducible refine Sub.head10 ?_ | with_reducible refine Sub.head11 ?_ | with_reducible refine Sub.head12 ?_ | with_reducible refine Sub.head13 ?_ | with_reducible refine Sub.head14 ?_ | with_reducible refine Sub.head15 ?_ | with_reducible refine Sub.drop ?_)))) ?_
      rintro _ w ⟨rfl, hw⟩
      refine ⟨_, rfl, ?_⟩
      refine rl_v rfl rfl rfl (S := fun _ => True) trivial (v_assign rfl) ?_
      refine rl_nil (g_le (Fr.le_keep (Fr.le_skip rfl (Fr.le_skip rfl (Fr.le_skip rfl (Fr.le_skip rfl (Fr.le_skip rfl (Fr.le_skip rfl (Fr.le_refl _)))))))) ?_)
      repeat (first | refine g_seq ?_ | refine g_skip ?_ | refine g_inBlock ?_ | refine g_block ?_ | refine g_label ?_)
      refine g_region ?_
      refine rl_v rfl rfl rfl (S := fun _ => True) trivial (v_move rfl) ?_
      first | (refine rl_v rfl rfl rfl (S := fun _ => True) trivial (v_fieldAddr0 T.fld_69_2_2 rfl) ?_) | (refine rl_v rfl rfl rfl (S := fun _ => True) trivial (v_fieldAddr T.fld_69_2_2 rfl) ?_)
      refine rl_v rfl rfl rfl (by first | exact sat_cell hw (by first | with_reducible exact Pick.at0 | with_reducible exact Pick.at1 | with_reducible exact Pick.at2 | with_reducible exact Pick.at3 | with_reducible exact Pick.at4 | with_reducible exact Pick.at5 | with_reducible exact Pick.at6 | with_reducible exact Pick.at7 | with_reducible exact Pick.at8 | with_reducible exact Pick.at9 | with_reducible exact Pick.at10 | with_reducible exact Pick.at11 | with_reducible exact Pick.at12 | with_reducible exact Pick.at13 | with_reducible exact Pick.at14 | with_reducible exact Pick.at15) rfl | exact own_cell hw (by first | with_reducible exact Pick.at0 | with_reducible exact Pick.at1 | with_reducible exact Pick.at2 | with_reducible exact Pick.at3 | with_reducible exact Pick.at4 | with_reducible exact Pick.at5 | with_reducible exact Pick.at6 | with_reducible exact Pick.at7 | with_reducible exact Pick.at8 | with_reducible exact Pick.at9 | with_reducible exact Pick.at10 | with_reducible exact Pick.at11 | with_reducible exact Pick.at12 | with_reducible exact Pick.at13 | with_reducible exact Pick.at14 | with_reducible exact Pick.at15) (by first | rfl | assumption) | exact old_cell hw (by first | with_reducible exact Pick.at0 | with_reducible exact Pick.at1 | with_reducible exact Pick.at2 | with_reducible exact Pick.at3 | with_reducible exact Pick.at4 | with_reducible exact Pick.at5 | with_reducible exact Pick.at6 | with_reducible exact Pick.at7 | with_reducible exact Pick.at8 | with_reducible exact Pick.at9 | with_reducible exact Pick.at10 | with_reducible exact Pick.at11 | with_reducible exact Pick.at12 | with_reducible exact Pick.at13 | with_reducible exact Pick.at14 | with_reducible exact Pick.at15) (by assumption)) (v_load T.scal_3 rfl) ?_
      first | (refine rl_v rfl rfl rfl (S := fun _ => True) trivial (v_fieldAddr0 T.fld_69_3_3 rfl) ?_) | (refine rl_v rfl rfl rfl (S := fun _ => True) trivial (v_fieldAddr T.fld_69_3_3 rfl) ?_)
      refine rl_v rfl rfl rfl (by first | exact sat_cell hw (by first | with_reducible exact Pick.at0 | with_reducible exact Pick.at1 | with_reducible exact Pick.at2 | with_reducible exact Pick.at3 | with_reducible exact Pick.at4 | with_reducible exact Pick.at5 | with_reducible exact Pick.at6 | with_reducible exact Pick.at7 | with_reducible exact Pick.at8 | with_reducible exact Pick.at9 | with_reducible exact Pick.at10 | with_reducible exact Pick.at11 | with_reducible exact Pick.at12 | with_reducible exact Pick.at13 | with_reducible exact Pick.at14 | with_reducible exact Pick.at15) rfl | exact own_cell hw (by first | with_reducible exact Pick.at0 | with_reducible exact Pick.at1 | with_reducible exact Pick.at2 | with_reducible exact Pick.at3 | with_reducible exact Pick.at4 | with_reducible exact Pick.at5 | with_reducible exact Pick.at6 | with_reducible exact Pick.at7 | with_reducible exact Pick.at8 | with_reducible exact Pick.at9 | with_reducible exact Pick.at10 | with_reducible exact Pick.at11 | with_reducible exact Pick.at12 | with_reducible exact Pick.at13 | with_reducible exact Pick.at14 | with_reducible exact Pick.at15) (by first | rfl | assumption) | exact old_cell hw (by first | with_reducible exact Pick.at0 | with_reducible exact Pick.at1 | with_reducible exact Pick.at2 | with_reducible exact Pick.at3 | with_reducible exact Pick.at4 | with_reducible exact Pick.at5 | with_reducible exact Pick.at6 | with_reducible exact Pick.at7 | with_reducible exact Pick.at8 | with_reducible exact Pick.at9 | with_reducible exact Pick.at10 | with_reducible exact Pick.at11 | with_reducible exact Pick.at12 | with_reducible exact Pick.at13 | with_reducible exact Pick.at14 | with_reducible exact Pick.at15) (by assumption)) (v_load T.scal_9 rfl) ?_
      refine rl_k rfl (k_callf Try.func38 rfl rfl rfl rfl ?_)
      refine Calls.mono (set_calls d q t pv slot str hpv.2.2 (hw.sub (by repeat (first | with_reducible exact Sub.refl _ | with_reducible exact Sub.last1 | with_reducible exact Sub.last2 | with_reducible exact Sub.last3 | with_reducible exact Sub.last4 | with_reducible exact Sub.last5 | with_reducible exact Sub.last6 | with_reducible exact Sub.last7 | with_reducible exact Sub.last8 | with_reducible exact Sub.last9 | with_reducible exact Sub.last10 | with_reducible exact Sub.last11 | with_reducible exact Sub.last12 | with_reducible exact Sub.last13 | with_reducible exact Sub.last14 | with_reducible exact Sub.last15 | with_reducible refine Sub.head0 ?_ | with_reducible refine Sub.head1 ?_ | with_reducible refine Sub.head2 ?_ | with_reducible refine Sub.head3 ?_ | with_reducible refine Sub.head4 ?_ | with_reducible refine Sub.head5 ?_ | with_reducible refine Sub.head6 ?_ | with_reducible refine Sub.head7 ?_ | with_reducible refine Sub.head8 ?_ | with_reducible refine Sub.head9 ?_ | with_reducible refine Sub.head10 ?_ | with_reducible refine Sub.head11 ?_ | with_reducible refine Sub.head12 ?_ | with_reducible refine Sub.head13 ?_ | with_reducible refine Sub.head14 ?_ | with_reducible refine Sub.head15 ?_ | with_reducible refine Sub.drop ?_)))) ?_
      rintro _ w ⟨rfl, hw⟩
      refine ⟨_, rfl, ?_⟩
      refine rl_v rfl rfl rfl (S := fun _ => True) trivial (v_assign rfl) ?_
      refine rl_nil (g_le (Fr.le_keep (Fr.le_skip rfl (Fr.le_skip rfl (Fr.le_skip rfl (Fr.le_skip rfl (Fr.le_skip rfl (Fr.le_skip rfl (Fr.le_refl _)))))))) ?_)
      repeat (first | refine g_seq ?_ | refine g_skip ?_ | refine g_inBlock ?_ | refine g_block ?_ | refine g_label ?_)
      refine g_region ?_
      refine rl_v rfl rfl rfl (S := fun _ => True) trivial (v_move rfl) ?_
      refine rl_v rfl rfl rfl (S := fun _ => True) trivial (v_move rfl) ?_
      first | (refine rl_v rfl rfl rfl (S := fun _ => True) trivial (v_neqT rfl rfl (by omega)) ?_) | (refine rl_v rfl rfl rfl (S := fun _ => True) trivial (v_neqF rfl rfl (by first | omega | rfl)) ?_) | (refine rl_v rfl rfl rfl (S := fun _ => True) trivial (v_neq rfl rfl) ?_)
      refine rl_nil (g_le (Fr.le_keep (Fr.le_skip rfl (Fr.le_skip rfl (Fr.le_refl _)))) ?_)
      repeat (first | refine g_seq ?_ | refine g_skip ?_ | refine g_inBlock ?_ | refine g_block ?_ | refine g_label ?_)
      refine g_cond_false rfl ?_
      generalize (s.set pw slot str).2.1 = s at hw hlk'
      generalize (t.set pv slot str).2.1 = t at hw hlk'
      generalize (Cs.set _ pw slot str).2.2 = pw at hw hpw'
      generalize (Cs.set _ pv slot str).2.2 = pv at hw hpv'
      have hlk := hlk'
      have hpw := hpw'
      have hpv := hpv'
      repeat (first | refine g_seq ?_ | refine g_skip ?_ | refine g_inBlock ?_ | refine g_block ?_ | refine g_label ?_)
      refine g_region ?_
      refine rl_v rfl rfl rfl (S := fun _ => True) trivial (v_assign rfl) ?_
      refine rl_nil (g_le (Fr.le_keep (Fr.le_refl _)) ?_)
      repeat (first | refine g_seq ?_ | refine g_skip ?_ | refine g_inBlock ?_ | refine g_block ?_ | refine g_label ?_)
      refine g_loop (σ := Int) (fun x => [(16, .int .i64 x), (10, .int .i64 i), (0, _), (1, _), (6, _), (7, _)])
        (fun x w => 0 ≤ x ∧ x ≤ 2 ∧ Sat (envOf W) w [CellAt c p s, CellAt d q t, PwAt p pw, PwAt q pv, Old W]) (fun x => (2 - x).toNat) ?_ 0 (by repeat (first | exact Fr.le_nil _ | refine Fr.le_cons rfl ?_)) ⟨by simp, by simp, hw.sub (by repeat (first | with_reducible exact Sub.refl _ | with_reducible exact Sub.last1 | with_reducible exact Sub.last2 | with_reducible exact Sub.last3 | with_reducible exact Sub.last4 | with_reducible exact Sub.last5 | with_reducible exact Sub.last6 | with_reducible exact Sub.last7 | with_reducible exact Sub.last8 | with_reducible exact Sub.last9 | with_reducible exact Sub.last10 | with_reducible exact Sub.last11 | with_reducible exact Sub.last12 | with_reducible exact Sub.last13 | with_reducible exact Sub.last14 | with_reducible exact Sub.last15 | with_reducible refine Sub.head0 ?_ | with_reducible refine Sub.head1 ?_ | with_reducible refine Sub.head2 ?_ | with_reducible refine Sub.head3 ?_ | with_reducible refine Sub.head4 ?_ | with_reducible refine Sub.head5 ?_ | with_reducible refine Sub.head6 ?_ | with_reducible refine Sub.head7 ?_ | with_reducible refine Sub.head8 ?_ | with_reducible refine Sub.head9 ?_ | with_reducible refine Sub.head10 ?_ | with_reducible refine Sub.head11 ?_ | with_reducible refine Sub.head12 ?_ | with_reducible refine Sub.head13 ?_ | with_reducible refine Sub.head14 ?_ | with_reducible refine Sub.head15 ?_ | with_reducible refine Sub.drop ?_))⟩
      intro k w ⟨hk0, hk1, hw⟩ ih3
      repeat (first | refine g_seq ?_ | refine g_skip ?_ | refine g_inBlock ?_ | refine g_block ?_ | refine g_label ?_)
      refine g_region ?_
      refine rl_v rfl rfl rfl (S := fun _ => True) trivial (v_move rfl) ?_
      first | (refine rl_v rfl rfl rfl (S := fun _ => True) trivial (v_lssT rfl rfl (by omega)) ?_) | (refine rl_v rfl rfl rfl (S := fun _ => True) trivial (v_lssF rfl rfl (by omega)) ?_) | (refine rl_v rfl rfl rfl (S := fun _ => True) trivial (v_lss rfl rfl) ?_)
      refine rl_nil (g_le (Fr.le_keep (Fr.le_skip rfl (Fr.le_refl _))) ?_)
      repeat (first | refine g_seq ?_ | refine g_skip ?_ | refine g_inBlock ?_ | refine g_block ?_ | refine g_label ?_)
      refine g_cond_dec rfl (fun h7 => ?_) (fun h7 => ?_)
      · repeat (first | refine g_seq ?_ | refine g_skip ?_ | refine g_inBlock ?_ | refine g_block ?_ | refine g_label ?_)
        refine g_region ?_
        refine rl_v rfl rfl rfl (S := fun _ => True) trivial (v_move rfl) ?_
        refine rl_v rfl rfl rfl (S := fun _ => True) trivial (v_move rfl) ?_
        refine rl_k rfl (k_callf Try.func39 rfl rfl rfl rfl ?_)
        refine Calls.mono (get_eq c p s k (s.told k).1 (s.told k).2 rfl (hw.sub (by repeat (first | with_reducible exact Sub.refl _ | with_reducible exact Sub.last1 | with_reducible exact Sub.last2 | with_reducible exact Sub.last3 | with_reducible exact Sub.last4 | with_reducible exact Sub.last5 | with_reducible exact Sub.last6 | with_reducible exact Sub.last7 | with_reducible exact Sub.last8 | with_reducible exact Sub.last9 | with_reducible exact Sub.last10 | with_reducible exact Sub.last11 | with_reducible exact Sub.last12 | with_reducible exact Sub.last13 | with_reducible exact Sub.last14 | with_reducible exact Sub.last15 | with_reducible refine Sub.head0 ?_ | with_reducible refine Sub.head1 ?_ | with_reducible refine Sub.head2 ?_ | with_reducible refine Sub.head3 ?_ | with_reducible refine Sub.head4 ?_ | with_reducible refine Sub.head5 ?_ | with_reducible refine Sub.head6 ?_ | with_reducible refine Sub.head7 ?_ | with_reducible refine Sub.head8 ?_ | with_reducible refine Sub.head9 ?_ | with_reducible refine Sub.head10 ?_ | with_reducible refine Sub.head11 ?_ | with_reducible refine Sub.head12 ?_ | with_reducible refine Sub.head13 ?_ | with_reducible refine Sub.head14 ?_ | with_reducible refine Sub.head15 ?_ | with_reducible refine Sub.drop ?_)))) ?_
        rintro _ w ⟨rfl, hw⟩
        refine ⟨_, rfl, ?_⟩
        refine rl_v rfl rfl rfl (S := fun _ => True) trivial (v_move rfl) ?_
        refine rl_v rfl rfl rfl (S := fun _ => True) trivial (v_extract rfl rfl) ?_
        refine rl_v rfl rfl rfl (S := fun _ => True) trivial (v_extract rfl rfl) ?_
        refine rl_v rfl rfl rfl (S := fun _ => True) trivial (v_assign rfl) ?_
        refine rl_v rfl rfl rfl (S := fun _ => True) trivial (v_assign rfl) ?_
        refine rl_nil (g_le (Fr.le_keep (Fr.le_keep (Fr.le_skip rfl (Fr.le_skip rfl (Fr.le_skip rfl (Fr.le_skip rfl (Fr.le_skip rfl (Fr.le_skip rfl (Fr.le_refl _))))))))) ?_)
        repeat (first | refine g_seq ?_ | refine g_skip ?_ | refine g_inBlock ?_ | refine g_block ?_ | refine g_label ?_)
        refine g_region ?_
        refine rl_v rfl rfl rfl (S := fun _ => True) trivial (v_move rfl) ?_
        refine rl_v rfl rfl rfl (S := fun _ => True) trivial (v_move rfl) ?_
        refine rl_k rfl (k_callf Try.func39 rfl rfl rfl rfl ?_)
        refine Calls.mono (get_eq d q t k (s.told k).1 (s.told k).2 (Cs.like_told hlk k).symm (hw.sub (by repeat (first | with_reducible exact Sub.refl _ | with_reducible exact Sub.last1 | with_reducible exact Sub.last2 | with_reducible exact Sub.last3 | with_reducible exact Sub.last4 | with_reducible exact Sub.last5 | with_reducible exact Sub.last6 | with_reducible exact Sub.last7 | with_reducible exact Sub.last8 | with_reducible exact Sub.last9 | with_reducible exact Sub.last10 | with_reducible exact Sub.last11 | with_reducible exact Sub.last12 | with_reducible exact Sub.last13 | with_reducible exact Sub.last14 | with_reducible exact Sub.last15 | with_reducible refine Sub.head0 ?_ | with_reducible refine Sub.head1 ?_ | with_reducible refine Sub.head2 ?_ | with_reducible refine Sub.head3 ?_ | with_reducible refine Sub.head4 ?_ | with_reducible refine Sub.head5 ?_ | with_reducible refine Sub.head6 ?_ | with_reducible refine Sub.head7 ?_ | with_reducible refine Sub.head8 ?_ | with_reducible refine Sub.head9 ?_ | with_reducible refine Sub.head10 ?_ | with_reducible refine Sub.head11 ?_ | with_reducible refine Sub.head12 ?_ | with_reducible refine Sub.head13 ?_ | with_reducible refine Sub.head14 ?_ | with_reducible refine Sub.head15 ?_ | with_reducible refine Sub.drop ?_)))) ?_
        rintro _ w ⟨rfl, hw⟩
        refine ⟨_, rfl, ?_⟩
        refine rl_v rfl rfl rfl (S := fun _ => True) trivial (v_move rfl) ?_
        refine rl_v rfl rfl rfl (S := fun _ => True) trivial (v_extract rfl rfl) ?_
        refine rl_v rfl rfl rfl (S := fun _ => True) trivial (v_extract rfl rfl) ?_
        refine rl_v rfl rfl rfl (S := fun _ => True) trivial (v_assign rfl) ?_
        refine rl_v rfl rfl rfl (S := fun _ => True) trivial (v_assign rfl) ?_
        refine rl_nil (g_le (Fr.le_keep (Fr.le_keep (Fr.le_skip rfl (Fr.le_skip rfl (Fr.le_skip rfl (Fr.le_skip rfl (Fr.le_skip rfl (Fr.le_skip rfl (Fr.le_refl _))))))))) ?_)
        repeat (first | refine g_seq ?_ | refine g_skip ?_ | refine g_inBlock ?_ | refine g_block ?_ | refine g_label ?_)
        refine g_region ?_
        refine rl_v rfl rfl rfl (S := fun _ => True) trivial (v_move rfl) ?_
        refine rl_v rfl rfl rfl (S := fun _ => True) trivial (v_move rfl) ?_
        first | (refine rl_v rfl rfl rfl (S := fun _ => True) trivial (v_neqStrF rfl rfl (by first | rfl | assumption)) ?_) | (refine rl_v rfl rfl rfl (S := fun _ => True) trivial (v_neqStrT rfl rfl (by first | assumption | decide)) ?_) | (refine rl_v rfl rfl rfl (S := fun _ => True) trivial (v_neqStr rfl rfl) ?_)
        refine rl_v rfl rfl rfl (S := fun _ => True) trivial (v_move rfl) ?_
        first | (refine rl_vg (met_on rfl rfl rfl rfl) rfl rfl (S := fun _ => True) trivial (v_move rfl) ?_) | (refine rl_off (met_off rfl rfl rfl rfl rfl) rfl rfl ?_)
        first | (refine rl_vg (met_on rfl rfl rfl rfl) rfl rfl (S := fun _ => True) trivial (v_move rfl) ?_) | (refine rl_off (met_off rfl rfl rfl rfl rfl) rfl rfl ?_)
        first | (refine rl_vg (met_on rfl rfl rfl rfl) rfl rfl (S := fun _ => True) trivial (v_neqBoolF T.bool_4 rfl rfl (by first | rfl | assumption)) ?_) | (refine rl_vg (met_on rfl rfl rfl rfl) rfl rfl (S := fun _ => True) trivial (v_neqBool T.bool_4 rfl rfl) ?_) | (refine rl_off (met_off rfl rfl rfl rfl rfl) rfl rfl ?_)
        first | (refine rl_v rfl rfl rfl (S := fun _ => True) trivial (v_pick_true rfl rfl) ?_) | (refine rl_v rfl rfl rfl (S := fun _ => True) trivial (v_pick_false rfl rfl) ?_) | (refine rl_v rfl rfl rfl (S := fun _ => True) trivial (v_pick rfl rfl rfl) ?_)
        refine rl_nil (g_le (Fr.le_keep (Fr.le_skip rfl (Fr.le_skip rfl (Fr.le_skip rfl (Fr.le_skip rfl (Fr.le_skip rfl (Fr.le_skip rfl (Fr.le_skip rfl (Fr.le_refl _))))))))) ?_)
        repeat (first | refine g_seq ?_ | refine g_skip ?_ | refine g_inBlock ?_ | refine g_block ?_ | refine g_label ?_)
        refine g_cond_false rfl ?_
        repeat (first | refine g_seq ?_ | refine g_skip ?_ | refine g_inBlock ?_ | refine g_block ?_ | refine g_label ?_)
        refine g_region ?_
        refine rl_v rfl rfl rfl (S := fun _ => True) trivial (v_move rfl) ?_
        first | (refine rl_v rfl rfl rfl (S := fun _ => True) trivial (v_add rfl rfl (by omega)) ?_) | (refine rl_v rfl rfl rfl (S := fun _ => True) trivial (v_addW rfl rfl) ?_)
        refine rl_v rfl rfl rfl (S := fun _ => True) trivial (v_assign rfl) ?_
        refine rl_nil (g_le (Fr.le_keep (Fr.le_skip rfl (Fr.le_skip rfl (Fr.le_refl _)))) ?_)
        exact g_le (by repeat (first | exact Fr.le_nil _ | refine Fr.le_cons rfl ?_)) (ih3 (k + 1) w ⟨by omega, by omega, hw.sub (by repeat (first | with_reducible exact Sub.refl _ | with_reducible exact Sub.last1 | with_reducible exact Sub.last2 | with_reducible exact Sub.last3 | with_reducible exact Sub.last4 | with_reducible exact Sub.last5 | with_reducible exact Sub.last6 | with_reducible exact Sub.last7 | with_reducible exact Sub.last8 | with_reducible exact Sub.last9 | with_reducible exact Sub.last10 | with_reducible exact Sub.last11 | with_reducible exact Sub.last12 | with_reducible exact Sub.last13 | with_reducible exact Sub.last14 | with_reducible exact Sub.last15 | with_reducible refine Sub.head0 ?_ | with_reducible refine Sub.head1 ?_ | with_reducible refine Sub.head2 ?_ | with_reducible refine Sub.head3 ?_ | with_reducible refine Sub.head4 ?_ | with_reducible refine Sub.head5 ?_ | with_reducible refine Sub.head6 ?_ | with_reducible refine Sub.head7 ?_ | with_reducible refine Sub.head8 ?_ | with_reducible refine Sub.head9 ?_ | with_reducible refine Sub.head10 ?_ | with_reducible refine Sub.head11 ?_ | with_reducible refine Sub.head12 ?_ | with_reducible refine Sub.head13 ?_ | with_reducible refine Sub.head14 ?_ | with_reducible refine Sub.head15 ?_ | with_reducible refine Sub.drop ?_))⟩ (by omega))
      · repeat (first | refine g_seq ?_ | refine g_skip ?_ | refine g_inBlock ?_ | refine g_block ?_ | refine g_label ?_)
        refine g_exit rfl ?_
        repeat (first | refine g_seq ?_ | refine g_skip ?_ | refine g_inBlock ?_ | refine g_block ?_ | refine g_label ?_)
        refine g_region ?_
        refine rl_v rfl rfl rfl (S := fun _ => True) trivial (v_move rfl) ?_
        first | (refine rl_v rfl rfl rfl (S := fun _ => True) trivial (v_add rfl rfl (by omega)) ?_) | (refine rl_v rfl rfl rfl (S := fun _ => True) trivial (v_addW rfl rfl) ?_)
        refine rl_v rfl rfl rfl (S := fun _ => True) trivial (v_assign rfl) ?_
        refine rl_nil (g_le (Fr.le_keep (Fr.le_skip rfl (Fr.le_skip rfl (Fr.le_refl _)))) ?_)
        exact g_le (by repeat (first | exact Fr.le_nil _ | refine Fr.le_cons rfl ?_)) (ih2 (i + 1, s, t, pw, pv) w ⟨by simp only; omega, by simp only; omega, hlk, hpw, hpv, hw.sub (by repeat (first | with_reducible exact Sub.refl _ | with_reducible exact Sub.last1 | with_reducible exact Sub.last2 | with_reducible exact Sub.last3 | with_reducible exact Sub.last4 | with_reducible exact Sub.last5 | with_reducible exact Sub.last6 | with_reducible exact Sub.last7 | with_reducible exact Sub.last8 | with_reducible exact Sub.last9 | with_reducible exact Sub.last10 | with_reducible exact Sub.last11 | with_reducible exact Sub.last12 | with_reducible exact Sub.last13 | with_reducible exact Sub.last14 | with_reducible exact Sub.last15 | with_reducible refine Sub.head0 ?_ | with_reducible refine Sub.head1 ?_ | with_reducible refine Sub.head2 ?_ | with_reducible refine Sub.head3 ?_ | with_reducible refine Sub.head4 ?_ | with_reducible refine Sub.head5 ?_ | with_reducible refine Sub.head6 ?_ | with_reducible refine Sub.head7 ?_ | with_reducible refine Sub.head8 ?_ | with_reducible refine Sub.head9 ?_ | with_reducible refine Sub.head10 ?_ | with_reducible refine Sub.head11 ?_ | with_reducible refine Sub.head12 ?_ | with_reducible refine Sub.head13 ?_ | with_reducible refine Sub.head14 ?_ | with_reducible refine Sub.head15 ?_ | with_reducible refine Sub.drop ?_))⟩ (by simp only; omega))
    · repeat (first | refine g_seq ?_ | refine g_skip ?_ | refine g_inBlock ?_ | refine g_block ?_ | refine g_label ?_)
      refine g_region ?_
      first | (refine rl_v rfl rfl rfl (S := fun _ => True) trivial (v_eqlT rfl rfl (by first | omega | rfl)) ?_) | (refine rl_v rfl rfl rfl (S := fun _ => True) trivial (v_eqlF rfl rfl (by omega)) ?_) | (refine rl_v rfl rfl rfl (S := fun _ => True) trivial (v_eql rfl rfl) ?_)
      refine rl_v rfl rfl rfl (S := fun _ => True) trivial (v_assign rfl) ?_
      refine rl_nil (g_le (Fr.le_keep (Fr.le_skip rfl (Fr.le_refl _))) ?_)
      repeat (first | refine g_seq ?_ | refine g_skip ?_ | refine g_inBlock ?_ | refine g_block ?_ | refine g_label ?_)
      refine g_cond_dec rfl (fun h8 => ?_) (fun h8 => ?_)
      · obtain ⟨he, hlk', hpw', hpv'⟩ := Cs.like_erase hlk hpw hpv slot
        repeat (first | refine g_seq ?_ | refine g_skip ?_ | refine g_inBlock ?_ | refine g_block ?_ | refine g_label ?_)
        refine g_region ?_
        refine rl_v rfl rfl rfl (S := fun _ => True) trivial (v_move rfl) ?_
        first | (refine rl_v rfl rfl rfl (S := fun _ => True) trivial (v_fieldAddr0 T.fld_69_2_2 rfl) ?_) | (refine rl_v rfl rfl rfl (S := fun _ => True) trivial (v_fieldAddr T.fld_69_2_2 rfl) ?_)
        refine rl_v rfl rfl rfl (by first | exact sat_cell hw (by first | with_reducible exact Pick.at0 | with_reducible exact Pick.at1 | with_reducible exact Pick.at2 | with_reducible exact Pick.at3 | with_reducible exact Pick.at4 | with_reducible exact Pick.at5 | with_reducible exact Pick.at6 | with_reducible exact Pick.at7 | with_reducible exact Pick.at8 | with_reducible exact Pick.at9 | with_reducible exact Pick.at10 | with_reducible exact Pick.at11 | with_reducible exact Pick.at12 | with_reducible exact Pick.at13 | with_reducible exact Pick.at14 | with_reducible exact Pick.at15) rfl | exact own_cell hw (by first | with_reducible exact Pick.at0 | with_reducible exact Pick.at1 | with_reducible exact Pick.at2 | with_reducible exact Pick.at3 | with_reducible exact Pick.at4 | with_reducible exact Pick.at5 | with_reducible exact Pick.at6 | with_reducible exact Pick.at7 | with_reducible exact Pick.at8 | with_reducible exact Pick.at9 | with_reducible exact Pick.at10 | with_reducible exact Pick.at11 | with_reducible exact Pick.at12 | with_reducible exact Pick.at13 | with_reducible exact Pick.at14 | with_reducible exact Pick.at15) (by first | rfl | assumption) | exact old_cell hw (by first | with_reducible exact Pick.at0 | with_reducible exact Pick.at1 | with_reducible exact Pick.at2 | with_reducible exact Pick.at3 | with_reducible exact Pick.at4 | with_reducible exact Pick.at5 | with_reducible exact Pick.at6 | with_reducible exact Pick.at7 | with_reducible exact Pick.at8 | with_reducible exact Pick.at9 | with_reducible exact Pick.at10 | with_reducible exact Pick.at11 | with_reducible exact Pick.at12 | with_reducible exact Pick.at13 | with_reducible exact Pick.at14 | with_reducible exact Pick.at15) (by assumption)) (v_load T.scal_3 rfl) ?_
        refine rl_k rfl (k_callf Try.func36 rfl rfl rfl rfl ?_)
        refine Calls.mono (erase_calls c p s pw slot hpw.2.2 (hw.sub (by repeat (first | with_reducible exact Sub.refl _ | with_reducible exact Sub.last1 | with_reducible exact Sub.last2 | with_reducible exact Sub.last3 | with_reducible exact Sub.last4 | with_reducible exact Sub.last5 | with_reducible exact Sub.last6 | with_reducible exact Sub.last7 | with_reducible exact Sub.last8 | with_reducible exact Sub.last9 | with_reducible exact Sub.last10 | with_reducible exact Sub.last11 | with_reducible exact Sub.last12 | with_reducible exact Sub.last13 | with_reducible exact Sub.last14 | with_reducible exact Sub.last15 | with_reducible refine Sub.head0 ?_ | with_reducible refine Sub.head1 ?_ | with_reducible refine Sub.head2 ?_ | with_reducible refine Sub.head3 ?_ | with_reducible refine Sub.head4 ?_ | with_reducible refine Sub.head5 ?_ | with_reducible refine Sub.head6 ?_ | with_reducible refine Sub.head7 ?_ | with_reducible refine Sub.head8 ?_ | with_reducible refine Sub.head9 ?_ | with_reducible refine Sub.head10 ?_ | with_reducible refine Sub.head11 ?_ | with_reducible refine Sub.head12 ?_ | with_reducible refine Sub.head13 ?_ | with_reducible refine Sub.head14 ?_ | with_reducible refine Sub.head15 ?_ | with_reducible refine Sub.drop ?_)))) ?_
        rintro _ w ⟨rfl, hw⟩
        refine ⟨_, rfl, ?_⟩
        refine rl_v rfl rfl rfl (S := fun _ => True) trivial (v_assign rfl) ?_
        refine rl_nil (g_le (Fr.le_keep (Fr.le_skip rfl (Fr.le_skip rfl (Fr.le_skip rfl (Fr.le_skip rfl (Fr.le_refl _)))))) ?_)
        repeat (first | refine g_seq ?_ | refine g_skip ?_ | refine g_inBlock ?_ | refine g_block ?_ | refine g_label ?_)
        refine g_region ?_
        refine rl_v rfl rfl rfl (S := fun _ => True) trivial (v_move rfl) ?_
        first | (refine rl_v rfl rfl rfl (S := fun _ => True) trivial (v_fieldAddr0 T.fld_69_2_2 rfl) ?_) | (refine rl_v rfl rfl rfl (S := fun _ => True) trivial (v_fieldAddr T.fld_69_2_2 rfl) ?_)
        refine rl_v rfl rfl rfl (by first | exact sat_cell hw (by first | with_reducible exact Pick.at0 | with_reducible exact Pick.at1 | with_reducible exact Pick.at2 | with_reducible exact Pick.at3 | with_reducible exact Pick.at4 | with_reducible exact Pick.at5 | with_reducible exact Pick.at6 | with_reducible exact Pick.at7 | with_reducible exact Pick.at8 | with_reducible exact Pick.at9 | with_reducible exact Pick.at10 | with_reducible exact Pick.at11 | with_reducible exact Pick.at12 | with_reducible exact Pick.at13 | with_reducible exact Pick.at14 | with_reducible exact Pick.at15) rfl | exact own_cell hw (by first | with_reducible exact Pick.at0 | with_reducible exact Pick.at1 | with_reducible exact Pick.at2 | with_reducible exact Pick.at3 | with_reducible exact Pick.at4 | with_reducible exact Pick.at5 | with_reducible exact Pick.at6 | with_reducible exact Pick.at7 | with_reducible exact Pick.at8 | with_reducible exact Pick.at9 | with_reducible exact Pick.at10 | with_reducible exact Pick.at11 | with_reducible exact Pick.at12 | with_reducible exact Pick.at13 | with_reducible exact Pick.at14 | with_reducible exact Pick.at15) (by first | rfl | assumption) | exact old_cell hw (by first | with_reducible exact Pick.at0 | with_reducible exact Pick.at1 | with_reducible exact Pick.at2 | with_reducible exact Pick.at3 | with_reducible exact Pick.at4 | with_reducible exact Pick.at5 | with_reducible exact Pick.at6 | with_reducible exact Pick.at7 | with_reducible exact Pick.at8 | with_reducible exact Pick.at9 | with_reducible exact Pick.at10 | with_reducible exact Pick.at11 | with_reducible exact Pick.at12 | with_reducible exact Pick.at13 | with_reducible exact Pick.at14 | with_reducible exact Pick.at15) (by assumption)) (v_load T.scal_3 rfl) ?_
        refine rl_k rfl (k_callf Try.func36 rfl rfl rfl rfl ?_)
        refine Calls.mono (erase_calls d q t pv slot hpv.2.2 (hw.sub (by repeat (first | with_reducible exact Sub.refl _ | with_reducible exact Sub.last1 | with_reducible exact Sub.last2 | with_reducible exact Sub.last3 | with_reducible exact Sub.last4 | with_reducible exact Sub.last5 | with_reducible exact Sub.last6 | with_reducible exact Sub.last7 | with_reducible exact Sub.last8 | with_reducible exact Sub.last9 | with_reducible exact Sub.last10 | with_reducible exact Sub.last11 | with_reducible exact Sub.last12 | with_reducible exact Sub.last13 | with_reducible exact Sub.last14 | with_reducible exact Sub.last15 | with_reducible refine Sub.head0 ?_ | with_reducible refine Sub.head1 ?_ | with_reducible refine Sub.head2 ?_ | with_reducible refine Sub.head3 ?_ | with_reducible refine Sub.head4 ?_ | with_reducible refine Sub.head5 ?_ | with_reducible refine Sub.head6 ?_ | with_reducible refine Sub.head7 ?_ | with_reducible refine Sub.head8 ?_ | with_reducible refine Sub.head9 ?_ | with_reducible refine Sub.head10 ?_ | with_reducible refine Sub.head11 ?_ | with_reducible refine Sub.head12 ?_ | with_reducible refine Sub.head13 ?_ | with_reducible refine Sub.head14 ?_ | with_reducible refine Sub.head15 ?_ | with_reducible refine Sub.drop ?_)))) ?_
        rintro _ w ⟨rfl, hw⟩
        refine ⟨_, rfl, ?_⟩
        refine rl_v rfl rfl rfl (S := fun _ => True) trivial (v_assign rfl) ?_
        refine rl_nil (g_le (Fr.le_keep (Fr.le_skip rfl (Fr.le_skip rfl (Fr.le_skip rfl (Fr.le_skip rfl (Fr.le_refl _)))))) ?_)
        repeat (first | refine g_seq ?_ | refine g_skip ?_ | refine g_inBlock ?_ | refine g_block ?_ | refine g_label ?_)
        refine g_region ?_
        refine rl_v rfl rfl rfl (S := fun _ => True) trivial (v_move rfl) ?_
        refine rl_v rfl rfl rfl (S := fun _ => True) trivial (v_move rfl) ?_
        first | (refine rl_v rfl rfl rfl (S := fun _ => True) trivial (v_neqT rfl rfl (by omega)) ?_) | (refine rl_v rfl rfl rfl (S := fun _ => True) trivial (v_neqF rfl rfl (by first | omega | rfl)) ?_) | (refine rl_v rfl rfl rfl (S := fun _ => True) trivial (v_neq rfl rfl) ?_)
        refine rl_nil (g_le (Fr.le_keep (Fr.le_skip rfl (Fr.le_skip rfl (Fr.le_refl _)))) ?_)
        repeat (first | refine g_seq ?_ | refine g_skip ?_ | refine g_inBlock ?_ | refine g_block ?_ | refine g_label ?_)
        refine g_cond_false rfl ?_
        generalize (s.erase pw slot).2.1 = s at hw hlk'
        generalize (t.erase pv slot).2.1 = t at hw hlk'
        generalize (Cs.erase _ pw slot).2.2 = pw at hw hpw'
        generalize (Cs.erase _ pv slot).2.2 = pv at hw hpv'
        have hlk := hlk'
        have hpw := hpw'
        have hpv := hpv'
        repeat (first | refine g_seq ?_ | refine g_skip ?_ | refine g_inBlock ?_ | refine g_block ?_ | refine g_label ?_)
        refine g_region ?_
        refine rl_v rfl rfl rfl (S := fun _ => True) trivial (v_assign rfl) ?_
        refine rl_nil (g_le (Fr.le_keep (Fr.le_refl _)) ?_)
        repeat (first | refine g_seq ?_ | refine g_skip ?_ | refine g_inBlock ?_ | refine g_block ?_ | refine g_label ?_)
        refine g_loop (σ := Int) (fun x => [(16, .int .i64 x), (10, .int .i64 i), (0, _), (1, _), (6, _), (7, _)])
          (fun x w => 0 ≤ x ∧ x ≤ 2 ∧ Sat (envOf W) w [CellAt c p s, CellAt d q t, PwAt p pw, PwAt q pv, Old W]) (fun x => (2 - x).toNat) ?_ 0 (by repeat (first | exact Fr.le_nil _ | refine Fr.le_cons rfl ?_)) ⟨by simp, by simp, hw.sub (by repeat (first | with_reducible exact Sub.refl _ | with_reducible exact Sub.last1 | with_reducible exact Sub.last2 | with_reducible exact Sub.last3 | with_reducible exact Sub.last4 | with_reducible exact Sub.last5 | with_reducible exact Sub.last6 | with_reducible exact Sub.last7 | with_reducible exact Sub.last8 | with_reducible exact Sub.last9 | with_reducible exact Sub.last10 | with_reducible exact Sub.last11 | with_reducible exact Sub.last12 | with_reducible exact Sub.last13 | with_reducible exact Sub.last14 | with_reducible exact Sub.last15 | with_reducible refine Sub.head0 ?_ | with_reducible refine Sub.head1 ?_ | with_reducible refine Sub.head2 ?_ | with_reducible refine Sub.head3 ?_ | with_reducible refine Sub.head4 ?_ | with_reducible refine Sub.head5 ?_ | with_reducible refine Sub.head6 ?_ | with_reducible refine Sub.head7 ?_ | with_reducible refine Sub.head8 ?_ | with_reducible refine Sub.head9 ?_ | with_reducible refine Sub.head10 ?_ | with_reducible refine Sub.head11 ?_ | with_reducible refine Sub.head12 ?_ | with_reducible refine Sub.head13 ?_ | with_reducible refine Sub.head14 ?_ | with_reducible refine Sub.head15 ?_ | with_reducible refine Sub.drop ?_))⟩
        intro k w ⟨hk0, hk1, hw⟩ ih3
        repeat (first | refine g_seq ?_ | refine g_skip ?_ | refine g_inBlock ?_ | refine g_block ?_ | refine g_label ?_)
        refine g_region ?_
        refine rl_v rfl rfl rfl (S := fun _ => True) trivial (v_move rfl) ?_
        first | (refine rl_v rfl rfl rfl (S := fun _ => True) trivial (v_lssT rfl rfl (by omega)) ?_) | (refine rl_v rfl rfl rfl (S := fun _ => True) trivial (v_lssF rfl rfl (by omega)) ?_) | (refine rl_v rfl rfl rfl (S := fun _ => True) trivial (v_lss rfl rfl) ?_)
        refine rl_nil (g_le (Fr.le_keep (Fr.le_skip rfl (Fr.le_refl _))) ?_)
        repeat (first | refine g_seq ?_ | refine g_skip ?_ | refine g_inBlock ?_ | refine g_block ?_ | refine g_label ?_)
        refine g_cond_dec rfl (fun h7 => ?_) (fun h7 => ?_)
        · repeat (first | refine g_seq ?_ | refine g_skip ?_ | refine g_inBlock ?_ | refine g_block ?_ | refine g_label ?_)
          refine g_region ?_
          refine rl_v rfl rfl rfl (S := fun _ => True) trivial (v_move rfl) ?_
          refine rl_v rfl rfl rfl (S := fun _ => True) trivial (v_move rfl) ?_
          refine rl_k rfl (k_callf Try.func39 rfl rfl rfl rfl ?_)
          refine Calls.mono (get_eq c p s k (s.told k).1 (s.told k).2 rfl (hw.sub (by repeat (first | with_reducible exact Sub.refl _ | with_reducible exact Sub.last1 | with_reducible exact Sub.last2 | with_reducible exact Sub.last3 | with_reducible exact Sub.last4 | with_reducible exact Sub.last5 | with_reducible exact Sub.last6 | with_reducible exact Sub.last7 | with_reducible exact Sub.last8 | with_reducible exact Sub.last9 | with_reducible exact Sub.last10 | with_reducible exact Sub.last11 | with_reducible exact Sub.last12 | with_reducible exact Sub.last13 | with_reducible exact Sub.last14 | with_reducible exact Sub.last15 | with_reducible refine Sub.head0 ?_ | with_reducible refine Sub.head1 ?_ | with_reducible refine Sub.head2 ?_ | with_reducible refine Sub.head3 ?_ | with_reducible refine Sub.head4 ?_ | with_reducible refine Sub.head5 ?_ | with_reducible refine Sub.head6 ?_ | with_reducible refine Sub.head7 ?_ | with_reducible refine Sub.head8 ?_ | with_reducible refine Sub.head9 ?_ | with_reducible refine Sub.head10 ?_ | with_reducible refine Sub.head11 ?_ | with_reducible refine Sub.head12 ?_ | with_reducible refine Sub.head13 ?_ | with_reducible refine Sub.head14 ?_ | with_reducible refine Sub.head15 ?_ | with_reducible refine Sub.drop ?_)))) ?_
          rintro _ w ⟨rfl, hw⟩
          refine ⟨_, rfl, ?_⟩
          refine rl_v rfl rfl rfl (S := fun _ => True) trivial (v_move rfl) ?_
          refine rl_v rfl rfl rfl (S := fun _ => True) trivial (v_extract rfl rfl) ?_
          refine rl_v rfl rfl rfl (S := fun _ => True) trivial (v_extract rfl rfl) ?_
          refine rl_v rfl rfl rfl (S := fun _ => True) trivial (v_assign rfl) ?_
          refine rl_v rfl rfl rfl (S := fun _ => True) trivial (v_assign rfl) ?_
          refine rl_nil (g_le (Fr.le_keep (Fr.le_keep (Fr.le_skip rfl (Fr.le_skip rfl (Fr.le_skip rfl (Fr.le_skip rfl (Fr.le_skip rfl (Fr.le_skip rfl (Fr.le_refl _))))))))) ?_)
          repeat (first | refine g_seq ?_ | refine g_skip ?_ | refine g_inBlock ?_ | refine g_block ?_ | refine g_label ?_)
          refine g_region ?_
          refine rl_v rfl rfl rfl (S := fun _ => True) trivial (v_move rfl) ?_
          refine rl_v rfl rfl rfl (S := fun _ => True) trivial (v_move rfl) ?_
          refine rl_k rfl (k_callf Try.func39 rfl rfl rfl rfl ?_)
          refine Calls.mono (get_eq d q t k (s.told k).1 (s.told k).2 (Cs.like_told hlk k).symm (hw.sub (by repeat (first | with_reducible exact Sub.refl _ | with_reducible exact Sub.last1 | with_reducible exact Sub.last2 | with_reducible exact Sub.last3 | with_reducible exact Sub.last4 | with_reducible exact Sub.last5 | with_reducible exact Sub.last6 | with_reducible exact Sub.last7 | with_reducible exact Sub.last8 | with_reducible exact Sub.last9 | with_reducible exact Sub.last10 | with_reducible exact Sub.last11 | with_reducible exact Sub.last12 | with_reducible exact Sub.last13 | with_reducible exact Sub.last14 | with_reducible exact Sub.last15 | with_reducible refine Sub.head0 ?_ | with_reducible refine Sub.head1 ?_ | with_reducible refine Sub.head2 ?_ | with_reducible refine Sub.head3 ?_ | with_reducible refine Sub.head4 ?_ | with_reducible refine Sub.head5 ?_ | with_reducible refine Sub.head6 ?_ | with_reducible refine Sub.head7 ?_ | with_reducible refine Sub.head8 ?_ | with_reducible refine Sub.head9 ?_ | with_reducible refine Sub.head10 ?_ | with_reducible refine Sub.head11 ?_ | with_reducible refine Sub.head12 ?_ | with_reducible refine Sub.head13 ?_ | with_reducible refine Sub.head14 ?_ | with_reducible refine Sub.head15 ?_ | with_reducible refine Sub.drop ?_)))) ?_
          rintro _ w ⟨rfl, hw⟩
          refine ⟨_, rfl, ?_⟩
          refine rl_v rfl rfl rfl (S := fun _ => True) trivial (v_move rfl) ?_
          refine rl_v rfl rfl rfl (S := fun _ => True) trivial (v_extract rfl rfl) ?_
          refine rl_v rfl rfl rfl (S := fun _ => True) trivial (v_extract rfl rfl) ?_
          refine rl_v rfl rfl rfl (S := fun _ => True) trivial (v_assign rfl) ?_
          refine rl_v rfl rfl rfl (S := fun _ => True) trivial (v_assign rfl) ?_
          refine rl_nil (g_le (Fr.le_keep (Fr.le_keep (Fr.le_skip rfl (Fr.le_skip rfl (Fr.le_skip rfl (Fr.le_skip rfl (Fr.le_skip rfl (Fr.le_skip rfl (Fr.le_refl _))))))))) ?_)
          repeat (first | refine g_seq ?_ | refine g_skip ?_ | refine g_inBlock ?_ | refine g_block ?_ | refine g_label ?_)
          refine g_region ?_
          refine rl_v rfl rfl rfl (S := fun _ => True) trivial (v_move rfl) ?_
          refine rl_v rfl rfl rfl (S := fun _ => True) trivial (v_move rfl) ?_
          first | (refine rl_v rfl rfl rfl (S := fun _ => True) trivial (v_neqStrF rfl rfl (by first | rfl | assumption)) ?_) | (refine rl_v rfl rfl rfl (S := fun _ => True) trivial (v_neqStrT rfl rfl (by first | assumption | decide)) ?_) | (refine rl_v rfl rfl rfl (S := fun _ => True) trivial (v_neqStr rfl rfl) ?_)
          refine rl_v rfl rfl rfl (S := fun _ => True) trivial (v_move rfl) ?_
          first | (refine rl_vg (met_on rfl rfl rfl rfl) rfl rfl (S := fun _ => True) trivial (v_move rfl) ?_) | (refine rl_off (met_off rfl rfl rfl rfl rfl) rfl rfl ?_)
          first | (refine rl_vg (met_on rfl rfl rfl rfl) rfl rfl (S := fun _ => True) trivial (v_move rfl) ?_) | (refine rl_off (met_off rfl rfl rfl rfl rfl) rfl rfl ?_)
          first | (refine rl_vg (met_on rfl rfl rfl rfl) rfl rfl (S := fun _ => True) trivial (v_neqBoolF T.bool_4 rfl rfl (by first | rfl | assumption)) ?_) | (refine rl_vg (met_on rfl rfl rfl rfl) rfl rfl (S := fun _ => True) trivial (v_neqBool T.bool_4 rfl rfl) ?_) | (refine rl_off (met_off rfl rfl rfl rfl rfl) rfl rfl ?_)
          first | (refine rl_v rfl rfl rfl (S := fun _ => True) trivial (v_pick_true rfl rfl) ?_) | (refine rl_v rfl rfl rfl (S := fun _ => True) trivial (v_pick_false rfl rfl) ?_) | (refine rl_v rfl rfl rfl (S := fun _ => True) trivial (v_pick rfl rfl rfl) ?_)
          refine rl_nil (g_le (Fr.le_keep (Fr.le_skip rfl (Fr.le_skip rfl (Fr.le_skip rfl (Fr.le_skip rfl (Fr.le_skip rfl (Fr.le_skip rfl (Fr.le_skip rfl (Fr.le_refl _))))))))) ?_)
          repeat (first | refine g_seq ?_ | refine g_skip ?_ | refine g_inBlock ?_ | refine g_block ?_ | refine g_label ?_)
          refine g_cond_false rfl ?_
          repeat (first | refine g_seq ?_ | refine g_skip ?_ | refine g_inBlock ?_ | refine g_block ?_ | refine g_label ?_)
          refine g_region ?_
          refine rl_v rfl rfl rfl (S := fun _ => True) trivial (v_move rfl) ?_
          first | (refine rl_v rfl rfl rfl (S := fun _ => True) trivial (v_add rfl rfl (by omega)) ?_) | (refine rl_v rfl rfl rfl (S := fun _ => True) trivial (v_addW rfl rfl) ?_)
          refine rl_v rfl rfl rfl (S := fun _ => True) trivial (v_assign rfl) ?_
          refine rl_nil (g_le (Fr.le_keep (Fr.le_skip rfl (Fr.le_skip rfl (Fr.le_refl _)))) ?_)
          exact g_le (by repeat (first | exact Fr.le_nil _ | refine Fr.le_cons rfl ?_)) (ih3 (k + 1) w ⟨by omega, by omega, hw.sub (by repeat (first | with_reducible exact Sub.refl _ | with_reducible exact Sub.last1 | with_reducible exact Sub.last2 | with_reducible exact Sub.last3 | with_reducible exact Sub.last4 | with_reducible exact Sub.last5 | with_reducible exact Sub.last6 | with_reducible exact Sub.last7 | with_reducible exact Sub.last8 | with_reducible exact Sub.last9 | with_reducible exact Sub.last10 | with_reducible exact Sub.last11 | with_reducible exact Sub.last12 | with_reducible exact Sub.last13 | with_reducible exact Sub.last14 | with_reducible exact Sub.last15 | with_reducible refine Sub.head0 ?_ | with_reducible refine Sub.head1 ?_ | with_reducible refine Sub.head2 ?_ | with_reducible refine Sub.head3 ?_ | with_reducible refine Sub.head4 ?_ | with_reducible refine Sub.head5 ?_ | with_reducible refine Sub.head6 ?_ | with_reducible refine Sub.head7 ?_ | with_reducible refine Sub.head8 ?_ | with_reducible refine Sub.head9 ?_ | with_reducible refine Sub.head10 ?_ | with_reducible refine Sub.head11 ?_ | with_reducible refine Sub.head12 ?_ | with_reducible refine Sub.head13 ?_ | with_reducible refine Sub.head14 ?_ | with_reducible refine Sub.head15 ?_ | with_reducible refine Sub.drop ?_))⟩ (by omega))
        · repeat (first | refine g_seq ?_ | refine g_skip ?_ | refine g_inBlock ?_ | refine g_block ?_ | refine g_label ?_)
          refine g_exit rfl ?_
          repeat (first | refine g_seq ?_ | refine g_skip ?_ | refine g_inBlock ?_ | refine g_block ?_ | refine g_label ?_)
          refine g_region ?_
          refine rl_v rfl rfl rfl (S := fun _ => True) trivial (v_move rfl) ?_
          first | (refine rl_v rfl rfl rfl (S := fun _ => True) trivial (v_add rfl rfl (by omega)) ?_) | (refine rl_v rfl rfl rfl (S := fun _ => True) trivial (v_addW rfl rfl) ?_)
          refine rl_v rfl rfl rfl (S := fun _ => True) trivial (v_assign rfl) ?_
          refine rl_nil (g_le (Fr.le_keep (Fr.le_skip rfl (Fr.le_skip rfl (Fr.le_refl _)))) ?_)
          exact g_le (by repeat (first | exact Fr.le_nil _ | refine Fr.le_cons rfl ?_)) (ih2 (i + 1, s, t, pw, pv) w ⟨by simp only; omega, by simp only; omega, hlk, hpw, hpv, hw.sub (by repeat (first | with_reducible exact Sub.refl _ | with_reducible exact Sub.last1 | with_reducible exact Sub.last2 | with_reducible exact Sub.last3 | with_reducible exact Sub.last4 | with_reducible exact Sub.last5 | with_reducible exact Sub.last6 | with_reducible exact Sub.last7 | with_reducible exact Sub.last8 | with_reducible exact Sub.last9 | with_reducible exact Sub.last10 | with_reducible exact Sub.last11 | with_reducible exact Sub.last12 | with_reducible exact Sub.last13 | with_reducible exact Sub.last14 | with_reducible exact Sub.last15 | with_reducible refine Sub.head0 ?_ | with_reducible refine Sub.head1 ?_ | with_reducible refine Sub.head2 ?_ | with_reducible refine Sub.head3 ?_ | with_reducible refine Sub.head4 ?_ | with_reducible refine Sub.head5 ?_ | with_reducible refine Sub.head6 ?_ | with_reducible refine Sub.head7 ?_ | with_reducible refine Sub.head8 ?_ | with_reducible refine Sub.head9 ?_ | with_reducible refine Sub.head10 ?_ | with_reducible refine Sub.head11 ?_ | with_reducible refine Sub.head12 ?_ | with_reducible refine Sub.head13 ?_ | with_reducible refine Sub.head14 ?_ | with_reducible refine Sub.head15 ?_ | with_reducible refine Sub.drop ?_))⟩ (by simp only; omega))
      · repeat (first | refine g_seq ?_ | refine g_skip ?_ | refine g_inBlock ?_ | refine g_block ?_ | refine g_label ?_)
        refine g_region ?_
        refine rl_v rfl rfl rfl (S := fun _ => True) trivial (v_assign rfl) ?_
        refine rl_nil (g_le (Fr.le_keep (Fr.le_refl _)) ?_)
        repeat (first | refine g_seq ?_ | refine g_skip ?_ | refine g_inBlock ?_ | refine g_block ?_ | refine g_label ?_)
        refine g_loop (σ := Int) (fun x => [(16, .int .i64 x), (10, .int .i64 i), (0, _), (1, _), (6, _), (7, _)])
          (fun x w => 0 ≤ x ∧ x ≤ 2 ∧ Sat (envOf W) w [CellAt c p s, CellAt d q t, PwAt p pw, PwAt q pv, Old W]) (fun x => (2 - x).toNat) ?_ 0 (by repeat (first | exact Fr.le_nil _ | refine Fr.le_cons rfl ?_)) ⟨by simp, by simp, hw.sub (by repeat (first | with_reducible exact Sub.refl _ | with_reducible exact Sub.last1 | with_reducible exact Sub.last2 | with_reducible exact Sub.last3 | with_reducible exact Sub.last4 | with_reducible exact Sub.last5 | with_reducible exact Sub.last6 | with_reducible exact Sub.last7 | with_reducible exact Sub.last8 | with_reducible exact Sub.last9 | with_reducible exact Sub.last10 | with_reducible exact Sub.last11 | with_reducible exact Sub.last12 | with_reducible exact Sub.last13 | with_reducible exact Sub.last14 | with_reducible exact Sub.last15 | with_reducible refine Sub.head0 ?_ | with_reducible refine Sub.head1 ?_ | with_reducible refine Sub.head2 ?_ | with_reducible refine Sub.head3 ?_ | with_reducible refine Sub.head4 ?_ | with_reducible refine Sub.head5 ?_ | with_reducible refine Sub.head6 ?_ | with_reducible refine Sub.head7 ?_ | with_reducible refine Sub.head8 ?_ | with_reducible refine Sub.head9 ?_ | with_reducible refine Sub.head10 ?_ | with_reducible refine Sub.head11 ?_ | with_reducible refine Sub.head12 ?_ | with_reducible refine Sub.head13 ?_ | with_reducible refine Sub.head14 ?_ | with_reducible refine Sub.head15 ?_ | with_reducible refine Sub.drop ?_))⟩
        intro k w ⟨hk0, hk1, hw⟩ ih3
        repeat (first | refine g_seq ?_ | refine g_skip ?_ | refine g_inBlock ?_ | refine g_block ?_ | refine g_label ?_)
        refine g_region ?_
        refine rl_v rfl rfl rfl (S := fun _ => True) trivial (v_move rfl) ?_
        first | (refine rl_v rfl rfl rfl (S := fun _ => True) trivial (v_lssT rfl rfl (by omega)) ?_) | (refine rl_v rfl rfl rfl (S := fun _ => True) trivial (v_lssF rfl rfl (by omega)) ?_) | (refine rl_v rfl rfl rfl (S := fun _ => True) trivial (v_lss rfl rfl) ?_)
        refine rl_nil (g_le (Fr.le_keep (Fr.le_skip rfl (Fr.le_refl _))) ?_)
        repeat (first | refine g_seq ?_ | refine g_skip ?_ | refine g_inBlock ?_ | refine g_block ?_ | refine g_label ?_)
        refine g_cond_dec rfl (fun h7 => ?_) (fun h7 => ?_)
        · repeat (first | refine g_seq ?_ | refine g_skip ?_ | refine g_inBlock ?_ | refine g_block ?_ | refine g_label ?_)
          refine g_region ?_
          refine rl_v rfl rfl rfl (S := fun _ => True) trivial (v_move rfl) ?_
          refine rl_v rfl rfl rfl (S := fun _ => True) trivial (v_move rfl) ?_
          refine rl_k rfl (k_callf Try.func39 rfl rfl rfl rfl ?_)
          refine Calls.mono (get_eq c p s k (s.told k).1 (s.told k).2 rfl (hw.sub (by repeat (first | with_reducible exact Sub.refl _ | with_reducible exact Sub.last1 | with_reducible exact Sub.last2 | with_reducible exact Sub.last3 | with_reducible exact Sub.last4 | with_reducible exact Sub.last5 | with_reducible exact Sub.last6 | with_reducible exact Sub.last7 | with_reducible exact Sub.last8 | with_reducible exact Sub.last9 | with_reducible exact Sub.last10 | with_reducible exact Sub.last11 | with_reducible exact Sub.last12 | with_reducible exact Sub.last13 | with_reducible exact Sub.last14 | with_reducible exact Sub.last15 | with_reducible refine Sub.head0 ?_ | with_reducible refine Sub.head1 ?_ | with_reducible refine Sub.head2 ?_ | with_reducible refine Sub.head3 ?_ | with_reducible refine Sub.head4 ?_ | with_reducible refine Sub.head5 ?_ | with_reducible refine Sub.head6 ?_ | with_reducible refine Sub.head7 ?_ | with_reducible refine Sub.head8 ?_ | with_reducible refine Sub.head9 ?_ | with_reducible refine Sub.head10 ?_ | with_reducible refine Sub.head11 ?_ | with_reducible refine Sub.head12 ?_ | with_reducible refine Sub.head13 ?_ | with_reducible refine Sub.head14 ?_ | with_reducible refine Sub.head15 ?_ | with_reducible refine Sub.drop ?_)))) ?_
          rintro _ w ⟨rfl, hw⟩
          refine ⟨_, rfl, ?_⟩
          refine rl_v rfl rfl rfl (S := fun _ => True) trivial (v_move rfl) ?_
          refine rl_v rfl rfl rfl (S := fun _ => True) trivial (v_extract rfl rfl) ?_
          refine rl_v rfl rfl rfl (S := fun _ => True) trivial (v_extract rfl rfl) ?_
          refine rl_v rfl rfl rfl (S := fun _ => True) trivial (v_assign rfl) ?_
          refine rl_v rfl rfl rfl (S := fun _ => True) trivial (v_assign rfl) ?_
          refine rl_nil (g_le (Fr.le_keep (Fr.le_keep (Fr.le_skip rfl (Fr.le_skip rfl (Fr.le_skip rfl (Fr.le_skip rfl (Fr.le_skip rfl (Fr.le_skip rfl (Fr.le_refl _))))))))) ?_)
          repeat (first | refine g_seq ?_ | refine g_skip ?_ | refine g_inBlock ?_ | refine g_block ?_ | refine g_label ?_)
          refine g_region ?_
          refine rl_v rfl rfl rfl (S := fun _ => True) trivial (v_move rfl) ?_
          refine rl_v rfl rfl rfl (S := fun _ => True) trivial (v_move rfl) ?_
          refine rl_k rfl (k_callf Try.func39 rfl rfl rfl rfl ?_)
          refine Calls.mono (get_eq d q t k (s.told k).1 (s.told k).2 (Cs.like_told hlk k).symm (hw.sub (by repeat (first | with_reducible exact Sub.refl _ | with_reducible exact Sub.last1 | with_reducible exact Sub.last2 | with_reducible exact Sub.last3 | with_reducible exact Sub.last4 | with_reducible exact Sub.last5 | with_reducible exact Sub.last6 | with_reducible exact Sub.last7 | with_reducible exact Sub.last8 | with_reducible exact Sub.last9 | with_reducible exact Sub.last10 | with_reducible exact Sub.last11 | with_reducible exact Sub.last12 | with_reducible exact Sub.last13 | with_reducible exact Sub.last14 | with_reducible exact Sub.last15 | with_reducible refine Sub.head0 ?_ | with_reducible refine Sub.head1 ?_ | with_reducible refine Sub.head2 ?_ | with_reducible refine Sub.head3 ?_ | with_reducible refine Sub.head4 ?_ | with_reducible refine Sub.head5 ?_ | with_reducible refine Sub.head6 ?_ | with_reducible refine Sub.head7 ?_ | with_reducible refine Sub.head8 ?_ | with_reducible refine Sub.head9 ?_ | with_reducible refine Sub.head10 ?_ | with_reducible refine Sub.head11 ?_ | with_reducible refine Sub.head12 ?_ | with_reducible refine Sub.head13 ?_ | with_reducible refine Sub.head14 ?_ | with_reducible refine Sub.head15 ?_ | with_reducible refine Sub.drop ?_)))) ?_
          rintro _ w ⟨rfl, hw⟩
          refine ⟨_, rfl, ?_⟩
          refine rl_v rfl rfl rfl (S := fun _ => True) trivial (v_move rfl) ?_
          refine rl_v rfl rfl rfl (S := fun _ => True) trivial (v_extract rfl rfl) ?_
          refine rl_v rfl rfl rfl (S := fun _ => True) trivial (v_extract rfl rfl) ?_
          refine rl_v rfl rfl rfl (S := fun _ => True) trivial (v_assign rfl) ?_
          refine rl_v rfl rfl rfl (S := fun _ => True) trivial (v_assign rfl) ?_
          refine rl_nil (g_le (Fr.le_keep (Fr.le_keep (Fr.le_skip rfl (Fr.le_skip rfl (Fr.le_skip rfl (Fr.le_skip rfl (Fr.le_skip rfl (Fr.le_skip rfl (Fr.le_refl _))))))))) ?_)
          repeat (first | refine g_seq ?_ | refine g_skip ?_ | refine g_inBlock ?_ | refine g_block ?_ | refine g_label ?_)
          refine g_region ?_
          refine rl_v rfl rfl rfl (S := fun _ => True) trivial (v_move rfl) ?_
          refine rl_v rfl rfl rfl (S := fun _ => True) trivial (v_move rfl) ?_
          first | (refine rl_v rfl rfl rfl (S := fun _ => True) trivial (v_neqStrF rfl rfl (by first | rfl | assumption)) ?_) | (refine rl_v rfl rfl rfl (S := fun _ => True) trivial (v_neqStrT rfl rfl (by first | assumption | decide)) ?_) | (refine rl_v rfl rfl rfl (S := fun _ => True) trivial (v_neqStr rfl rfl) ?_)
          refine rl_v rfl rfl rfl (S := fun _ => True) trivial (v_move rfl) ?_
          first | (refine rl_vg (met_on rfl rfl rfl rfl) rfl rfl (S := fun _ => True) trivial (v_move rfl) ?_) | (refine rl_off (met_off rfl rfl rfl rfl rfl) rfl rfl ?_)
          first | (refine rl_vg (met_on rfl rfl rfl rfl) rfl rfl (S := fun _ => True) trivial (v_move rfl) ?_) | (refine rl_off (met_off rfl rfl rfl rfl rfl) rfl rfl ?_)
          first | (refine rl_vg (met_on rfl rfl rfl rfl) rfl rfl (S := fun _ => True) trivial (v_neqBoolF T.bool_4 rfl rfl (by first | rfl | assumption)) ?_) | (refine rl_vg (met_on rfl rfl rfl rfl) rfl rfl (S := fun _ => True) trivial (v_neqBool T.bool_4 rfl rfl) ?_) | (refine rl_off (met_off rfl rfl rfl rfl rfl) rfl rfl ?_)
          first | (refine rl_v rfl rfl rfl (S := fun _ => True) trivial (v_pick_true rfl rfl) ?_) | (refine rl_v rfl rfl rfl (S := fun _ => True) trivial (v_pick_false rfl rfl) ?_) | (refine rl_v rfl rfl rfl (S := fun _ => True) trivial (v_pick rfl rfl rfl) ?_)
          refine rl_nil (g_le (Fr.le_keep (Fr.le_skip rfl (Fr.le_skip rfl (Fr.le_skip rfl (Fr.le_skip rfl (Fr.le_skip rfl (Fr.le_skip rfl (Fr.le_skip rfl (Fr.le_refl _))))))))) ?_)
          repeat (first | refine g_seq ?_ | refine g_skip ?_ | refine g_inBlock ?_ | refine g_block ?_ | refine g_label ?_)
          refine g_cond_false rfl ?_
          repeat (first | refine g_seq ?_ | refine g_skip ?_ | refine g_inBlock ?_ | refine g_block ?_ | refine g_label ?_)
          refine g_region ?_
          refine rl_v rfl rfl rfl (S := fun _ => True) trivial (v_move rfl) ?_
          first | (refine rl_v rfl rfl rfl (S := fun _ => True) trivial (v_add rfl rfl (by omega)) ?_) | (refine rl_v rfl rfl rfl (S := fun _ => True) trivial (v_addW rfl rfl) ?_)
          refine rl_v rfl rfl rfl (S := fun _ => True) trivial (v_assign rfl) ?_
          refine rl_nil (g_le (Fr.le_keep (Fr.le_skip rfl (Fr.le_skip rfl (Fr.le_refl _)))) ?_)
          exact g_le (by repeat (first | exact Fr.le_nil _ | refine Fr.le_cons rfl ?_)) (ih3 (k + 1) w ⟨by omega, by omega, hw.sub (by repeat (first | with_reducible exact Sub.refl _ | with_reducible exact Sub.last1 | with_reducible exact Sub.last2 | with_reducible exact Sub.last3 | with_reducible exact Sub.last4 | with_reducible exact Sub.last5 | with_reducible exact Sub.last6 | with_reducible exact Sub.last7 | with_reducible exact Sub.last8 | with_reducible exact Sub.last9 | with_reducible exact Sub.last10 | with_reducible exact Sub.last11 | with_reducible exact Sub.last12 | with_reducible exact Sub.last13 | with_reducible exact Sub.last14 | with_reducible exact Sub.last15 | with_reducible refine Sub.head0 ?_ | with_reducible refine Sub.head1 ?_ | with_reducible refine Sub.head2 ?_ | with_reducible refine Sub.head3 ?_ | with_reducible refine Sub.head4 ?_ | with_reducible refine Sub.head5 ?_ | with_reducible refine Sub.head6 ?_ | with_reducible refine Sub.head7 ?_ | with_reducible refine Sub.head8 ?_ | with_reducible refine Sub.head9 ?_ | with_reducible refine Sub.head10 ?_ | with_reducible refine Sub.head11 ?_ | with_reducible refine Sub.head12 ?_ | with_reducible refine Sub.head13 ?_ | with_reducible refine Sub.head14 ?_ | with_reducible refine Sub.head15 ?_ | with_reducible refine Sub.drop ?_))⟩ (by omega))
        · repeat (first | refine g_seq ?_ | refine g_skip ?_ | refine g_inBlock ?_ | refine g_block ?_ | refine g_label ?_)
          refine g_exit rfl ?_
          repeat (first | refine g_seq ?_ | refine g_skip ?_ | refine g_inBlock ?_ | refine g_block ?_ | refine g_label ?_)
          refine g_region ?_
          refine rl_v rfl rfl rfl (S := fun _ => True) trivial (v_move rfl) ?_
          first | (refine rl_v rfl rfl rfl (S := fun _ => True) trivial (v_add rfl rfl (by omega)) ?_) | (refine rl_v rfl rfl rfl (S := fun _ => True) trivial (v_addW rfl rfl) ?_)
          refine rl_v rfl rfl rfl (S := fun _ => True) trivial (v_assign rfl) ?_
          refine rl_nil (g_le (Fr.le_keep (Fr.le_skip rfl (Fr.le_skip rfl (Fr.le_refl _)))) ?_)
          exact g_le (by repeat (first | exact Fr.le_nil _ | refine Fr.le_cons rfl ?_)) (ih2 (i + 1, s, t, pw, pv) w ⟨by simp only; omega, by simp only; omega, hlk, hpw, hpv, hw.sub (by repeat (first | with_reducible exact Sub.refl _ | with_reducible exact Sub.last1 | with_reducible exact Sub.last2 | with_reducible exact Sub.last3 | with_reducible exact Sub.last4 | with_reducible exact Sub.last5 | with_reducible exact Sub.last6 | with_reducible exact Sub.last7 | with_reducible exact Sub.last8 | with_reducible exact Sub.last9 | with_reducible exact Sub.last10 | with_reducible exact Sub.last11 | with_reducible exact Sub.last12 | with_reducible exact Sub.last13 | with_reducible exact Sub.last14 | with_reducible exact Sub.last15 | with_reducible refine Sub.head0 ?_ | with_reducible refine Sub.head1 ?_ | with_reducible refine Sub.head2 ?_ | with_reducible refine Sub.head3 ?_ | with_reducible refine Sub.head4 ?_ | with_reducible refine Sub.head5 ?_ | with_reducible refine Sub.head6 ?_ | with_reducible refine Sub.head7 ?_ | with_reducible refine Sub.head8 ?_ | with_reducible refine Sub.head9 ?_ | with_reducible refine Sub.head10 ?_ | with_reducible refine Sub.head11 ?_ | with_reducible refine Sub.head12 ?_ | with_reducible refine Sub.head13 ?_ | with_reducible refine Sub.head14 ?_ | with_reducible refine Sub.head15 ?_ | with_reducible refine Sub.drop ?_))⟩ (by simp only; omega))
  · repeat (first | refine g_seq ?_ | refine g_skip ?_ | refine g_inBlock ?_ | refine g_block ?_ | refine g_label ?_)
    refine g_exit rfl ?_
    have hup := Cs.like_upto hlk 2
    have hul : (((t.upto 2).length : Nat) : Int) ≤ 1000000 := by have := Cs.upto_len t 2 (by omega); omega
    repeat (first | refine g_seq ?_ | refine g_skip ?_ | refine g_inBlock ?_ | refine g_block ?_ | refine g_label ?_)
    refine g_region ?_
    refine rl_v rfl rfl rfl (S := fun _ => True) trivial (v_move rfl) ?_
    refine rl_k rfl (k_callf Try.func37 rfl rfl rfl rfl ?_)
    refine Calls.mono (slots_calls c p s (hw.sub (by repeat (first | with_reducible exact Sub.refl _ | with_reducible exact Sub.last1 | with_reducible exact Sub.last2 | with_reducible exact Sub.last3 | with_reducible exact Sub.last4 | with_reducible exact Sub.last5 | with_reducible exact Sub.last6 | with_reducible exact Sub.last7 | with_reducible exact Sub.last8 | with_reducible exact Sub.last9 | with_reducible exact Sub.last10 | with_reducible exact Sub.last11 | with_reducible exact Sub.last12 | with_reducible exact Sub.last13 | with_reducible exact Sub.last14 | with_reducible exact Sub.last15 | with_reducible refine Sub.head0 ?_ | with_reducible refine Sub.head1 ?_ | with_reducible refine Sub.head2 ?_ | with_reducible refine Sub.head3 ?_ | with_reducible refine Sub.head4 ?_ | with_reducible refine Sub.head5 ?_ | with_reducible refine Sub.head6 ?_ | with_reducible refine Sub.head7 ?_ | with_reducible refine Sub.head8 ?_ | with_reducible refine Sub.head9 ?_ | with_reducible refine Sub.head10 ?_ | with_reducible refine Sub.head11 ?_ | with_reducible refine Sub.head12 ?_ | with_reducible refine Sub.head13 ?_ | with_reducible refine Sub.head14 ?_ | with_reducible refine Sub.head15 ?_ | with_reducible refine Sub.drop ?_)))) ?_
    rintro _ w ⟨v, rfl, hw⟩
    rw [hup] at hw
    refine ⟨_, rfl, ?_⟩
    refine rl_v rfl rfl rfl (S := fun _ => True) trivial (v_move rfl) ?_
    refine rl_k rfl (k_callf Try.func37 rfl rfl rfl rfl ?_)
    refine Calls.mono (slots_calls d q t (hw.sub (by repeat (first | with_reducible exact Sub.refl _ | with_reducible exact Sub.last1 | with_reducible exact Sub.last2 | with_reducible exact Sub.last3 | with_reducible exact Sub.last4 | with_reducible exact Sub.last5 | with_reducible exact Sub.last6 | with_reducible exact Sub.last7 | with_reducible exact Sub.last8 | with_reducible exact Sub.last9 | with_reducible exact Sub.last10 | with_reducible exact Sub.last11 | with_reducible exact Sub.last12 | with_reducible exact Sub.last13 | with_reducible exact Sub.last14 | with_reducible exact Sub.last15 | with_reducible refine Sub.head0 ?_ | with_reducible refine Sub.head1 ?_ | with_reducible refine Sub.head2 ?_ | with_reducible refine Sub.head3 ?_ | with_reducible refine Sub.head4 ?_ | with_reducible refine Sub.head5 ?_ | with_reducible refine Sub.head6 ?_ | with_reducible refine Sub.head7 ?_ | with_reducible refine Sub.head8 ?_ | with_reducible refine Sub.head9 ?_ | with_reducible refine Sub.head10 ?_ | with_reducible refine Sub.head11 ?_ | with_reducible refine Sub.head12 ?_ | with_reducible refine Sub.head13 ?_ | with_reducible refine Sub.head14 ?_ | with_reducible refine Sub.head15 ?_ | with_reducible refine Sub.drop ?_)))) ?_
    rintro _ w ⟨u, rfl, hw⟩
    refine ⟨_, rfl, ?_⟩
    refine rl_k rfl (k_callf Try.func40 rfl rfl rfl rfl ?_)
    refine Calls.mono (sameInts_calls v u _ hul (hw.sub (by repeat (first | with_reducible exact Sub.refl _ | with_reducible exact Sub.last1 | with_reducible exact Sub.last2 | with_reducible exact Sub.last3 | with_reducible exact Sub.last4 | with_reducible exact Sub.last5 | with_reducible exact Sub.last6 | with_reducible exact Sub.last7 | with_reducible exact Sub.last8 | with_reducible exact Sub.last9 | with_reducible exact Sub.last10 | with_reducible exact Sub.last11 | with_reducible exact Sub.last12 | with_reducible exact Sub.last13 | with_reducible exact Sub.last14 | with_reducible exact Sub.last15 | with_reducible refine Sub.head0 ?_ | with_reducible refine Sub.head1 ?_ | with_reducible refine Sub.head2 ?_ | with_reducible refine Sub.head3 ?_ | with_reducible refine Sub.head4 ?_ | with_reducible refine Sub.head5 ?_ | with_reducible refine Sub.head6 ?_ | with_reducible refine Sub.head7 ?_ | with_reducible refine Sub.head8 ?_ | with_reducible refine Sub.head9 ?_ | with_reducible refine Sub.head10 ?_ | with_reducible refine Sub.head11 ?_ | with_reducible refine Sub.head12 ?_ | with_reducible refine Sub.head13 ?_ | with_reducible refine Sub.head14 ?_ | with_reducible refine Sub.head15 ?_ | with_reducible refine Sub.drop ?_)))) ?_
    rintro _ w ⟨rfl, hw⟩
    refine ⟨_, rfl, ?_⟩
    refine rl_v rfl rfl rfl (S := fun _ => True) trivial (v_assign rfl) ?_
    refine rl_nil (g_le (Fr.le_keep (Fr.le_skip rfl (Fr.le_skip rfl (Fr.le_skip rfl (Fr.le_skip rfl (Fr.le_skip rfl (Fr.le_refl _))))))) ?_)
    refine g_ret1 Try.func7 rfl rfl ?_
    exact ⟨rfl, hw.sub (by repeat (first | with_reducible exact Sub.refl _ | with_reducible exact Sub.last1 | with_reducible exact Sub.last2 | with_reducible exact Sub.last3 | with_reducible exact Sub.last4 | with_reducible exact Sub.last5 | with_reducible exact Sub.last6 | with_reducible exact Sub.last7 | with_reducible exact Sub.last8 | with_reducible exact Sub.last9 | with_reducible exact Sub.last10 | with_reducible exact Sub.last11 | with_reducible exact Sub.last12 | with_reducible exact Sub.last13 | with_reducible exact Sub.last14 | with_reducible exact Sub.last15 | with_reducible refine Sub.head0 ?_ | with_reducible refine Sub.head1 ?_ | with_reducible refine Sub.head2 ?_ | with_reducible refine Sub.head3 ?_ | with_reducible refine Sub.head4 ?_ | with_reducible refine Sub.head5 ?_ | with_reducible refine Sub.head6 ?_ | with_reducible refine Sub.head7 ?_ | with_reducible refine Sub.head8 ?_ | with_reducible refine Sub.head9 ?_ | with_reducible refine Sub.head10 ?_ | with_reducible refine Sub.head11 ?_ | with_reducible refine Sub.head12 ?_ | with_reducible refine Sub.head13 ?_ | with_reducible refine Sub.head14 ?_ | with_reducible refine Sub.head15 ?_ | with_reducible refine Sub.drop ?_))⟩
set_option maxRecDepth 100000 in
theorem CellForgets_lifted (os : Os) (started : os.Started) (H : Type) (enc : TypeId × Value → H) :
    ReturnsInHanded {} Try.checked os 7 .any (Rows.cellForgetsSpec.pre6 enc Try.prog Try.f7 Rows.cellForgetsRow.domain false) (Rows.cellForgetsSpec.post enc Try.prog Try.f7 false true false false) := by
  refine returnsInHanded_of_change_sized (C := Try.checked) T.own started (by kernel_rfl) Try.func7
    (ChangeSpec.witness6 (enc := enc) (C := Try.checked) false ⟨#[], #[(.slice none 0 0), (.slice none 0 0)], []⟩ 8 (by kernel_rfl) (by kernel_rfl) (by kernel_rfl) (by kernel_rfl)) ?_
  intro W base args ds gs before hval0 hW hcnd hsz0 _
  have hval : ∀ (j : Nat) t v, Try.f7.params[j]? = some t → args[j]? = some v → Value.okWide Try.prog W .any base t v := hval0
  have hW' := hW
  obtain ⟨p, q, hA0, hV, rfl, hfz, hnd⟩ := hW
  have hA : DataW.TrodAll enc Try.prog W 0 (fun _ => true) true Try.f7.params.toList args.toList ds p := hA0
  obtain ⟨rfl, rfl⟩ := trodVars_none hV
  have hsz : (DataW.weightsEach Try.prog (Try.f7.params.toList ++ []) (ds ++ [])).all (· ≤ reachBytes) = true := hsz0
  rw [List.append_nil, List.append_nil] at hsz
  rw [Try.params7] at hA hval hsz
  obtain ⟨v0, vs0, d0, ds0, p0, q0, hargs, rfl, rfl, h0, r0⟩ := trodAll_cons hA
  obtain ⟨v1, vs1, d1, ds1, p1, q1, rfl, rfl, rfl, h1, r1⟩ := trodAll_cons r0
  obtain ⟨rfl, rfl, rfl⟩ := trodAll_nil r1
  obtain rfl : args = #[v0, v1] := by cases args; simp_all
  have lt0 : ∀ x ∈ p0, x.block < W.heap.size := by obtain ⟨m, hm⟩ := h0; exact DataW.trod_lt m _ _ _ hm
  obtain ⟨x0, w0⟩ := arg_of (j := 0) (reads_sl T.sl_62_69_4 T.bytes_69_40 (by decide) reads_Op13) h0 hsz rfl rfl
  have lt1 : ∀ x ∈ p1, x.block < W.heap.size := by obtain ⟨m, hm⟩ := h1; exact DataW.trod_lt m _ _ _ hm
  obtain ⟨x1, w1⟩ := arg_of (j := 1) (reads_sl T.sl_62_69_4 T.bytes_69_40 (by decide) reads_Op13) h1 hsz rfl rfl
  obtain ⟨a0, l0, c0, rfl⟩ := okWide_slice Try.underlying62 (hval 0 62 v0 rfl rfl)
  obtain ⟨a1, l1, c1, rfl⟩ := okWide_slice Try.underlying62 (hval 1 62 v1 rfl rfl)
  refine (CellForgets_law w0 w1).mono fun e W' ⟨he, hb⟩ => ?_
  have bel := hb.below
  subst he
  exact ⟨_, rfl, _, _, _, [], _, [], hW', trodAll_mk1 (shut_bool Try.underlying4 _), (trodAll_cons_mk (Below.trod T.laidOut (by kernel_rfl) (of_decide_eq_true (by kernel_rfl)) h0 bel lt0) (trodAll_cons_mk (Below.trod T.laidOut (by kernel_rfl) (of_decide_eq_true (by kernel_rfl)) h1 bel lt1) trodAll_mk0)), rfl, bel.frame _, fun h => by cases h⟩
theorem CellForgets_holds : Rows.CellForgetsSaid :=
  OpenClaim.holds_of_wide 7 Try.f7 rfl rfl rfl rfl rfl rfl rfl ⟨rfl, rfl, rfl, rfl, rfl⟩ rfl rfl rfl rfl rfl (by kernel_rfl) Try.func7 (by kernel_rfl)
    (of_decide_eq_true (by kernel_rfl)) (by unfold Func.isWrapper; rw [if_neg (of_decide_eq_false (by kernel_rfl))]; exact ⟨rfl, rfl⟩)
    (fun os started H enc _ => CellForgets_lifted os started H enc)
#print axioms CellForgets_holds

end Go.Proofs.Ytdebodbkggbjeaa
