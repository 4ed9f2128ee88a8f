/-
  The statements of layer 11, walked.
-/
import Derived.Test.YtdebodbkggbjeaaP11L
import Derived.Test.YtdebodbkggbjeaaRows
namespace Go.Proofs.Ytdebodbkggbjeaa
open Go Xe Go.RowKit Go.ChangeShapes Go.WideShapes Go.ChangeAt

structure Op11 where
  kind : Int
  n : Int
  on : Bool
def rdOp11 : Rd Op11 := fun w cs x => ∃ c0 c1 c2, cs = [c0, c1, c2] ∧ (rdInt .i64) w [c0] x.kind ∧ (rdInt .i64) w [c1] x.n ∧ rdBool w [c2] x.on
theorem reads_Op11 {H : Type} {enc : TypeId × Value → H} : Reads enc Try.prog 29 rdOp11 := fun w fuel cs d ps h hz => by
  have hl := reads_length T.agg_29_3 (by kernel_rfl) h hz
  obtain ⟨c0, c1, c2, rfl⟩ : ∃ c0 c1 c2, cs = [c0, c1, c2] := by
    match cs, hl with
    | [c0, c1, c2], _ => exact ⟨_, _, _, rfl⟩
  obtain ⟨x0, h0⟩ := reads_field (i := 0) (off := 0) (k := 1) (ft := 3) (by kernel_rfl) h hz (reads_int T.int_3_i64)
  obtain ⟨x1, h1⟩ := reads_field (i := 1) (off := 1) (k := 1) (ft := 3) (by kernel_rfl) h hz (reads_int T.int_3_i64)
  obtain ⟨x2, h2⟩ := reads_field (i := 2) (off := 2) (k := 1) (ft := 4) (by kernel_rfl) h hz (reads_bool T.bool_4)
  exact ⟨⟨x0, x1, x2⟩, _, _, _, rfl, h0, h1, h2⟩


/-- Element i of a row of calls. -/
theorem op11_at {w : World} {a : Option Addr} {len cap : Nat} {xs : List Op11} (h : rdArg (rdSl 24 3 rdOp11) w (.slice a len cap) xs) (i : Int) (h0 : 0 ≤ i) (h1 : i < len) :
    ∃ b o kind n on, a = some ⟨b, o, none⟩ ∧ CellsAt w b (o + i.toNat * 3) [.int .i64 kind, .int .i64 n, .bool on] ∧ w.cell? ⟨b, o + i.toNat * 3 + 2, none⟩ = some (.bool on) := by
  obtain ⟨_, _, _, hat⟩ := rdSl_at h
  obtain ⟨b, o, x, ecs, rfl, _, h2, _, ⟨c0, c1, c2, rfl, ⟨h3, _⟩, ⟨h4, _⟩, h5⟩, _⟩ := hat i h0 h1
  simp only [rdBool, List.cons.injEq, and_true] at h3 h4 h5
  subst h3; subst h4; subst h5
  exact ⟨b, o, _, _, _, rfl, h2, h2.get 2 _ rfl⟩

theorem PowerPlays_law {w : World} {a : Option Addr} {len cap : Nat} {xs : List Op11} (hr : rdArg (rdSl 24 3 rdOp11) w (.slice a len cap) xs) :
    Law Try.prog 3 [.slice a len cap] w := by
  unfold Law
  have hw := Sat.old w
  generalize w = W at hr hw ⊢
  refine calls_of_g (n := 72) Try.func3 rfl rfl rfl ?_
  change G _ _ _ _ _ [(0, _)] _
  repeat (first | refine g_seq ?_ | refine g_skip ?_ | refine g_inBlock ?_ | refine g_block ?_ | refine g_label ?_)
  refine g_region ?_
  refine rl_v rfl rfl rfl (S := fun _ => True) trivial (v_assign rfl) ?_
  refine rl_nil (g_le (Fr.le_keep (Fr.le_refl _)) ?_)
  repeat (first | refine g_seq ?_ | refine g_skip ?_ | refine g_inBlock ?_ | refine g_block ?_ | refine g_label ?_)
  refine g_region ?_
  refine rl_k rfl (k_callf Try.func11 rfl rfl rfl rfl ?_)
  refine Calls.mono (awake11_calls hw) ?_
  rintro _ w ⟨rfl, hw⟩
  refine ⟨_, rfl, ?_⟩
  refine rl_v rfl rfl rfl (S := fun _ => True) trivial (v_assign rfl) ?_
  refine rl_nil (g_le (Fr.le_keep (Fr.le_skip rfl (Fr.le_refl _))) ?_)
  repeat (first | refine g_seq ?_ | refine g_skip ?_ | refine g_inBlock ?_ | refine g_block ?_ | refine g_label ?_)
  refine g_region ?_
  refine rl_k rfl (k_callf Try.func12 rfl rfl rfl rfl ?_)
  refine Calls.mono (new_calls hw) ?_
  rintro _ w ⟨p, rfl, hw⟩
  refine ⟨_, rfl, ?_⟩
  refine rl_v rfl rfl rfl (S := fun _ => True) trivial (v_assign rfl) ?_
  refine rl_nil (g_le (Fr.le_keep (Fr.le_skip rfl (Fr.le_refl _))) ?_)
  repeat (first | refine g_seq ?_ | refine g_skip ?_ | refine g_inBlock ?_ | refine g_block ?_ | refine g_label ?_)
  refine g_region ?_
  refine rl_k rfl (k_callf Try.func12 rfl rfl rfl rfl ?_)
  refine Calls.mono (new_calls hw) ?_
  rintro _ w ⟨q, rfl, hw⟩
  refine ⟨_, rfl, ?_⟩
  refine rl_v rfl rfl rfl (S := fun _ => True) trivial (v_assign rfl) ?_
  refine rl_nil (g_le (Fr.le_keep (Fr.le_skip rfl (Fr.le_refl _))) ?_)
  repeat (first | refine g_seq ?_ | refine g_skip ?_ | refine g_inBlock ?_ | refine g_block ?_ | refine g_label ?_)
  refine g_region ?_
  refine rl_v rfl rfl rfl (S := fun _ => True) trivial (v_move rfl) ?_
  refine rl_v rfl rfl rfl (S := fun _ => True) trivial (v_not rfl) ?_
  refine rl_v rfl rfl rfl (S := fun _ => True) trivial (v_move rfl) ?_
  first | (refine rl_vg (met_on rfl rfl rfl rfl) rfl rfl (S := fun _ => True) trivial (v_move rfl) ?_) | (refine rl_off (met_off rfl rfl rfl rfl rfl) rfl rfl ?_)
  first | (refine rl_vg (met_on rfl rfl rfl rfl) rfl rfl (S := fun _ => True) trivial (v_eqlNil T.ptr_24 rfl rfl) ?_) | (refine rl_off (met_off rfl rfl rfl rfl rfl) rfl rfl ?_)
  first | (refine rl_v rfl rfl rfl (S := fun _ => True) trivial (v_pick_true rfl rfl) ?_) | (refine rl_v rfl rfl rfl (S := fun _ => True) trivial (v_pick_false rfl rfl) ?_) | (refine rl_v rfl rfl rfl (S := fun _ => True) trivial (v_pick rfl rfl rfl) ?_)
  refine rl_v rfl rfl rfl (S := fun _ => True) trivial (v_move rfl) ?_
  first | (refine rl_vg (met_on rfl rfl rfl rfl) rfl rfl (S := fun _ => True) trivial (v_move rfl) ?_) | (refine rl_off (met_off rfl rfl rfl rfl rfl) rfl rfl ?_)
  first | (refine rl_vg (met_on rfl rfl rfl rfl) rfl rfl (S := fun _ => True) trivial (v_eqlNil T.ptr_24 rfl rfl) ?_) | (refine rl_off (met_off rfl rfl rfl rfl rfl) rfl rfl ?_)
  first | (refine rl_v rfl rfl rfl (S := fun _ => True) trivial (v_pick_true rfl rfl) ?_) | (refine rl_v rfl rfl rfl (S := fun _ => True) trivial (v_pick_false rfl rfl) ?_) | (refine rl_v rfl rfl rfl (S := fun _ => True) trivial (v_pick rfl rfl rfl) ?_)
  refine rl_nil (g_le (Fr.le_keep (Fr.le_skip rfl (Fr.le_skip rfl (Fr.le_skip rfl (Fr.le_skip rfl (Fr.le_skip rfl (Fr.le_skip rfl (Fr.le_skip rfl (Fr.le_skip rfl (Fr.le_skip rfl (Fr.le_refl _))))))))))) ?_)
  refine g_cond_false rfl ?_
  repeat (first | refine g_seq ?_ | refine g_skip ?_ | refine g_inBlock ?_ | refine g_block ?_ | refine g_label ?_)
  refine g_region ?_
  refine rl_k rfl (k_callf Try.func13 rfl rfl rfl rfl ?_)
  refine Calls.mono (rnew_calls hw) ?_
  rintro _ w ⟨d, rfl, hw⟩
  refine ⟨_, rfl, ?_⟩
  refine rl_v rfl rfl rfl (S := fun _ => True) trivial (v_assign rfl) ?_
  refine rl_nil (g_le (Fr.le_keep (Fr.le_skip rfl (Fr.le_refl _))) ?_)
  repeat (first | refine g_seq ?_ | refine g_skip ?_ | refine g_inBlock ?_ | refine g_block ?_ | refine g_label ?_)
  refine g_region ?_
  refine rl_k rfl (k_callf Try.func13 rfl rfl rfl rfl ?_)
  refine Calls.mono (rnew_calls hw) ?_
  rintro _ w ⟨f, rfl, hw⟩
  refine ⟨_, rfl, ?_⟩
  refine rl_v rfl rfl rfl (S := fun _ => True) trivial (v_assign rfl) ?_
  refine rl_nil (g_le (Fr.le_keep (Fr.le_skip rfl (Fr.le_refl _))) ?_)
  repeat (first | refine g_seq ?_ | refine g_skip ?_ | refine g_inBlock ?_ | refine g_block ?_ | refine g_label ?_)
  refine g_region ?_
  refine rl_v rfl rfl rfl (S := fun _ => True) trivial (v_assign rfl) ?_
  refine rl_nil (g_le (Fr.le_keep (Fr.le_refl _)) ?_)
  repeat (first | refine g_seq ?_ | refine g_skip ?_ | refine g_inBlock ?_ | refine g_block ?_ | refine g_label ?_)
  have hlen := (rdSl_at hr)
  obtain ⟨_, hcap, hlc, _⟩ := hlen
  have hmax : (len : Int) ≤ 140737488351232 := by unfold reachBytes at hcap; omega
  refine g_loop (σ := Int × Pw × Pw) (fun x => [(8, .int .i64 x.1), (0, _), (4, _), (5, _), (6, _), (7, _)])
    (fun x w => 0 ≤ x.1 ∧ x.1 ≤ len ∧ Pw.ok x.2.1 ∧ Pw.ok x.2.2 ∧ Sat (envOf W) w [PwAt p x.2.1, RwAt d x.2.1.ref, PwAt q x.2.2, RwAt f x.2.2.ref, Old W]) (fun x => (len - x.1).toNat) ?round
    (0, ⟨false, 0, 0⟩, ⟨false, 0, 0⟩) (by repeat (first | exact Fr.le_nil _ | refine Fr.le_cons rfl ?_)) ⟨by simp, by simp, Pw.ok_new, Pw.ok_new, hw.sub (by repeat (first | with_reducible exact Sub.refl _ | with_reducible exact Sub.last1 | with_reducible exact Sub.last2 | with_reducible exact Sub.last3 | with_reducible exact Sub.last4 | with_reducible exact Sub.last5 | with_reducible exact Sub.last6 | with_reducible exact Sub.last7 | with_reducible exact Sub.last8 | with_reducible exact Sub.last9 | with_reducible exact Sub.last10 | with_reducible exact Sub.last11 | with_reducible exact Sub.last12 | with_reducible exact Sub.last13 | with_reducible exact Sub.last14 | with_reducible exact Sub.last15 | with_reducible refine Sub.head0 ?_ | with_reducible refine Sub.head1 ?_ | with_reducible refine Sub.head2 ?_ | with_reducible refine Sub.head3 ?_ | with_reducible refine Sub.head4 ?_ | with_reducible refine Sub.head5 ?_ | with_reducible refine Sub.head6 ?_ | with_reducible refine Sub.head7 ?_ | with_reducible refine Sub.head8 ?_ | with_reducible refine Sub.head9 ?_ | with_reducible refine Sub.head10 ?_ | with_reducible refine Sub.head11 ?_ | with_reducible refine Sub.head12 ?_ | with_reducible refine Sub.head13 ?_ | with_reducible refine Sub.head14 ?_ | with_reducible refine Sub.head15 ?_ | with_reducible refine Sub.drop ?_))⟩
  rintro ⟨i, s, t⟩ w ⟨hi0, hi1, hs, ht, hw⟩ ih
  dsimp only at hi0 hi1 hs ht hw ⊢
  repeat (first | refine g_seq ?_ | refine g_skip ?_ | refine g_inBlock ?_ | refine g_block ?_ | refine g_label ?_)
  refine g_region ?_
  refine rl_v rfl rfl rfl (S := fun _ => True) trivial (v_move rfl) ?_
  refine rl_v rfl rfl rfl (S := fun _ => True) trivial (v_move rfl) ?_
  refine rl_v rfl rfl rfl (S := fun _ => True) trivial (v_lenSlice T.sl_22_29_3 rfl) ?_
  first | (refine rl_v rfl rfl rfl (S := fun _ => True) trivial (v_lssT rfl rfl (by omega)) ?_) | (refine rl_v rfl rfl rfl (S := fun _ => True) trivial (v_lssF rfl rfl (by omega)) ?_) | (refine rl_v rfl rfl rfl (S := fun _ => True) trivial (v_lss rfl rfl) ?_)
  refine rl_nil (g_le (Fr.le_keep (Fr.le_skip rfl (Fr.le_skip rfl (Fr.le_skip rfl (Fr.le_refl _))))) ?_)
  refine g_cond_dec rfl (fun h5 => ?_) (fun h5 => ?_)
  · obtain ⟨b, o, kind, n, on, rfl, hat, hon⟩ := op11_at hr i hi0 h5
    repeat (first | refine g_seq ?_ | refine g_skip ?_ | refine g_inBlock ?_ | refine g_block ?_ | refine g_label ?_)
    refine g_region ?_
    refine rl_v rfl rfl rfl (S := fun _ => True) trivial (v_assign rfl) ?_
    refine rl_nil (g_le (Fr.le_keep (Fr.le_refl _)) ?_)
    repeat (first | refine g_seq ?_ | refine g_skip ?_ | refine g_inBlock ?_ | refine g_block ?_ | refine g_label ?_)
    refine g_region ?_
    refine rl_v rfl rfl rfl (S := fun _ => True) trivial (v_move rfl) ?_
    refine rl_v rfl rfl rfl (S := fun _ => True) trivial (v_move rfl) ?_
    refine rl_v rfl rfl rfl (S := fun _ => True) trivial (v_indexAddr T.sl_22_29_3 rfl rfl (by omega) (by omega)) ?_
    first | (refine rl_v rfl rfl rfl (S := fun _ => True) trivial (v_fieldAddr0 T.fld_29_2_2 rfl) ?_) | (refine rl_v rfl rfl rfl (S := fun _ => True) trivial (v_fieldAddr T.fld_29_2_2 rfl) ?_)
    refine rl_v rfl rfl rfl (by first | exact sat_cell hw (by first | with_reducible exact Pick.at0 | with_reducible exact Pick.at1 | with_reducible exact Pick.at2 | with_reducible exact Pick.at3 | with_reducible exact Pick.at4 | with_reducible exact Pick.at5 | with_reducible exact Pick.at6 | with_reducible exact Pick.at7 | with_reducible exact Pick.at8 | with_reducible exact Pick.at9 | with_reducible exact Pick.at10 | with_reducible exact Pick.at11 | with_reducible exact Pick.at12 | with_reducible exact Pick.at13 | with_reducible exact Pick.at14 | with_reducible exact Pick.at15) rfl | exact old_cell hw (by first | with_reducible exact Pick.at0 | with_reducible exact Pick.at1 | with_reducible exact Pick.at2 | with_reducible exact Pick.at3 | with_reducible exact Pick.at4 | with_reducible exact Pick.at5 | with_reducible exact Pick.at6 | with_reducible exact Pick.at7 | with_reducible exact Pick.at8 | with_reducible exact Pick.at9 | with_reducible exact Pick.at10 | with_reducible exact Pick.at11 | with_reducible exact Pick.at12 | with_reducible exact Pick.at13 | with_reducible exact Pick.at14 | with_reducible exact Pick.at15) (by assumption)) (v_load T.scal_4 rfl) ?_
    refine rl_nil (g_le (Fr.le_keep (Fr.le_skip rfl (Fr.le_skip rfl (Fr.le_skip rfl (Fr.le_skip rfl (Fr.le_refl _)))))) ?_)
    refine g_cond rfl (fun h6 => ?_) (fun h6 => ?_)
    · repeat (first | refine g_seq ?_ | refine g_skip ?_ | refine g_inBlock ?_ | refine g_block ?_ | refine g_label ?_)
      refine g_region ?_
      refine rl_v rfl rfl rfl (S := fun _ => True) trivial (v_move rfl) ?_
      refine rl_v rfl rfl rfl (S := fun _ => True) trivial (v_move rfl) ?_
      refine rl_v rfl rfl rfl (S := fun _ => True) trivial (v_move rfl) ?_
      refine rl_v rfl rfl rfl (S := fun _ => True) trivial (v_move rfl) ?_
      refine rl_v rfl rfl rfl (S := fun _ => True) trivial (v_indexAddr T.sl_22_29_3 rfl rfl (by omega) (by omega)) ?_
      refine rl_v rfl rfl rfl (by first | exact sat_cells hw (by first | with_reducible exact Pick.at0 | with_reducible exact Pick.at1 | with_reducible exact Pick.at2 | with_reducible exact Pick.at3 | with_reducible exact Pick.at4 | with_reducible exact Pick.at5 | with_reducible exact Pick.at6 | with_reducible exact Pick.at7 | with_reducible exact Pick.at8 | with_reducible exact Pick.at9 | with_reducible exact Pick.at10 | with_reducible exact Pick.at11 | with_reducible exact Pick.at12 | with_reducible exact Pick.at13 | with_reducible exact Pick.at14 | with_reducible exact Pick.at15) ⟨rfl, rfl, rfl, trivial⟩ | exact old_cells hw (by first | with_reducible exact Pick.at0 | with_reducible exact Pick.at1 | with_reducible exact Pick.at2 | with_reducible exact Pick.at3 | with_reducible exact Pick.at4 | with_reducible exact Pick.at5 | with_reducible exact Pick.at6 | with_reducible exact Pick.at7 | with_reducible exact Pick.at8 | with_reducible exact Pick.at9 | with_reducible exact Pick.at10 | with_reducible exact Pick.at11 | with_reducible exact Pick.at12 | with_reducible exact Pick.at13 | with_reducible exact Pick.at14 | with_reducible exact Pick.at15) (by assumption)) (v_loadAgg (vs := [_, _, _]) T.agg_29_3 rfl rfl) ?_
      refine rl_k rfl (k_callf Try.func14 rfl rfl rfl rfl ?_)
      refine Calls.mono (step11_calls _ _ t t _ _ _ ht ht (hw.sub (by repeat (first | with_reducible exact Sub.refl _ | with_reducible exact Sub.last1 | with_reducible exact Sub.last2 | with_reducible exact Sub.last3 | with_reducible exact Sub.last4 | with_reducible exact Sub.last5 | with_reducible exact Sub.last6 | with_reducible exact Sub.last7 | with_reducible exact Sub.last8 | with_reducible exact Sub.last9 | with_reducible exact Sub.last10 | with_reducible exact Sub.last11 | with_reducible exact Sub.last12 | with_reducible exact Sub.last13 | with_reducible exact Sub.last14 | with_reducible exact Sub.last15 | with_reducible refine Sub.head0 ?_ | with_reducible refine Sub.head1 ?_ | with_reducible refine Sub.head2 ?_ | with_reducible refine Sub.head3 ?_ | with_reducible refine Sub.head4 ?_ | with_reducible refine Sub.head5 ?_ | with_reducible refine Sub.head6 ?_ | with_reducible refine Sub.head7 ?_ | with_reducible refine Sub.head8 ?_ | with_reducible refine Sub.head9 ?_ | with_reducible refine Sub.head10 ?_ | with_reducible refine Sub.head11 ?_ | with_reducible refine Sub.head12 ?_ | with_reducible refine Sub.head13 ?_ | with_reducible refine Sub.head14 ?_ | with_reducible refine Sub.head15 ?_ | with_reducible refine Sub.drop ?_)))) ?_
      rintro _ w ⟨b', s', t', rfl, hs', ht', hst, hw⟩
      obtain ⟨rfl, rfl⟩ := hst rfl
      refine ⟨_, rfl, ?_⟩
      refine rl_v rfl rfl rfl (S := fun _ => True) trivial (v_assign rfl) ?_
      refine rl_nil (g_le (Fr.le_keep (Fr.le_skip rfl (Fr.le_skip rfl (Fr.le_skip rfl (Fr.le_skip rfl (Fr.le_skip rfl (Fr.le_skip rfl (Fr.le_skip rfl (Fr.le_refl _))))))))) ?_)
      repeat (first | refine g_seq ?_ | refine g_skip ?_ | refine g_inBlock ?_ | refine g_block ?_ | refine g_label ?_)
      refine g_region ?_
      refine rl_v rfl rfl rfl (S := fun _ => True) trivial (v_move rfl) ?_
      refine rl_v rfl rfl rfl (S := fun _ => True) trivial (v_not rfl) ?_
      refine rl_v rfl rfl rfl (S := fun _ => True) trivial (v_move rfl) ?_
      first | (refine rl_vg (met_on rfl rfl rfl rfl) rfl rfl (S := fun _ => True) trivial (v_move rfl) ?_) | (refine rl_off (met_off rfl rfl rfl rfl rfl) rfl rfl ?_)
      first | (refine rl_vg (met_on rfl rfl rfl rfl) rfl rfl (S := fun _ => True) trivial (v_move rfl) ?_) | (refine rl_off (met_off rfl rfl rfl rfl rfl) rfl rfl ?_)
      first | (refine rl_kg (met_on rfl rfl rfl rfl) (k_callf Try.func15 rfl rfl rfl rfl ?_); refine Calls.mono (told_calls _ _ _ (hw.sub (by repeat (first | with_reducible exact Sub.refl _ | with_reducible exact Sub.last1 | with_reducible exact Sub.last2 | with_reducible exact Sub.last3 | with_reducible exact Sub.last4 | with_reducible exact Sub.last5 | with_reducible exact Sub.last6 | with_reducible exact Sub.last7 | with_reducible exact Sub.last8 | with_reducible exact Sub.last9 | with_reducible exact Sub.last10 | with_reducible exact Sub.last11 | with_reducible exact Sub.last12 | with_reducible exact Sub.last13 | with_reducible exact Sub.last14 | with_reducible exact Sub.last15 | with_reducible refine Sub.head0 ?_ | with_reducible refine Sub.head1 ?_ | with_reducible refine Sub.head2 ?_ | with_reducible refine Sub.head3 ?_ | with_reducible refine Sub.head4 ?_ | with_reducible refine Sub.head5 ?_ | with_reducible refine Sub.head6 ?_ | with_reducible refine Sub.head7 ?_ | with_reducible refine Sub.head8 ?_ | with_reducible refine Sub.head9 ?_ | with_reducible refine Sub.head10 ?_ | with_reducible refine Sub.head11 ?_ | with_reducible refine Sub.head12 ?_ | with_reducible refine Sub.head13 ?_ | with_reducible refine Sub.head14 ?_ | with_reducible refine Sub.head15 ?_ | with_reducible refine Sub.drop ?_)))) ?_; rintro _ w ⟨rfl, hw⟩; refine ⟨_, rfl, ?_⟩) | (refine rl_off (met_off rfl rfl rfl rfl rfl) rfl rfl ?_)
      first | (refine rl_vg (met_on rfl rfl rfl rfl) rfl rfl (S := fun _ => True) trivial (v_not rfl) ?_) | (refine rl_off (met_off rfl rfl rfl rfl rfl) rfl rfl ?_)
      first | (refine rl_v rfl rfl rfl (S := fun _ => True) trivial (v_pick_true rfl rfl) ?_) | (refine rl_v rfl rfl rfl (S := fun _ => True) trivial (v_pick_false rfl rfl) ?_) | (refine rl_v rfl rfl rfl (S := fun _ => True) trivial (v_pick rfl rfl rfl) ?_)
      refine rl_v rfl rfl rfl (S := fun _ => True) trivial (v_move rfl) ?_
      first | (refine rl_vg (met_on rfl rfl rfl rfl) rfl rfl (S := fun _ => True) trivial (v_move rfl) ?_) | (refine rl_off (met_off rfl rfl rfl rfl rfl) rfl rfl ?_)
      first | (refine rl_vg (met_on rfl rfl rfl rfl) rfl rfl (S := fun _ => True) trivial (v_move rfl) ?_) | (refine rl_off (met_off rfl rfl rfl rfl rfl) rfl rfl ?_)
      first | (refine rl_kg (met_on rfl rfl rfl rfl) (k_callf Try.func15 rfl rfl rfl rfl ?_); refine Calls.mono (told_calls _ _ _ (hw.sub (by repeat (first | with_reducible exact Sub.refl _ | with_reducible exact Sub.last1 | with_reducible exact Sub.last2 | with_reducible exact Sub.last3 | with_reducible exact Sub.last4 | with_reducible exact Sub.last5 | with_reducible exact Sub.last6 | with_reducible exact Sub.last7 | with_reducible exact Sub.last8 | with_reducible exact Sub.last9 | with_reducible exact Sub.last10 | with_reducible exact Sub.last11 | with_reducible exact Sub.last12 | with_reducible exact Sub.last13 | with_reducible exact Sub.last14 | with_reducible exact Sub.last15 | with_reducible refine Sub.head0 ?_ | with_reducible refine Sub.head1 ?_ | with_reducible refine Sub.head2 ?_ | with_reducible refine Sub.head3 ?_ | with_reducible refine Sub.head4 ?_ | with_reducible refine Sub.head5 ?_ | with_reducible refine Sub.head6 ?_ | with_reducible refine Sub.head7 ?_ | with_reducible refine Sub.head8 ?_ | with_reducible refine Sub.head9 ?_ | with_reducible refine Sub.head10 ?_ | with_reducible refine Sub.head11 ?_ | with_reducible refine Sub.head12 ?_ | with_reducible refine Sub.head13 ?_ | with_reducible refine Sub.head14 ?_ | with_reducible refine Sub.head15 ?_ | with_reducible refine Sub.drop ?_)))) ?_; rintro _ w ⟨rfl, hw⟩; refine ⟨_, rfl, ?_⟩) | (refine rl_off (met_off rfl rfl rfl rfl rfl) rfl rfl ?_)
      first | (refine rl_vg (met_on rfl rfl rfl rfl) rfl rfl (S := fun _ => True) trivial (v_not rfl) ?_) | (refine rl_off (met_off rfl rfl rfl rfl rfl) rfl rfl ?_)
      first | (refine rl_v rfl rfl rfl (S := fun _ => True) trivial (v_pick_true rfl rfl) ?_) | (refine rl_v rfl rfl rfl (S := fun _ => True) trivial (v_pick_false rfl rfl) ?_) | (refine rl_v rfl rfl rfl (S := fun _ => True) trivial (v_pick rfl rfl rfl) ?_)
      refine rl_nil (g_le (Fr.le_keep (Fr.le_skip rfl (Fr.le_skip rfl (Fr.le_skip rfl (Fr.le_skip rfl (Fr.le_skip rfl (Fr.le_skip rfl (Fr.le_skip rfl (Fr.le_skip rfl (Fr.le_skip rfl (Fr.le_skip rfl (Fr.le_skip rfl (Fr.le_skip rfl (Fr.le_skip rfl (Fr.le_refl _))))))))))))))) ?_)
      refine g_cond_false rfl ?_
      repeat (first | refine g_seq ?_ | refine g_skip ?_ | refine g_inBlock ?_ | refine g_block ?_ | refine g_label ?_)
      refine g_region ?_
      refine rl_v rfl rfl rfl (S := fun _ => True) trivial (v_move rfl) ?_
      first | (refine rl_v rfl rfl rfl (S := fun _ => True) trivial (v_add rfl rfl (by omega)) ?_) | (refine rl_v rfl rfl rfl (S := fun _ => True) trivial (v_addW rfl rfl) ?_)
      refine rl_v rfl rfl rfl (S := fun _ => True) trivial (v_assign rfl) ?_
      refine rl_nil (g_le (Fr.le_keep (Fr.le_skip rfl (Fr.le_skip rfl (Fr.le_refl _)))) ?_)
      exact g_le (by repeat (first | exact Fr.le_nil _ | refine Fr.le_cons rfl ?_)) (ih (i + 1, s, s') w ⟨by simp only; omega, by simp only; omega, hs, hs', hw.sub (by repeat (first | with_reducible exact Sub.refl _ | with_reducible exact Sub.last1 | with_reducible exact Sub.last2 | with_reducible exact Sub.last3 | with_reducible exact Sub.last4 | with_reducible exact Sub.last5 | with_reducible exact Sub.last6 | with_reducible exact Sub.last7 | with_reducible exact Sub.last8 | with_reducible exact Sub.last9 | with_reducible exact Sub.last10 | with_reducible exact Sub.last11 | with_reducible exact Sub.last12 | with_reducible exact Sub.last13 | with_reducible exact Sub.last14 | with_reducible exact Sub.last15 | with_reducible refine Sub.head0 ?_ | with_reducible refine Sub.head1 ?_ | with_reducible refine Sub.head2 ?_ | with_reducible refine Sub.head3 ?_ | with_reducible refine Sub.head4 ?_ | with_reducible refine Sub.head5 ?_ | with_reducible refine Sub.head6 ?_ | with_reducible refine Sub.head7 ?_ | with_reducible refine Sub.head8 ?_ | with_reducible refine Sub.head9 ?_ | with_reducible refine Sub.head10 ?_ | with_reducible refine Sub.head11 ?_ | with_reducible refine Sub.head12 ?_ | with_reducible refine Sub.head13 ?_ | with_reducible refine Sub.head14 ?_ | with_reducible refine Sub.head15 ?_ | with_reducible refine Sub.drop ?_))⟩ (by simp only; omega))
    · repeat (first | refine g_seq ?_ | refine g_skip ?_ | refine g_inBlock ?_ | refine g_block ?_ | refine g_label ?_)
      refine g_region ?_
      refine rl_v rfl rfl rfl (S := fun _ => True) trivial (v_move rfl) ?_
      refine rl_v rfl rfl rfl (S := fun _ => True) trivial (v_move rfl) ?_
      refine rl_v rfl rfl rfl (S := fun _ => True) trivial (v_move rfl) ?_
      refine rl_v rfl rfl rfl (S := fun _ => True) trivial (v_move rfl) ?_
      refine rl_v rfl rfl rfl (S := fun _ => True) trivial (v_indexAddr T.sl_22_29_3 rfl rfl (by omega) (by omega)) ?_
      refine rl_v rfl rfl rfl (by first | exact sat_cells hw (by first | with_reducible exact Pick.at0 | with_reducible exact Pick.at1 | with_reducible exact Pick.at2 | with_reducible exact Pick.at3 | with_reducible exact Pick.at4 | with_reducible exact Pick.at5 | with_reducible exact Pick.at6 | with_reducible exact Pick.at7 | with_reducible exact Pick.at8 | with_reducible exact Pick.at9 | with_reducible exact Pick.at10 | with_reducible exact Pick.at11 | with_reducible exact Pick.at12 | with_reducible exact Pick.at13 | with_reducible exact Pick.at14 | with_reducible exact Pick.at15) ⟨rfl, rfl, rfl, trivial⟩ | exact old_cells hw (by first | with_reducible exact Pick.at0 | with_reducible exact Pick.at1 | with_reducible exact Pick.at2 | with_reducible exact Pick.at3 | with_reducible exact Pick.at4 | with_reducible exact Pick.at5 | with_reducible exact Pick.at6 | with_reducible exact Pick.at7 | with_reducible exact Pick.at8 | with_reducible exact Pick.at9 | with_reducible exact Pick.at10 | with_reducible exact Pick.at11 | with_reducible exact Pick.at12 | with_reducible exact Pick.at13 | with_reducible exact Pick.at14 | with_reducible exact Pick.at15) (by assumption)) (v_loadAgg (vs := [_, _, _]) T.agg_29_3 rfl rfl) ?_
      refine rl_k rfl (k_callf Try.func14 rfl rfl rfl rfl ?_)
      refine Calls.mono (step11_calls _ _ s s _ _ _ hs hs (hw.sub (by repeat (first | with_reducible exact Sub.refl _ | with_reducible exact Sub.last1 | with_reducible exact Sub.last2 | with_reducible exact Sub.last3 | with_reducible exact Sub.last4 | with_reducible exact Sub.last5 | with_reducible exact Sub.last6 | with_reducible exact Sub.last7 | with_reducible exact Sub.last8 | with_reducible exact Sub.last9 | with_reducible exact Sub.last10 | with_reducible exact Sub.last11 | with_reducible exact Sub.last12 | with_reducible exact Sub.last13 | with_reducible exact Sub.last14 | with_reducible exact Sub.last15 | with_reducible refine Sub.head0 ?_ | with_reducible refine Sub.head1 ?_ | with_reducible refine Sub.head2 ?_ | with_reducible refine Sub.head3 ?_ | with_reducible refine Sub.head4 ?_ | with_reducible refine Sub.head5 ?_ | with_reducible refine Sub.head6 ?_ | with_reducible refine Sub.head7 ?_ | with_reducible refine Sub.head8 ?_ | with_reducible refine Sub.head9 ?_ | with_reducible refine Sub.head10 ?_ | with_reducible refine Sub.head11 ?_ | with_reducible refine Sub.head12 ?_ | with_reducible refine Sub.head13 ?_ | with_reducible refine Sub.head14 ?_ | with_reducible refine Sub.head15 ?_ | with_reducible refine Sub.drop ?_)))) ?_
      rintro _ w ⟨b', s', t', rfl, hs', ht', hst, hw⟩
      obtain ⟨rfl, rfl⟩ := hst rfl
      refine ⟨_, rfl, ?_⟩
      refine rl_v rfl rfl rfl (S := fun _ => True) trivial (v_assign rfl) ?_
      refine rl_nil (g_le (Fr.le_keep (Fr.le_skip rfl (Fr.le_skip rfl (Fr.le_skip rfl (Fr.le_skip rfl (Fr.le_skip rfl (Fr.le_skip rfl (Fr.le_skip rfl (Fr.le_refl _))))))))) ?_)
      repeat (first | refine g_seq ?_ | refine g_skip ?_ | refine g_inBlock ?_ | refine g_block ?_ | refine g_label ?_)
      refine g_region ?_
      refine rl_v rfl rfl rfl (S := fun _ => True) trivial (v_move rfl) ?_
      refine rl_v rfl rfl rfl (S := fun _ => True) trivial (v_not rfl) ?_
      refine rl_v rfl rfl rfl (S := fun _ => True) trivial (v_move rfl) ?_
      first | (refine rl_vg (met_on rfl rfl rfl rfl) rfl rfl (S := fun _ => True) trivial (v_move rfl) ?_) | (refine rl_off (met_off rfl rfl rfl rfl rfl) rfl rfl ?_)
      first | (refine rl_vg (met_on rfl rfl rfl rfl) rfl rfl (S := fun _ => True) trivial (v_move rfl) ?_) | (refine rl_off (met_off rfl rfl rfl rfl rfl) rfl rfl ?_)
      first | (refine rl_kg (met_on rfl rfl rfl rfl) (k_callf Try.func15 rfl rfl rfl rfl ?_); refine Calls.mono (told_calls _ _ _ (hw.sub (by repeat (first | with_reducible exact Sub.refl _ | with_reducible exact Sub.last1 | with_reducible exact Sub.last2 | with_reducible exact Sub.last3 | with_reducible exact Sub.last4 | with_reducible exact Sub.last5 | with_reducible exact Sub.last6 | with_reducible exact Sub.last7 | with_reducible exact Sub.last8 | with_reducible exact Sub.last9 | with_reducible exact Sub.last10 | with_reducible exact Sub.last11 | with_reducible exact Sub.last12 | with_reducible exact Sub.last13 | with_reducible exact Sub.last14 | with_reducible exact Sub.last15 | with_reducible refine Sub.head0 ?_ | with_reducible refine Sub.head1 ?_ | with_reducible refine Sub.head2 ?_ | with_reducible refine Sub.head3 ?_ | with_reducible refine Sub.head4 ?_ | with_reducible refine Sub.head5 ?_ | with_reducible refine Sub.head6 ?_ | with_reducible refine Sub.head7 ?_ | with_reducible refine Sub.head8 ?_ | with_reducible refine Sub.head9 ?_ | with_reducible refine Sub.head10 ?_ | with_reducible refine Sub.head11 ?_ | with_reducible refine Sub.head12 ?_ | with_reducible refine Sub.head13 ?_ | with_reducible refine Sub.head14 ?_ | with_reducible refine Sub.head15 ?_ | with_reducible refine Sub.drop ?_)))) ?_; rintro _ w ⟨rfl, hw⟩; refine ⟨_, rfl, ?_⟩) | (refine rl_off (met_off rfl rfl rfl rfl rfl) rfl rfl ?_)
      first | (refine rl_vg (met_on rfl rfl rfl rfl) rfl rfl (S := fun _ => True) trivial (v_not rfl) ?_) | (refine rl_off (met_off rfl rfl rfl rfl rfl) rfl rfl ?_)
      first | (refine rl_v rfl rfl rfl (S := fun _ => True) trivial (v_pick_true rfl rfl) ?_) | (refine rl_v rfl rfl rfl (S := fun _ => True) trivial (v_pick_false rfl rfl) ?_) | (refine rl_v rfl rfl rfl (S := fun _ => True) trivial (v_pick rfl rfl rfl) ?_)
      refine rl_v rfl rfl rfl (S := fun _ => True) trivial (v_move rfl) ?_
      first | (refine rl_vg (met_on rfl rfl rfl rfl) rfl rfl (S := fun _ => True) trivial (v_move rfl) ?_) | (refine rl_off (met_off rfl rfl rfl rfl rfl) rfl rfl ?_)
      first | (refine rl_vg (met_on rfl rfl rfl rfl) rfl rfl (S := fun _ => True) trivial (v_move rfl) ?_) | (refine rl_off (met_off rfl rfl rfl rfl rfl) rfl rfl ?_)
      first | (refine rl_kg (met_on rfl rfl rfl rfl) (k_callf Try.func15 rfl rfl rfl rfl ?_); refine Calls.mono (told_calls _ _ _ (hw.sub (by repeat (first | with_reducible exact Sub.refl _ | with_reducible exact Sub.last1 | with_reducible exact Sub.last2 | with_reducible exact Sub.last3 | with_reducible exact Sub.last4 | with_reducible exact Sub.last5 | with_reducible exact Sub.last6 | with_reducible exact Sub.last7 | with_reducible exact Sub.last8 | with_reducible exact Sub.last9 | with_reducible exact Sub.last10 | with_reducible exact Sub.last11 | with_reducible exact Sub.last12 | with_reducible exact Sub.last13 | with_reducible exact Sub.last14 | with_reducible exact Sub.last15 | with_reducible refine Sub.head0 ?_ | with_reducible refine Sub.head1 ?_ | with_reducible refine Sub.head2 ?_ | with_reducible refine Sub.head3 ?_ | with_reducible refine Sub.head4 ?_ | with_reducible refine Sub.head5 ?_ | with_reducible refine Sub.head6 ?_ | with_reducible refine Sub.head7 ?_ | with_reducible refine Sub.head8 ?_ | with_reducible refine Sub.head9 ?_ | with_reducible refine Sub.head10 ?_ | with_reducible refine Sub.head11 ?_ | with_reducible refine Sub.head12 ?_ | with_reducible refine Sub.head13 ?_ | with_reducible refine Sub.head14 ?_ | with_reducible refine Sub.head15 ?_ | with_reducible refine Sub.drop ?_)))) ?_; rintro _ w ⟨rfl, hw⟩; refine ⟨_, rfl, ?_⟩) | (refine rl_off (met_off rfl rfl rfl rfl rfl) rfl rfl ?_)
      first | (refine rl_vg (met_on rfl rfl rfl rfl) rfl rfl (S := fun _ => True) trivial (v_not rfl) ?_) | (refine rl_off (met_off rfl rfl rfl rfl rfl) rfl rfl ?_)
      first | (refine rl_v rfl rfl rfl (S := fun _ => True) trivial (v_pick_true rfl rfl) ?_) | (refine rl_v rfl rfl rfl (S := fun _ => True) trivial (v_pick_false rfl rfl) ?_) | (refine rl_v rfl rfl rfl (S := fun _ => True) trivial (v_pick rfl rfl rfl) ?_)
      refine rl_nil (g_le (Fr.le_keep (Fr.le_skip rfl (Fr.le_skip rfl (Fr.le_skip rfl (Fr.le_skip rfl (Fr.le_skip rfl (Fr.le_skip rfl (Fr.le_skip rfl (Fr.le_skip rfl (Fr.le_skip rfl (Fr.le_skip rfl (Fr.le_skip rfl (Fr.le_skip rfl (Fr.le_skip rfl (Fr.le_refl _))))))))))))))) ?_)
      refine g_cond_false rfl ?_
      repeat (first | refine g_seq ?_ | refine g_skip ?_ | refine g_inBlock ?_ | refine g_block ?_ | refine g_label ?_)
      refine g_region ?_
      refine rl_v rfl rfl rfl (S := fun _ => True) trivial (v_move rfl) ?_
      first | (refine rl_v rfl rfl rfl (S := fun _ => True) trivial (v_add rfl rfl (by omega)) ?_) | (refine rl_v rfl rfl rfl (S := fun _ => True) trivial (v_addW rfl rfl) ?_)
      refine rl_v rfl rfl rfl (S := fun _ => True) trivial (v_assign rfl) ?_
      refine rl_nil (g_le (Fr.le_keep (Fr.le_skip rfl (Fr.le_skip rfl (Fr.le_refl _)))) ?_)
      exact g_le (by repeat (first | exact Fr.le_nil _ | refine Fr.le_cons rfl ?_)) (ih (i + 1, s', t) w ⟨by simp only; omega, by simp only; omega, hs', ht, hw.sub (by repeat (first | with_reducible exact Sub.refl _ | with_reducible exact Sub.last1 | with_reducible exact Sub.last2 | with_reducible exact Sub.last3 | with_reducible exact Sub.last4 | with_reducible exact Sub.last5 | with_reducible exact Sub.last6 | with_reducible exact Sub.last7 | with_reducible exact Sub.last8 | with_reducible exact Sub.last9 | with_reducible exact Sub.last10 | with_reducible exact Sub.last11 | with_reducible exact Sub.last12 | with_reducible exact Sub.last13 | with_reducible exact Sub.last14 | with_reducible exact Sub.last15 | with_reducible refine Sub.head0 ?_ | with_reducible refine Sub.head1 ?_ | with_reducible refine Sub.head2 ?_ | with_reducible refine Sub.head3 ?_ | with_reducible refine Sub.head4 ?_ | with_reducible refine Sub.head5 ?_ | with_reducible refine Sub.head6 ?_ | with_reducible refine Sub.head7 ?_ | with_reducible refine Sub.head8 ?_ | with_reducible refine Sub.head9 ?_ | with_reducible refine Sub.head10 ?_ | with_reducible refine Sub.head11 ?_ | with_reducible refine Sub.head12 ?_ | with_reducible refine Sub.head13 ?_ | with_reducible refine Sub.head14 ?_ | with_reducible refine Sub.head15 ?_ | with_reducible refine Sub.drop ?_))⟩ (by simp only; omega))
  · repeat (first | refine g_seq ?_ | refine g_skip ?_ | refine g_inBlock ?_ | refine g_block ?_ | refine g_label ?_)
    refine g_exit rfl ?_
    repeat (first | refine g_seq ?_ | refine g_skip ?_ | refine g_inBlock ?_ | refine g_block ?_ | refine g_label ?_)
    refine g_region ?_
    refine rl_v rfl rfl rfl (S := fun _ => True) trivial (v_move rfl) ?_
    refine rl_v rfl rfl rfl (S := fun _ => True) trivial (v_move rfl) ?_
    refine rl_k rfl (k_callf Try.func15 rfl rfl rfl rfl ?_)
    refine Calls.mono (told_calls _ _ _ (hw.sub (by repeat (first | with_reducible exact Sub.refl _ | with_reducible exact Sub.last1 | with_reducible exact Sub.last2 | with_reducible exact Sub.last3 | with_reducible exact Sub.last4 | with_reducible exact Sub.last5 | with_reducible exact Sub.last6 | with_reducible exact Sub.last7 | with_reducible exact Sub.last8 | with_reducible exact Sub.last9 | with_reducible exact Sub.last10 | with_reducible exact Sub.last11 | with_reducible exact Sub.last12 | with_reducible exact Sub.last13 | with_reducible exact Sub.last14 | with_reducible exact Sub.last15 | with_reducible refine Sub.head0 ?_ | with_reducible refine Sub.head1 ?_ | with_reducible refine Sub.head2 ?_ | with_reducible refine Sub.head3 ?_ | with_reducible refine Sub.head4 ?_ | with_reducible refine Sub.head5 ?_ | with_reducible refine Sub.head6 ?_ | with_reducible refine Sub.head7 ?_ | with_reducible refine Sub.head8 ?_ | with_reducible refine Sub.head9 ?_ | with_reducible refine Sub.head10 ?_ | with_reducible refine Sub.head11 ?_ | with_reducible refine Sub.head12 ?_ | with_reducible refine Sub.head13 ?_ | with_reducible refine Sub.head14 ?_ | with_reducible refine Sub.head15 ?_ | with_reducible refine Sub.drop ?_)))) ?_
    rintro _ w ⟨rfl, hw⟩
    refine ⟨_, rfl, ?_⟩
    refine rl_v rfl rfl rfl (S := fun _ => True) trivial (v_move rfl) ?_
    first | (refine rl_vg (met_on rfl rfl rfl rfl) rfl rfl (S := fun _ => True) trivial (v_move rfl) ?_) | (refine rl_off (met_off rfl rfl rfl rfl rfl) rfl rfl ?_)
    first | (refine rl_vg (met_on rfl rfl rfl rfl) rfl rfl (S := fun _ => True) trivial (v_move rfl) ?_) | (refine rl_off (met_off rfl rfl rfl rfl rfl) rfl rfl ?_)
    first | (refine rl_kg (met_on rfl rfl rfl rfl) (k_callf Try.func15 rfl rfl rfl rfl ?_); refine Calls.mono (told_calls _ _ _ (hw.sub (by repeat (first | with_reducible exact Sub.refl _ | with_reducible exact Sub.last1 | with_reducible exact Sub.last2 | with_reducible exact Sub.last3 | with_reducible exact Sub.last4 | with_reducible exact Sub.last5 | with_reducible exact Sub.last6 | with_reducible exact Sub.last7 | with_reducible exact Sub.last8 | with_reducible exact Sub.last9 | with_reducible exact Sub.last10 | with_reducible exact Sub.last11 | with_reducible exact Sub.last12 | with_reducible exact Sub.last13 | with_reducible exact Sub.last14 | with_reducible exact Sub.last15 | with_reducible refine Sub.head0 ?_ | with_reducible refine Sub.head1 ?_ | with_reducible refine Sub.head2 ?_ | with_reducible refine Sub.head3 ?_ | with_reducible refine Sub.head4 ?_ | with_reducible refine Sub.head5 ?_ | with_reducible refine Sub.head6 ?_ | with_reducible refine Sub.head7 ?_ | with_reducible refine Sub.head8 ?_ | with_reducible refine Sub.head9 ?_ | with_reducible refine Sub.head10 ?_ | with_reducible refine Sub.head11 ?_ | with_reducible refine Sub.head12 ?_ | with_reducible refine Sub.head13 ?_ | with_reducible refine Sub.head14 ?_ | with_reducible refine Sub.head15 ?_ | with_reducible refine Sub.drop ?_)))) ?_; rintro _ w ⟨rfl, hw⟩; refine ⟨_, rfl, ?_⟩) | (refine rl_off (met_off rfl rfl rfl rfl rfl) rfl rfl ?_)
    first | (refine rl_v rfl rfl rfl (S := fun _ => True) trivial (v_pick_true rfl rfl) ?_) | (refine rl_v rfl rfl rfl (S := fun _ => True) trivial (v_pick_false rfl rfl) ?_) | (refine rl_v rfl rfl rfl (S := fun _ => True) trivial (v_pick rfl rfl rfl) ?_)
    refine rl_v rfl rfl rfl (S := fun _ => True) trivial (v_assign rfl) ?_
    refine rl_nil (g_le (Fr.le_keep (Fr.le_skip rfl (Fr.le_skip rfl (Fr.le_skip rfl (Fr.le_skip rfl (Fr.le_skip rfl (Fr.le_skip rfl (Fr.le_skip rfl (Fr.le_skip rfl (Fr.le_refl _)))))))))) ?_)
    refine g_ret1 Try.func3 rfl rfl ?_
    exact ⟨rfl, hw.sub (by repeat (first | with_reducible exact Sub.refl _ | with_reducible exact Sub.last1 | with_reducible exact Sub.last2 | with_reducible exact Sub.last3 | with_reducible exact Sub.last4 | with_reducible exact Sub.last5 | with_reducible exact Sub.last6 | with_reducible exact Sub.last7 | with_reducible exact Sub.last8 | with_reducible exact Sub.last9 | with_reducible exact Sub.last10 | with_reducible exact Sub.last11 | with_reducible exact Sub.last12 | with_reducible exact Sub.last13 | with_reducible exact Sub.last14 | with_reducible exact Sub.last15 | with_reducible refine Sub.head0 ?_ | with_reducible refine Sub.head1 ?_ | with_reducible refine Sub.head2 ?_ | with_reducible refine Sub.head3 ?_ | with_reducible refine Sub.head4 ?_ | with_reducible refine Sub.head5 ?_ | with_reducible refine Sub.head6 ?_ | with_reducible refine Sub.head7 ?_ | with_reducible refine Sub.head8 ?_ | with_reducible refine Sub.head9 ?_ | with_reducible refine Sub.head10 ?_ | with_reducible refine Sub.head11 ?_ | with_reducible refine Sub.head12 ?_ | with_reducible refine Sub.head13 ?_ | with_reducible refine Sub.head14 ?_ | with_reducible refine Sub.head15 ?_ | with_reducible refine Sub.drop ?_))⟩

set_option maxRecDepth 100000 in
theorem PowerPlays_lifted (os : Os) (started : os.Started) (H : Type) (enc : TypeId × Value → H) :
    ReturnsInHanded {} Try.checked os 3 .any (Rows.powerPlaysSpec.pre6 enc Try.prog Try.f3 Rows.powerPlaysRow.domain false) (Rows.powerPlaysSpec.post enc Try.prog Try.f3 false true false false) := by
  refine returnsInHanded_of_change_sized (C := Try.checked) T.own started (by kernel_rfl) Try.func3
    (ChangeSpec.witness6 (enc := enc) (C := Try.checked) false ⟨#[], #[(.slice none 0 0)], []⟩ 8 (by kernel_rfl) (by kernel_rfl) (by kernel_rfl) (by kernel_rfl)) ?_
  intro W base args ds gs before hval0 hW hcnd hsz0 _
  have hval : ∀ (j : Nat) t v, Try.f3.params[j]? = some t → args[j]? = some v → Value.okWide Try.prog W .any base t v := hval0
  have hW' := hW
  obtain ⟨p, q, hA0, hV, rfl, hfz, hnd⟩ := hW
  have hA : DataW.TrodAll enc Try.prog W 0 (fun _ => true) true Try.f3.params.toList args.toList ds p := hA0
  obtain ⟨rfl, rfl⟩ := trodVars_none hV
  have hsz : (DataW.weightsEach Try.prog (Try.f3.params.toList ++ []) (ds ++ [])).all (· ≤ reachBytes) = true := hsz0
  rw [List.append_nil, List.append_nil] at hsz
  rw [Try.params3] at hA hval hsz
  obtain ⟨v0, vs0, d0, ds0, p0, q0, hargs, rfl, rfl, h0, r0⟩ := trodAll_cons hA
  obtain ⟨rfl, rfl, rfl⟩ := trodAll_nil r0
  obtain rfl : args = #[v0] := by cases args; simp_all
  have lt0 : ∀ x ∈ p0, x.block < W.heap.size := by obtain ⟨m, hm⟩ := h0; exact DataW.trod_lt m _ _ _ hm
  obtain ⟨x0, w0⟩ := arg_of (j := 0) (reads_sl T.sl_22_29_3 T.bytes_29_24 (by decide) reads_Op11) h0 hsz rfl rfl
  obtain ⟨a0, l0, c0, rfl⟩ := okWide_slice Try.underlying22 (hval 0 22 v0 rfl rfl)
  refine (PowerPlays_law w0).mono fun e W' ⟨he, hb⟩ => ?_
  have bel := hb.below
  subst he
  exact ⟨_, rfl, _, _, _, [], _, [], hW', trodAll_mk1 (shut_bool Try.underlying4 _), (trodAll_cons_mk (Below.trod T.laidOut (by kernel_rfl) (of_decide_eq_true (by kernel_rfl)) h0 bel lt0) trodAll_mk0), rfl, bel.frame _, fun h => by cases h⟩
theorem PowerPlays_holds : Rows.PowerPlaysSaid :=
  OpenClaim.holds_of_wide 3 Try.f3 rfl rfl rfl rfl rfl rfl rfl ⟨rfl, rfl, rfl, rfl, rfl⟩ rfl rfl rfl rfl rfl (by kernel_rfl) Try.func3 (by kernel_rfl)
    (of_decide_eq_true (by kernel_rfl)) (by unfold Func.isWrapper; rw [if_neg (of_decide_eq_false (by kernel_rfl))]; exact ⟨rfl, rfl⟩)
    (fun os started H enc _ => PowerPlays_lifted os started H enc)
#print axioms PowerPlays_holds


theorem PowerCuts_law {w : World} {a : Option Addr} {len cap : Nat} {n : Int} {xs : List Op11} (hr : rdArg (rdSl 24 3 rdOp11) w (.slice a len cap) xs) (_hn : (Lit.int .i64 n).wf = true) :
    Law Try.prog 4 [.slice a len cap, .int .i64 n] w := by
  unfold Law
  have hw := Sat.old w
  generalize w = W at hr hw ⊢
  refine calls_of_g (n := 120) Try.func4 rfl rfl rfl ?_
  change G _ _ _ _ _ [(0, _), (1, _)] _
  repeat (first | refine g_seq ?_ | refine g_skip ?_ | refine g_inBlock ?_ | refine g_block ?_ | refine g_label ?_)
  refine g_region ?_
  refine rl_v rfl rfl rfl (S := fun _ => True) trivial (v_assign rfl) ?_
  refine rl_nil (g_le (Fr.le_keep (Fr.le_refl _)) ?_)
  repeat (first | refine g_seq ?_ | refine g_skip ?_ | refine g_inBlock ?_ | refine g_block ?_ | refine g_label ?_)
  refine g_region ?_
  refine rl_k rfl (k_callf Try.func11 rfl rfl rfl rfl ?_)
  refine Calls.mono (awake11_calls hw) ?_
  rintro _ w ⟨rfl, hw⟩
  refine ⟨_, rfl, ?_⟩
  refine rl_v rfl rfl rfl (S := fun _ => True) trivial (v_assign rfl) ?_
  refine rl_nil (g_le (Fr.le_keep (Fr.le_skip rfl (Fr.le_refl _))) ?_)
  repeat (first | refine g_seq ?_ | refine g_skip ?_ | refine g_inBlock ?_ | refine g_block ?_ | refine g_label ?_)
  refine g_region ?_
  refine rl_k rfl (k_callf Try.func12 rfl rfl rfl rfl ?_)
  refine Calls.mono (new_calls hw) ?_
  rintro _ w ⟨p, rfl, hw⟩
  refine ⟨_, rfl, ?_⟩
  refine rl_v rfl rfl rfl (S := fun _ => True) trivial (v_assign rfl) ?_
  refine rl_nil (g_le (Fr.le_keep (Fr.le_skip rfl (Fr.le_refl _))) ?_)
  repeat (first | refine g_seq ?_ | refine g_skip ?_ | refine g_inBlock ?_ | refine g_block ?_ | refine g_label ?_)
  refine g_region ?_
  refine rl_v rfl rfl rfl (S := fun _ => True) trivial (v_move rfl) ?_
  refine rl_v rfl rfl rfl (S := fun _ => True) trivial (v_not rfl) ?_
  refine rl_v rfl rfl rfl (S := fun _ => True) trivial (v_move rfl) ?_
  first | (refine rl_vg (met_on rfl rfl rfl rfl) rfl rfl (S := fun _ => True) trivial (v_move rfl) ?_) | (refine rl_off (met_off rfl rfl rfl rfl rfl) rfl rfl ?_)
  first | (refine rl_vg (met_on rfl rfl rfl rfl) rfl rfl (S := fun _ => True) trivial (v_eqlNil T.ptr_24 rfl rfl) ?_) | (refine rl_off (met_off rfl rfl rfl rfl rfl) rfl rfl ?_)
  first | (refine rl_v rfl rfl rfl (S := fun _ => True) trivial (v_pick_true rfl rfl) ?_) | (refine rl_v rfl rfl rfl (S := fun _ => True) trivial (v_pick_false rfl rfl) ?_) | (refine rl_v rfl rfl rfl (S := fun _ => True) trivial (v_pick rfl rfl rfl) ?_)
  refine rl_nil (g_le (Fr.le_keep (Fr.le_skip rfl (Fr.le_skip rfl (Fr.le_skip rfl (Fr.le_skip rfl (Fr.le_skip rfl (Fr.le_refl _))))))) ?_)
  refine g_cond_false rfl ?_
  repeat (first | refine g_seq ?_ | refine g_skip ?_ | refine g_inBlock ?_ | refine g_block ?_ | refine g_label ?_)
  refine g_region ?_
  refine rl_v rfl rfl rfl (S := fun _ => True) trivial (v_assign rfl) ?_
  refine rl_nil (g_le (Fr.le_keep (Fr.le_refl _)) ?_)
  repeat (first | refine g_seq ?_ | refine g_skip ?_ | refine g_inBlock ?_ | refine g_block ?_ | refine g_label ?_)
  have hlen := (rdSl_at hr)
  obtain ⟨_, hcap, hlc, _⟩ := hlen
  have hmax : (len : Int) ≤ 140737488351232 := by unfold reachBytes at hcap; omega
  refine g_loop (σ := Int × Pw) (fun x => [(7, .int .i64 x.1), (0, _), (1, _), (6, _)])
    (fun x w => 0 ≤ x.1 ∧ x.1 ≤ len ∧ Pw.ok x.2 ∧ Sat (envOf W) w [PwAt p x.2, Old W]) (fun x => (len - x.1).toNat) ?round
    (0, ⟨false, 0, 0⟩) (by repeat (first | exact Fr.le_nil _ | refine Fr.le_cons rfl ?_)) ⟨by simp, by simp, Pw.ok_new, hw.sub (by repeat (first | with_reducible exact Sub.refl _ | with_reducible exact Sub.last1 | with_reducible exact Sub.last2 | with_reducible exact Sub.last3 | with_reducible exact Sub.last4 | with_reducible exact Sub.last5 | with_reducible exact Sub.last6 | with_reducible exact Sub.last7 | with_reducible exact Sub.last8 | with_reducible exact Sub.last9 | with_reducible exact Sub.last10 | with_reducible exact Sub.last11 | with_reducible exact Sub.last12 | with_reducible exact Sub.last13 | with_reducible exact Sub.last14 | with_reducible exact Sub.last15 | with_reducible refine Sub.head0 ?_ | with_reducible refine Sub.head1 ?_ | with_reducible refine Sub.head2 ?_ | with_reducible refine Sub.head3 ?_ | with_reducible refine Sub.head4 ?_ | with_reducible refine Sub.head5 ?_ | with_reducible refine Sub.head6 ?_ | with_reducible refine Sub.head7 ?_ | with_reducible refine Sub.head8 ?_ | with_reducible refine Sub.head9 ?_ | with_reducible refine Sub.head10 ?_ | with_reducible refine Sub.head11 ?_ | with_reducible refine Sub.head12 ?_ | with_reducible refine Sub.head13 ?_ | with_reducible refine Sub.head14 ?_ | with_reducible refine Sub.head15 ?_ | with_reducible refine Sub.drop ?_))⟩
  rintro ⟨i, s⟩ w ⟨hi0, hi1, hs, hw⟩ ih
  dsimp only at hi0 hi1 hs hw ⊢
  repeat (first | refine g_seq ?_ | refine g_skip ?_ | refine g_inBlock ?_ | refine g_block ?_ | refine g_label ?_)
  refine g_region ?_
  refine rl_v rfl rfl rfl (S := fun _ => True) trivial (v_move rfl) ?_
  refine rl_v rfl rfl rfl (S := fun _ => True) trivial (v_move rfl) ?_
  refine rl_v rfl rfl rfl (S := fun _ => True) trivial (v_lenSlice T.sl_22_29_3 rfl) ?_
  first | (refine rl_v rfl rfl rfl (S := fun _ => True) trivial (v_lssT rfl rfl (by omega)) ?_) | (refine rl_v rfl rfl rfl (S := fun _ => True) trivial (v_lssF rfl rfl (by omega)) ?_) | (refine rl_v rfl rfl rfl (S := fun _ => True) trivial (v_lss rfl rfl) ?_)
  refine rl_nil (g_le (Fr.le_keep (Fr.le_skip rfl (Fr.le_skip rfl (Fr.le_skip rfl (Fr.le_refl _))))) ?_)
  refine g_cond_dec rfl (fun h5 => ?_) (fun h5 => ?_)
  · obtain ⟨b, o, kind, n, on, rfl, hat, hon⟩ := op11_at hr i hi0 h5
    repeat (first | refine g_seq ?_ | refine g_skip ?_ | refine g_inBlock ?_ | refine g_block ?_ | refine g_label ?_)
    refine g_draw [6] T.mixed rfl hw (fun w hw => ?_)
    refine ra_a 0 rfl rfl rfl rfl (by kernel_rfl) (v_move rfl) ?_
    refine ra_a 2 rfl rfl rfl rfl (by kernel_rfl) (v_move rfl) ?_
    refine ra_a 3 rfl rfl rfl rfl (by kernel_rfl) (v_move rfl) ?_
    refine ra_a 4 rfl rfl rfl rfl (by kernel_rfl) (v_indexAddr T.sl_22_29_3 rfl rfl (by omega) (by omega)) ?_
    refine ra_v 5 rfl rfl rfl rfl (by kernel_rfl) (OpV.mono (v_loadAgg (vs := [_, _, _]) T.agg_29_3 rfl rfl) (fun w hw => by first | exact sat_cells hw (by first | with_reducible exact Pick.at0 | with_reducible exact Pick.at1 | with_reducible exact Pick.at2 | with_reducible exact Pick.at3 | with_reducible exact Pick.at4 | with_reducible exact Pick.at5 | with_reducible exact Pick.at6 | with_reducible exact Pick.at7 | with_reducible exact Pick.at8 | with_reducible exact Pick.at9 | with_reducible exact Pick.at10 | with_reducible exact Pick.at11 | with_reducible exact Pick.at12 | with_reducible exact Pick.at13 | with_reducible exact Pick.at14 | with_reducible exact Pick.at15) ⟨rfl, rfl, rfl, trivial⟩ | exact old_cells hw (by first | with_reducible exact Pick.at0 | with_reducible exact Pick.at1 | with_reducible exact Pick.at2 | with_reducible exact Pick.at3 | with_reducible exact Pick.at4 | with_reducible exact Pick.at5 | with_reducible exact Pick.at6 | with_reducible exact Pick.at7 | with_reducible exact Pick.at8 | with_reducible exact Pick.at9 | with_reducible exact Pick.at10 | with_reducible exact Pick.at11 | with_reducible exact Pick.at12 | with_reducible exact Pick.at13 | with_reducible exact Pick.at14 | with_reducible exact Pick.at15) (by assumption))) hw ?_
    refine ra_k 1 rfl rfl (by kernel_rfl) (k_callf Try.func13 rfl rfl rfl rfl ?_)
    refine Calls.mono (rnew_calls hw) ?_
    rintro _ w ⟨d, rfl, hw⟩
    refine ⟨_, rfl, ?_⟩
    refine ⟨fun _ => (by first | exact hw | exact Sat.sub hw (by repeat (first | with_reducible exact Sub.refl _ | with_reducible exact Sub.last1 | with_reducible exact Sub.last2 | with_reducible exact Sub.last3 | with_reducible exact Sub.last4 | with_reducible exact Sub.last5 | with_reducible exact Sub.last6 | with_reducible exact Sub.last7 | with_reducible exact Sub.last8 | with_reducible exact Sub.last9 | with_reducible exact Sub.last10 | with_reducible exact Sub.last11 | with_reducible exact Sub.last12 | with_reducible exact Sub.last13 | with_reducible exact Sub.last14 | with_reducible exact Sub.last15 | with_reducible refine Sub.head0 ?_ | with_reducible refine Sub.head1 ?_ | with_reducible refine Sub.head2 ?_ | with_reducible refine Sub.head3 ?_ | with_reducible refine Sub.head4 ?_ | with_reducible refine Sub.head5 ?_ | with_reducible refine Sub.head6 ?_ | with_reducible refine Sub.head7 ?_ | with_reducible refine Sub.head8 ?_ | with_reducible refine Sub.head9 ?_ | with_reducible refine Sub.head10 ?_ | with_reducible refine Sub.head11 ?_ | with_reducible refine Sub.head12 ?_ | with_reducible refine Sub.head13 ?_ | with_reducible refine Sub.head14 ?_ | with_reducible refine Sub.head15 ?_ | with_reducible refine Sub.drop ?_))), ?_⟩
    refine ra_k 6 rfl rfl (by kernel_rfl) (k_callf Try.func14 rfl rfl rfl rfl ?_)
    refine Calls.mono (step11_calls _ _ s ⟨false, 0, 0⟩ _ _ _ hs Pw.ok_new (hw.sub (by repeat (first | with_reducible exact Sub.refl _ | with_reducible exact Sub.last1 | with_reducible exact Sub.last2 | with_reducible exact Sub.last3 | with_reducible exact Sub.last4 | with_reducible exact Sub.last5 | with_reducible exact Sub.last6 | with_reducible exact Sub.last7 | with_reducible exact Sub.last8 | with_reducible exact Sub.last9 | with_reducible exact Sub.last10 | with_reducible exact Sub.last11 | with_reducible exact Sub.last12 | with_reducible exact Sub.last13 | with_reducible exact Sub.last14 | with_reducible exact Sub.last15 | with_reducible refine Sub.head0 ?_ | with_reducible refine Sub.head1 ?_ | with_reducible refine Sub.head2 ?_ | with_reducible refine Sub.head3 ?_ | with_reducible refine Sub.head4 ?_ | with_reducible refine Sub.head5 ?_ | with_reducible refine Sub.head6 ?_ | with_reducible refine Sub.head7 ?_ | with_reducible refine Sub.head8 ?_ | with_reducible refine Sub.head9 ?_ | with_reducible refine Sub.head10 ?_ | with_reducible refine Sub.head11 ?_ | with_reducible refine Sub.head12 ?_ | with_reducible refine Sub.head13 ?_ | with_reducible refine Sub.head14 ?_ | with_reducible refine Sub.head15 ?_ | with_reducible refine Sub.drop ?_)))) ?_
    rintro _ w ⟨b', s', t', rfl, hs', ht', hst, hw⟩
    refine ⟨_, rfl, ?_⟩
    refine ⟨fun hn => absurd (by decide) hn, ?_⟩
    refine ra_done (by kernel_rfl) (g_le (Fr.le_skip rfl (Fr.le_skip rfl (Fr.le_skip rfl (Fr.le_skip rfl (Fr.le_skip rfl (Fr.le_skip rfl (Fr.le_skip rfl (Fr.le_refl _)))))))) ?_)
    repeat (first | refine g_seq ?_ | refine g_skip ?_ | refine g_inBlock ?_ | refine g_block ?_ | refine g_label ?_)
    refine g_region ?_
    refine rl_v rfl rfl rfl (S := fun _ => True) trivial (v_move rfl) ?_
    first | (refine rl_v rfl rfl rfl (S := fun _ => True) trivial (v_add rfl rfl (by omega)) ?_) | (refine rl_v rfl rfl rfl (S := fun _ => True) trivial (v_addW rfl rfl) ?_)
    refine rl_v rfl rfl rfl (S := fun _ => True) trivial (v_assign rfl) ?_
    refine rl_nil (g_le (Fr.le_keep (Fr.le_skip rfl (Fr.le_skip rfl (Fr.le_refl _)))) ?_)
    exact g_le (by repeat (first | exact Fr.le_nil _ | refine Fr.le_cons rfl ?_)) (ih (i + 1, s') w ⟨by simp only; omega, by simp only; omega, hs', hw.sub (by repeat (first | with_reducible exact Sub.refl _ | with_reducible exact Sub.last1 | with_reducible exact Sub.last2 | with_reducible exact Sub.last3 | with_reducible exact Sub.last4 | with_reducible exact Sub.last5 | with_reducible exact Sub.last6 | with_reducible exact Sub.last7 | with_reducible exact Sub.last8 | with_reducible exact Sub.last9 | with_reducible exact Sub.last10 | with_reducible exact Sub.last11 | with_reducible exact Sub.last12 | with_reducible exact Sub.last13 | with_reducible exact Sub.last14 | with_reducible exact Sub.last15 | with_reducible refine Sub.head0 ?_ | with_reducible refine Sub.head1 ?_ | with_reducible refine Sub.head2 ?_ | with_reducible refine Sub.head3 ?_ | with_reducible refine Sub.head4 ?_ | with_reducible refine Sub.head5 ?_ | with_reducible refine Sub.head6 ?_ | with_reducible refine Sub.head7 ?_ | with_reducible refine Sub.head8 ?_ | with_reducible refine Sub.head9 ?_ | with_reducible refine Sub.head10 ?_ | with_reducible refine Sub.head11 ?_ | with_reducible refine Sub.head12 ?_ | with_reducible refine Sub.head13 ?_ | with_reducible refine Sub.head14 ?_ | with_reducible refine Sub.head15 ?_ | with_reducible refine Sub.drop ?_))⟩ (by simp only; omega))
  repeat (first | refine g_seq ?_ | refine g_skip ?_ | refine g_inBlock ?_ | refine g_block ?_ | refine g_label ?_)
  refine g_exit rfl ?_
  repeat (first | refine g_seq ?_ | refine g_skip ?_ | refine g_inBlock ?_ | refine g_block ?_ | refine g_label ?_)
  refine g_region ?_
  refine rl_v rfl rfl rfl (S := fun _ => True) trivial (v_move rfl) ?_
  refine rl_k rfl (k_callf Try.func16 rfl rfl rfl rfl ?_)
  refine Calls.mono (restore_calls _ _ hw) ?_
  rintro _ w ⟨rfl, hw⟩
  refine ⟨_, rfl, ?_⟩
  refine rl_nil (g_le (Fr.le_skip rfl (Fr.le_skip rfl (Fr.le_refl _))) ?_)
  repeat (first | refine g_seq ?_ | refine g_skip ?_ | refine g_inBlock ?_ | refine g_block ?_ | refine g_label ?_)
  refine g_region ?_
  refine rl_v rfl rfl rfl (S := fun _ => True) trivial (v_move rfl) ?_
  refine rl_k rfl (k_callf Try.func17 rfl rfl rfl rfl ?_)
  refine Calls.mono (writes_calls _ _ hw) ?_
  rintro _ w ⟨rfl, hw⟩
  refine ⟨_, rfl, ?_⟩
  refine rl_v rfl rfl rfl (S := fun _ => True) trivial (v_assign rfl) ?_
  refine rl_nil (g_le (Fr.le_keep (Fr.le_skip rfl (Fr.le_skip rfl (Fr.le_refl _)))) ?_)
  repeat (first | refine g_seq ?_ | refine g_skip ?_ | refine g_inBlock ?_ | refine g_block ?_ | refine g_label ?_)
  refine g_region ?_
  refine rl_v rfl rfl rfl (S := fun _ => True) trivial (v_move rfl) ?_
  refine rl_k rfl (k_callf Try.func18 rfl rfl rfl rfl ?_)
  refine Calls.mono (pick11_calls _ _ (by omega) (by omega) hw) ?_
  rintro _ w ⟨rfl, hw⟩
  refine ⟨_, rfl, ?_⟩
  refine rl_v rfl rfl rfl (S := fun _ => True) trivial (v_assign rfl) ?_
  refine rl_nil (g_le (Fr.le_keep (Fr.le_skip rfl (Fr.le_skip rfl (Fr.le_refl _)))) ?_)
  have hm0 := Int.emod_nonneg n (by omega : (3000 : Int) ≠ 0)
  have hm1 := Int.emod_lt_of_pos n (by omega : (0 : Int) < 3000)
  generalize n % 3000 = m at hm0 hm1 ⊢
  repeat (first | refine g_seq ?_ | refine g_skip ?_ | refine g_inBlock ?_ | refine g_block ?_ | refine g_label ?_)
  refine g_region ?_
  refine rl_v rfl rfl rfl (S := fun _ => True) trivial (v_move rfl) ?_
  refine rl_v rfl rfl rfl (S := fun _ => True) trivial (v_move rfl) ?_
  refine rl_k rfl (k_callf Try.func19 rfl rfl rfl rfl ?_)
  refine Calls.mono (cut_calls _ _ _ hw) ?_
  rintro _ w ⟨rfl, hw⟩
  refine ⟨_, rfl, ?_⟩
  refine rl_nil (g_le (Fr.le_skip rfl (Fr.le_skip rfl (Fr.le_skip rfl (Fr.le_refl _)))) ?_)
  repeat (first | refine g_seq ?_ | refine g_skip ?_ | refine g_inBlock ?_ | refine g_block ?_ | refine g_label ?_)
  refine g_region ?_
  refine rl_v rfl rfl rfl (S := fun _ => True) trivial (v_assign rfl) ?_
  refine rl_nil (g_le (Fr.le_keep (Fr.le_refl _)) ?_)
  repeat (first | refine g_seq ?_ | refine g_skip ?_ | refine g_inBlock ?_ | refine g_block ?_ | refine g_label ?_)
  obtain ⟨off, ahead, before⟩ := s
  simp only [Pw.restore] at hw ⊢
  have hok : IntKind.i64.wrap before = before := hs.2.2
  have hw : Sat (envOf W) w [PwAt p ⟨decide (m - 0 = 0), m - 0, IntKind.i64.wrap (before + 0)⟩, Old W] := by
    have e : Pw.cut ⟨false, 0, before⟩ m = ⟨decide (m - 0 = 0), m - 0, IntKind.i64.wrap (before + 0)⟩ := by
      have e2 : min (max m 0) 1073741824 = m := by omega
      simp [Pw.cut, hok, e2]
    rw [e] at hw; exact hw
  have hk : ∀ k, Pw.ok ⟨decide (m - k = 0), m - k, IntKind.i64.wrap (before + k)⟩ ∨ k < 0 ∨ m < k := fun k => by
    by_cases h : 0 ≤ k ∧ k ≤ m
    · exact .inl ⟨by simp only; omega, by simp only; omega, wrap_wrap _⟩
    · omega
  refine g_loop (σ := Int) (fun x => [(9, .int .i64 x), (1, _), (6, _), (8, _)])
    (fun x w => 0 ≤ x ∧ x ≤ m ∧ Sat (envOf W) w [PwAt p ⟨decide (m - x = 0), m - x, IntKind.i64.wrap (before + x)⟩, Old W]) (fun x => (m - x).toNat) ?round2
    0 (by repeat (first | exact Fr.le_nil _ | refine Fr.le_cons rfl ?_)) ⟨by simp, hm0, hw⟩
  intro k w ⟨hk0, hk1, hw⟩ ih2
  repeat (first | refine g_seq ?_ | refine g_skip ?_ | refine g_inBlock ?_ | refine g_block ?_ | refine g_label ?_)
  refine g_region ?_
  refine rl_v rfl rfl rfl (S := fun _ => True) trivial (v_move rfl) ?_
  refine rl_v rfl rfl rfl (S := fun _ => True) trivial (v_move rfl) ?_
  first | (refine rl_v rfl rfl rfl (S := fun _ => True) trivial (v_lssT rfl rfl (by omega)) ?_) | (refine rl_v rfl rfl rfl (S := fun _ => True) trivial (v_lssF rfl rfl (by omega)) ?_) | (refine rl_v rfl rfl rfl (S := fun _ => True) trivial (v_lss rfl rfl) ?_)
  refine rl_nil (g_le (Fr.le_keep (Fr.le_skip rfl (Fr.le_skip rfl (Fr.le_refl _)))) ?_)
  refine g_cond_dec rfl (fun h6 => ?_) (fun h6 => ?_)
  · have hoff : decide (m - k = 0) = false := decide_eq_false (by omega)
    have hokk := (hk k).resolve_right (by omega)
    rw [hoff] at hw hokk
    have hl : Pw.left ⟨false, m - k, IntKind.i64.wrap (before + k)⟩ = m - k := by
      have : ¬ (m - k = 0) := by omega
      simp [Pw.left, this]
    have hsp : Pw.spend ⟨false, m - k, IntKind.i64.wrap (before + k)⟩ = (0, ⟨decide (m - (k + 1) = 0), m - (k + 1), IntKind.i64.wrap (before + (k + 1))⟩) := by
      have h1 : 0 < m - k := by omega
      have h2 : m - k - 1 = m - (k + 1) := by omega
      show (if false = true then _ else if 0 < m - k then _ else _) = _
      rw [if_neg (by simp), if_pos h1, h2, wrap_add, Int.add_assoc]
    have hwr : IntKind.i64.wrap (IntKind.i64.wrap (before + k) + 1) = IntKind.i64.wrap (before + (k + 1)) := by rw [wrap_add, Int.add_assoc]
    repeat (first | refine g_seq ?_ | refine g_skip ?_ | refine g_inBlock ?_ | refine g_block ?_ | refine g_label ?_)
    refine g_region ?_
    refine rl_v rfl rfl rfl (S := fun _ => True) trivial (v_move rfl) ?_
    refine rl_k rfl (k_callf Try.func20 rfl rfl rfl rfl ?_)
    refine Calls.mono (on_calls _ _ hw) ?_
    rintro _ w ⟨rfl, hw⟩
    refine ⟨_, rfl, ?_⟩
    refine rl_v rfl rfl rfl (S := fun _ => True) trivial (v_not rfl) ?_
    refine rl_v rfl rfl rfl (S := fun _ => True) trivial (v_move rfl) ?_
    first | (refine rl_vg (met_on rfl rfl rfl rfl) rfl rfl (S := fun _ => True) trivial (v_move rfl) ?_) | (refine rl_off (met_off rfl rfl rfl rfl rfl) rfl rfl ?_)
    first | (refine rl_kg (met_on rfl rfl rfl rfl) (k_callf Try.func21 rfl rfl rfl rfl ?_); refine Calls.mono (left_eq _ _ _ hl hw) ?_; rintro _ w ⟨rfl, hw⟩; refine ⟨_, rfl, ?_⟩) | (refine rl_off (met_off rfl rfl rfl rfl rfl) rfl rfl ?_)
    first | (refine rl_vg (met_on rfl rfl rfl rfl) rfl rfl (S := fun _ => True) trivial (v_move rfl) ?_) | (refine rl_off (met_off rfl rfl rfl rfl rfl) rfl rfl ?_)
    first | (refine rl_vg (met_on rfl rfl rfl rfl) rfl rfl (S := fun _ => True) trivial (v_move rfl) ?_) | (refine rl_off (met_off rfl rfl rfl rfl rfl) rfl rfl ?_)
    first | (refine rl_vg (met_on rfl rfl rfl rfl) rfl rfl (S := fun _ => True) trivial (v_sub rfl rfl (by omega)) ?_) | (refine rl_vg (met_on rfl rfl rfl rfl) rfl rfl (S := fun _ => True) trivial (v_subW rfl rfl) ?_) | (refine rl_off (met_off rfl rfl rfl rfl rfl) rfl rfl ?_)
    first | (refine rl_vg (met_on rfl rfl rfl rfl) rfl rfl (S := fun _ => True) trivial (v_neqT rfl rfl (by omega)) ?_) | (refine rl_vg (met_on rfl rfl rfl rfl) rfl rfl (S := fun _ => True) trivial (v_neqF rfl rfl (by omega)) ?_) | (refine rl_vg (met_on rfl rfl rfl rfl) rfl rfl (S := fun _ => True) trivial (v_neq rfl rfl) ?_) | (refine rl_off (met_off rfl rfl rfl rfl rfl) rfl rfl ?_)
    first | (refine rl_v rfl rfl rfl (S := fun _ => True) trivial (v_pick_true rfl rfl) ?_) | (refine rl_v rfl rfl rfl (S := fun _ => True) trivial (v_pick_false rfl rfl) ?_) | (refine rl_v rfl rfl rfl (S := fun _ => True) trivial (v_pick rfl rfl rfl) ?_)
    refine rl_v rfl rfl rfl (S := fun _ => True) trivial (v_move rfl) ?_
    first | (refine rl_vg (met_on rfl rfl rfl rfl) rfl rfl (S := fun _ => True) trivial (v_move rfl) ?_) | (refine rl_off (met_off rfl rfl rfl rfl rfl) rfl rfl ?_)
    first | (refine rl_kg (met_on rfl rfl rfl rfl) (k_callf Try.func22 rfl rfl rfl rfl ?_); refine Calls.mono (spend_eq _ _ _ _ hokk hsp hw) ?_; rintro _ w ⟨rfl, hw⟩; refine ⟨_, rfl, ?_⟩) | (refine rl_off (met_off rfl rfl rfl rfl rfl) rfl rfl ?_)
    first | (refine rl_vg (met_on rfl rfl rfl rfl) rfl rfl (S := fun _ => True) trivial (v_neqT rfl rfl (by omega)) ?_) | (refine rl_vg (met_on rfl rfl rfl rfl) rfl rfl (S := fun _ => True) trivial (v_neqF rfl rfl (by omega)) ?_) | (refine rl_vg (met_on rfl rfl rfl rfl) rfl rfl (S := fun _ => True) trivial (v_neq rfl rfl) ?_) | (refine rl_off (met_off rfl rfl rfl rfl rfl) rfl rfl ?_)
    first | (refine rl_v rfl rfl rfl (S := fun _ => True) trivial (v_pick_true rfl rfl) ?_) | (refine rl_v rfl rfl rfl (S := fun _ => True) trivial (v_pick_false rfl rfl) ?_) | (refine rl_v rfl rfl rfl (S := fun _ => True) trivial (v_pick rfl rfl rfl) ?_)
    refine rl_v rfl rfl rfl (S := fun _ => True) trivial (v_move rfl) ?_
    first | (refine rl_vg (met_on rfl rfl rfl rfl) rfl rfl (S := fun _ => True) trivial (v_move rfl) ?_) | (refine rl_off (met_off rfl rfl rfl rfl rfl) rfl rfl ?_)
    first | (refine rl_kg (met_on rfl rfl rfl rfl) (k_callf Try.func17 rfl rfl rfl rfl ?_); refine Calls.mono (writes_eq _ _ (IntKind.i64.wrap (before + (k + 1))) rfl hw) ?_; rintro _ w ⟨rfl, hw⟩; refine ⟨_, rfl, ?_⟩) | (refine rl_off (met_off rfl rfl rfl rfl rfl) rfl rfl ?_)
    first | (refine rl_vg (met_on rfl rfl rfl rfl) rfl rfl (S := fun _ => True) trivial (v_move rfl) ?_) | (refine rl_off (met_off rfl rfl rfl rfl rfl) rfl rfl ?_)
    first | (refine rl_vg (met_on rfl rfl rfl rfl) rfl rfl (S := fun _ => True) trivial (v_move rfl) ?_) | (refine rl_off (met_off rfl rfl rfl rfl rfl) rfl rfl ?_)
    first | (refine rl_vg (met_on rfl rfl rfl rfl) rfl rfl (S := fun _ => True) trivial (v_add rfl rfl (by omega)) ?_) | (refine rl_vg (met_on rfl rfl rfl rfl) rfl rfl (S := fun _ => True) trivial (v_addW rfl rfl) ?_) | (refine rl_off (met_off rfl rfl rfl rfl rfl) rfl rfl ?_)
    first | (refine rl_vg (met_on rfl rfl rfl rfl) rfl rfl (S := fun _ => True) trivial (v_add rfl rfl (by omega)) ?_) | (refine rl_vg (met_on rfl rfl rfl rfl) rfl rfl (S := fun _ => True) trivial (v_addW rfl rfl) ?_) | (refine rl_off (met_off rfl rfl rfl rfl rfl) rfl rfl ?_)
    first | (refine rl_vg (met_on rfl rfl rfl rfl) rfl rfl (S := fun _ => True) trivial (v_neqT rfl rfl (by omega)) ?_) | (refine rl_vg (met_on rfl rfl rfl rfl) rfl rfl (S := fun _ => True) trivial (v_neqF rfl rfl (by omega)) ?_) | (refine rl_vg (met_on rfl rfl rfl rfl) rfl rfl (S := fun _ => True) trivial (v_neq rfl rfl) ?_) | (refine rl_off (met_off rfl rfl rfl rfl rfl) rfl rfl ?_)
    first | (refine rl_v rfl rfl rfl (S := fun _ => True) trivial (v_pick_true rfl rfl) ?_) | (refine rl_v rfl rfl rfl (S := fun _ => True) trivial (v_pick_false rfl rfl) ?_) | (refine rl_v rfl rfl rfl (S := fun _ => True) trivial (v_pick rfl rfl rfl) ?_)
    refine rl_nil (g_le (Fr.le_keep (Fr.le_skip rfl (Fr.le_skip rfl (Fr.le_skip rfl (Fr.le_skip rfl (Fr.le_skip rfl (Fr.le_skip rfl (Fr.le_skip rfl (Fr.le_skip rfl (Fr.le_skip rfl (Fr.le_skip rfl (Fr.le_skip rfl (Fr.le_skip rfl (Fr.le_skip rfl (Fr.le_skip rfl (Fr.le_skip rfl (Fr.le_skip rfl (Fr.le_skip rfl (Fr.le_skip rfl (Fr.le_skip rfl (Fr.le_skip rfl (Fr.le_skip rfl (Fr.le_skip rfl (Fr.le_skip rfl (Fr.le_skip rfl (Fr.le_refl _)))))))))))))))))))))))))) ?_)
    refine g_cond_false rfl ?_
    repeat (first | refine g_seq ?_ | refine g_skip ?_ | refine g_inBlock ?_ | refine g_block ?_ | refine g_label ?_)
    refine g_region ?_
    refine rl_v rfl rfl rfl (S := fun _ => True) trivial (v_move rfl) ?_
    first | (refine rl_v rfl rfl rfl (S := fun _ => True) trivial (v_add rfl rfl (by omega)) ?_) | (refine rl_v rfl rfl rfl (S := fun _ => True) trivial (v_addW rfl rfl) ?_)
    refine rl_v rfl rfl rfl (S := fun _ => True) trivial (v_assign rfl) ?_
    refine rl_nil (g_le (Fr.le_keep (Fr.le_skip rfl (Fr.le_skip rfl (Fr.le_refl _)))) ?_)
    exact g_le (by repeat (first | exact Fr.le_nil _ | refine Fr.le_cons rfl ?_)) (ih2 (k + 1) w ⟨by omega, by omega, hw⟩ (by omega))
  obtain rfl : m = k := by omega
  repeat (first | refine g_seq ?_ | refine g_skip ?_ | refine g_inBlock ?_ | refine g_block ?_ | refine g_label ?_)
  refine g_exit rfl ?_
  repeat (first | refine g_seq ?_ | refine g_skip ?_ | refine g_inBlock ?_ | refine g_block ?_ | refine g_label ?_)
  refine g_region ?_
  refine rl_v rfl rfl rfl (S := fun _ => True) trivial (v_assign rfl) ?_
  refine rl_nil (g_le (Fr.le_keep (Fr.le_refl _)) ?_)
  repeat (first | refine g_seq ?_ | refine g_skip ?_ | refine g_inBlock ?_ | refine g_block ?_ | refine g_label ?_)
  have hokm : Pw.ok ⟨true, 0, IntKind.i64.wrap (before + m)⟩ := ⟨by simp, by simp, wrap_wrap _⟩
  have hw : Sat (envOf W) w [PwAt p ⟨true, 0, IntKind.i64.wrap (before + m)⟩, Old W] := by
    have e : (⟨decide (m - m = 0), m - m, IntKind.i64.wrap (before + m)⟩ : Pw) = ⟨true, 0, IntKind.i64.wrap (before + m)⟩ := by simp
    rw [e] at hw; exact hw
  refine g_loop (σ := Int) (fun x => [(10, .int .i64 x), (1, _), (6, _), (8, _)])
    (fun x w => 0 ≤ x ∧ x ≤ 3 ∧ Sat (envOf W) w [PwAt p ⟨true, 0, IntKind.i64.wrap (before + m)⟩, Old W]) (fun x => (3 - x).toNat) ?round3
    0 (by repeat (first | exact Fr.le_nil _ | refine Fr.le_cons rfl ?_)) ⟨by simp, by simp, hw⟩
  intro k w ⟨hk0, hk1, hw⟩ ih3
  repeat (first | refine g_seq ?_ | refine g_skip ?_ | refine g_inBlock ?_ | refine g_block ?_ | refine g_label ?_)
  refine g_region ?_
  refine rl_v rfl rfl rfl (S := fun _ => True) trivial (v_move rfl) ?_
  first | (refine rl_v rfl rfl rfl (S := fun _ => True) trivial (v_lssT rfl rfl (by omega)) ?_) | (refine rl_v rfl rfl rfl (S := fun _ => True) trivial (v_lssF rfl rfl (by omega)) ?_) | (refine rl_v rfl rfl rfl (S := fun _ => True) trivial (v_lss rfl rfl) ?_)
  refine rl_nil (g_le (Fr.le_keep (Fr.le_skip rfl (Fr.le_refl _))) ?_)
  refine g_cond_dec rfl (fun h7 => ?_) (fun h7 => ?_)
  · repeat (first | refine g_seq ?_ | refine g_skip ?_ | refine g_inBlock ?_ | refine g_block ?_ | refine g_label ?_)
    refine g_region ?_
    refine rl_v rfl rfl rfl (S := fun _ => True) trivial (v_move rfl) ?_
    refine rl_k rfl (k_callf Try.func19 rfl rfl rfl rfl ?_)
    refine Calls.mono (cut_calls _ _ _ hw) ?_
    rintro _ w ⟨rfl, hw'⟩
    have hw : Sat (envOf W) w [PwAt p ⟨true, 0, IntKind.i64.wrap (before + m)⟩, Old W] := hw'
    clear hw'
    refine ⟨_, rfl, ?_⟩
    refine rl_nil (g_le (Fr.le_skip rfl (Fr.le_skip rfl (Fr.le_refl _))) ?_)
    repeat (first | refine g_seq ?_ | refine g_skip ?_ | refine g_inBlock ?_ | refine g_block ?_ | refine g_label ?_)
    refine g_region ?_
    refine rl_v rfl rfl rfl (S := fun _ => True) trivial (v_move rfl) ?_
    refine rl_k rfl (k_callf Try.func20 rfl rfl rfl rfl ?_)
    refine Calls.mono (on_calls _ _ hw) ?_
    rintro _ w ⟨rfl, hw⟩
    refine ⟨_, rfl, ?_⟩
    refine rl_v rfl rfl rfl (S := fun _ => True) trivial (v_move rfl) ?_
    first | (refine rl_vg (met_on rfl rfl rfl rfl) rfl rfl (S := fun _ => True) trivial (v_move rfl) ?_) | (refine rl_off (met_off rfl rfl rfl rfl rfl) rfl rfl ?_)
    first | (refine rl_kg (met_on rfl rfl rfl rfl) (k_callf Try.func21 rfl rfl rfl rfl ?_); refine Calls.mono (left_eq _ _ 0 rfl hw) ?_; rintro _ w ⟨rfl, hw⟩; refine ⟨_, rfl, ?_⟩) | (refine rl_off (met_off rfl rfl rfl rfl rfl) rfl rfl ?_)
    first | (refine rl_vg (met_on rfl rfl rfl rfl) rfl rfl (S := fun _ => True) trivial (v_neqT rfl rfl (by omega)) ?_) | (refine rl_vg (met_on rfl rfl rfl rfl) rfl rfl (S := fun _ => True) trivial (v_neqF rfl rfl (by omega)) ?_) | (refine rl_vg (met_on rfl rfl rfl rfl) rfl rfl (S := fun _ => True) trivial (v_neq rfl rfl) ?_) | (refine rl_off (met_off rfl rfl rfl rfl rfl) rfl rfl ?_)
    first | (refine rl_v rfl rfl rfl (S := fun _ => True) trivial (v_pick_true rfl rfl) ?_) | (refine rl_v rfl rfl rfl (S := fun _ => True) trivial (v_pick_false rfl rfl) ?_) | (refine rl_v rfl rfl rfl (S := fun _ => True) trivial (v_pick rfl rfl rfl) ?_)
    refine rl_v rfl rfl rfl (S := fun _ => True) trivial (v_move rfl) ?_
    first | (refine rl_vg (met_on rfl rfl rfl rfl) rfl rfl (S := fun _ => True) trivial (v_move rfl) ?_) | (refine rl_off (met_off rfl rfl rfl rfl rfl) rfl rfl ?_)
    first | (refine rl_kg (met_on rfl rfl rfl rfl) (k_callf Try.func22 rfl rfl rfl rfl ?_); refine Calls.mono (spend_eq _ _ _ _ hokm rfl hw) ?_; rintro _ w ⟨rfl, hw⟩; refine ⟨_, rfl, ?_⟩) | (refine rl_off (met_off rfl rfl rfl rfl rfl) rfl rfl ?_)
    first | (refine rl_vg (met_on rfl rfl rfl rfl) rfl rfl (S := fun _ => True) trivial (v_neqT rfl rfl (by omega)) ?_) | (refine rl_vg (met_on rfl rfl rfl rfl) rfl rfl (S := fun _ => True) trivial (v_neqF rfl rfl (by omega)) ?_) | (refine rl_vg (met_on rfl rfl rfl rfl) rfl rfl (S := fun _ => True) trivial (v_neq rfl rfl) ?_) | (refine rl_off (met_off rfl rfl rfl rfl rfl) rfl rfl ?_)
    first | (refine rl_v rfl rfl rfl (S := fun _ => True) trivial (v_pick_true rfl rfl) ?_) | (refine rl_v rfl rfl rfl (S := fun _ => True) trivial (v_pick_false rfl rfl) ?_) | (refine rl_v rfl rfl rfl (S := fun _ => True) trivial (v_pick rfl rfl rfl) ?_)
    refine rl_v rfl rfl rfl (S := fun _ => True) trivial (v_move rfl) ?_
    first | (refine rl_vg (met_on rfl rfl rfl rfl) rfl rfl (S := fun _ => True) trivial (v_move rfl) ?_) | (refine rl_off (met_off rfl rfl rfl rfl rfl) rfl rfl ?_)
    first | (refine rl_kg (met_on rfl rfl rfl rfl) (k_callf Try.func17 rfl rfl rfl rfl ?_); refine Calls.mono (writes_eq _ _ (IntKind.i64.wrap (before + m)) rfl hw) ?_; rintro _ w ⟨rfl, hw⟩; refine ⟨_, rfl, ?_⟩) | (refine rl_off (met_off rfl rfl rfl rfl rfl) rfl rfl ?_)
    first | (refine rl_vg (met_on rfl rfl rfl rfl) rfl rfl (S := fun _ => True) trivial (v_move rfl) ?_) | (refine rl_off (met_off rfl rfl rfl rfl rfl) rfl rfl ?_)
    first | (refine rl_vg (met_on rfl rfl rfl rfl) rfl rfl (S := fun _ => True) trivial (v_move rfl) ?_) | (refine rl_off (met_off rfl rfl rfl rfl rfl) rfl rfl ?_)
    first | (refine rl_vg (met_on rfl rfl rfl rfl) rfl rfl (S := fun _ => True) trivial (v_add rfl rfl (by omega)) ?_) | (refine rl_vg (met_on rfl rfl rfl rfl) rfl rfl (S := fun _ => True) trivial (v_addW rfl rfl) ?_) | (refine rl_off (met_off rfl rfl rfl rfl rfl) rfl rfl ?_)
    first | (refine rl_vg (met_on rfl rfl rfl rfl) rfl rfl (S := fun _ => True) trivial (v_neqT rfl rfl (by omega)) ?_) | (refine rl_vg (met_on rfl rfl rfl rfl) rfl rfl (S := fun _ => True) trivial (v_neqF rfl rfl (by omega)) ?_) | (refine rl_vg (met_on rfl rfl rfl rfl) rfl rfl (S := fun _ => True) trivial (v_neq rfl rfl) ?_) | (refine rl_off (met_off rfl rfl rfl rfl rfl) rfl rfl ?_)
    first | (refine rl_v rfl rfl rfl (S := fun _ => True) trivial (v_pick_true rfl rfl) ?_) | (refine rl_v rfl rfl rfl (S := fun _ => True) trivial (v_pick_false rfl rfl) ?_) | (refine rl_v rfl rfl rfl (S := fun _ => True) trivial (v_pick rfl rfl rfl) ?_)
    refine rl_nil (g_le (Fr.le_keep (Fr.le_skip rfl (Fr.le_skip rfl (Fr.le_skip rfl (Fr.le_skip rfl (Fr.le_skip rfl (Fr.le_skip rfl (Fr.le_skip rfl (Fr.le_skip rfl (Fr.le_skip rfl (Fr.le_skip rfl (Fr.le_skip rfl (Fr.le_skip rfl (Fr.le_skip rfl (Fr.le_skip rfl (Fr.le_skip rfl (Fr.le_skip rfl (Fr.le_skip rfl (Fr.le_skip rfl (Fr.le_skip rfl (Fr.le_refl _))))))))))))))))))))) ?_)
    refine g_cond_false rfl ?_
    repeat (first | refine g_seq ?_ | refine g_skip ?_ | refine g_inBlock ?_ | refine g_block ?_ | refine g_label ?_)
    refine g_region ?_
    refine rl_v rfl rfl rfl (S := fun _ => True) trivial (v_move rfl) ?_
    first | (refine rl_v rfl rfl rfl (S := fun _ => True) trivial (v_add rfl rfl (by omega)) ?_) | (refine rl_v rfl rfl rfl (S := fun _ => True) trivial (v_addW rfl rfl) ?_)
    refine rl_v rfl rfl rfl (S := fun _ => True) trivial (v_assign rfl) ?_
    refine rl_nil (g_le (Fr.le_keep (Fr.le_skip rfl (Fr.le_skip rfl (Fr.le_refl _)))) ?_)
    exact g_le (by repeat (first | exact Fr.le_nil _ | refine Fr.le_cons rfl ?_)) (ih3 (k + 1) w ⟨by omega, by omega, hw⟩ (by omega))
  repeat (first | refine g_seq ?_ | refine g_skip ?_ | refine g_inBlock ?_ | refine g_block ?_ | refine g_label ?_)
  refine g_exit rfl ?_
  repeat (first | refine g_seq ?_ | refine g_skip ?_ | refine g_inBlock ?_ | refine g_block ?_ | refine g_label ?_)
  refine g_region ?_
  refine rl_v rfl rfl rfl (S := fun _ => True) trivial (v_move rfl) ?_
  refine rl_k rfl (k_callf Try.func16 rfl rfl rfl rfl ?_)
  refine Calls.mono (restore_calls _ _ hw) ?_
  rintro _ w ⟨rfl, hw⟩
  refine ⟨_, rfl, ?_⟩
  refine rl_nil (g_le (Fr.le_skip rfl (Fr.le_skip rfl (Fr.le_refl _))) ?_)
  have hokr : Pw.ok ⟨false, 0, IntKind.i64.wrap (before + m)⟩ := ⟨by simp, by simp, wrap_wrap _⟩
  simp only [Pw.restore] at hw
  repeat (first | refine g_seq ?_ | refine g_skip ?_ | refine g_inBlock ?_ | refine g_block ?_ | refine g_label ?_)
  refine g_region ?_
  refine rl_v rfl rfl rfl (S := fun _ => True) trivial (v_move rfl) ?_
  refine rl_k rfl (k_callf Try.func20 rfl rfl rfl rfl ?_)
  refine Calls.mono (on_calls _ _ hw) ?_
  rintro _ w ⟨rfl, hw⟩
  refine ⟨_, rfl, ?_⟩
  refine rl_v rfl rfl rfl (S := fun _ => True) trivial (v_move rfl) ?_
  first | (refine rl_vg (met_on rfl rfl rfl rfl) rfl rfl (S := fun _ => True) trivial (v_move rfl) ?_) | (refine rl_off (met_off rfl rfl rfl rfl rfl) rfl rfl ?_)
  first | (refine rl_kg (met_on rfl rfl rfl rfl) (k_callf Try.func21 rfl rfl rfl rfl ?_); refine Calls.mono (left_eq _ _ (-1) rfl hw) ?_; rintro _ w ⟨rfl, hw⟩; refine ⟨_, rfl, ?_⟩) | (refine rl_off (met_off rfl rfl rfl rfl rfl) rfl rfl ?_)
  first | (refine rl_vg (met_on rfl rfl rfl rfl) rfl rfl (S := fun _ => True) trivial (v_eqlT rfl rfl (by omega)) ?_) | (refine rl_vg (met_on rfl rfl rfl rfl) rfl rfl (S := fun _ => True) trivial (v_eqlF rfl rfl (by omega)) ?_) | (refine rl_vg (met_on rfl rfl rfl rfl) rfl rfl (S := fun _ => True) trivial (v_eql rfl rfl) ?_) | (refine rl_off (met_off rfl rfl rfl rfl rfl) rfl rfl ?_)
  first | (refine rl_v rfl rfl rfl (S := fun _ => True) trivial (v_pick_true rfl rfl) ?_) | (refine rl_v rfl rfl rfl (S := fun _ => True) trivial (v_pick_false rfl rfl) ?_) | (refine rl_v rfl rfl rfl (S := fun _ => True) trivial (v_pick rfl rfl rfl) ?_)
  refine rl_v rfl rfl rfl (S := fun _ => True) trivial (v_move rfl) ?_
  first | (refine rl_vg (met_on rfl rfl rfl rfl) rfl rfl (S := fun _ => True) trivial (v_move rfl) ?_) | (refine rl_off (met_off rfl rfl rfl rfl rfl) rfl rfl ?_)
  first | (refine rl_kg (met_on rfl rfl rfl rfl) (k_callf Try.func22 rfl rfl rfl rfl ?_); refine Calls.mono (spend_eq _ _ _ _ hokr rfl hw) ?_; rintro _ w ⟨rfl, hw⟩; refine ⟨_, rfl, ?_⟩) | (refine rl_off (met_off rfl rfl rfl rfl rfl) rfl rfl ?_)
  first | (refine rl_vg (met_on rfl rfl rfl rfl) rfl rfl (S := fun _ => True) trivial (v_eqlT rfl rfl (by omega)) ?_) | (refine rl_vg (met_on rfl rfl rfl rfl) rfl rfl (S := fun _ => True) trivial (v_eqlF rfl rfl (by omega)) ?_) | (refine rl_vg (met_on rfl rfl rfl rfl) rfl rfl (S := fun _ => True) trivial (v_eql rfl rfl) ?_) | (refine rl_off (met_off rfl rfl rfl rfl rfl) rfl rfl ?_)
  first | (refine rl_v rfl rfl rfl (S := fun _ => True) trivial (v_pick_true rfl rfl) ?_) | (refine rl_v rfl rfl rfl (S := fun _ => True) trivial (v_pick_false rfl rfl) ?_) | (refine rl_v rfl rfl rfl (S := fun _ => True) trivial (v_pick rfl rfl rfl) ?_)
  refine rl_v rfl rfl rfl (S := fun _ => True) trivial (v_move rfl) ?_
  first | (refine rl_vg (met_on rfl rfl rfl rfl) rfl rfl (S := fun _ => True) trivial (v_move rfl) ?_) | (refine rl_off (met_off rfl rfl rfl rfl rfl) rfl rfl ?_)
  first | (refine rl_kg (met_on rfl rfl rfl rfl) (k_callf Try.func17 rfl rfl rfl rfl ?_); refine Calls.mono (writes_eq _ _ (IntKind.i64.wrap (IntKind.i64.wrap (before + m) + 1)) rfl hw) ?_; rintro _ w ⟨rfl, hw⟩; refine ⟨_, rfl, ?_⟩) | (refine rl_off (met_off rfl rfl rfl rfl rfl) rfl rfl ?_)
  first | (refine rl_vg (met_on rfl rfl rfl rfl) rfl rfl (S := fun _ => True) trivial (v_move rfl) ?_) | (refine rl_off (met_off rfl rfl rfl rfl rfl) rfl rfl ?_)
  first | (refine rl_vg (met_on rfl rfl rfl rfl) rfl rfl (S := fun _ => True) trivial (v_move rfl) ?_) | (refine rl_off (met_off rfl rfl rfl rfl rfl) rfl rfl ?_)
  first | (refine rl_vg (met_on rfl rfl rfl rfl) rfl rfl (S := fun _ => True) trivial (v_add rfl rfl (by omega)) ?_) | (refine rl_vg (met_on rfl rfl rfl rfl) rfl rfl (S := fun _ => True) trivial (v_addW rfl rfl) ?_) | (refine rl_off (met_off rfl rfl rfl rfl rfl) rfl rfl ?_)
  first | (refine rl_vg (met_on rfl rfl rfl rfl) rfl rfl (S := fun _ => True) trivial (v_add rfl rfl (by omega)) ?_) | (refine rl_vg (met_on rfl rfl rfl rfl) rfl rfl (S := fun _ => True) trivial (v_addW rfl rfl) ?_) | (refine rl_off (met_off rfl rfl rfl rfl rfl) rfl rfl ?_)
  first | (refine rl_vg (met_on rfl rfl rfl rfl) rfl rfl (S := fun _ => True) trivial (v_eqlT rfl rfl (by omega)) ?_) | (refine rl_vg (met_on rfl rfl rfl rfl) rfl rfl (S := fun _ => True) trivial (v_eqlF rfl rfl (by omega)) ?_) | (refine rl_vg (met_on rfl rfl rfl rfl) rfl rfl (S := fun _ => True) trivial (v_eql rfl rfl) ?_) | (refine rl_off (met_off rfl rfl rfl rfl rfl) rfl rfl ?_)
  first | (refine rl_v rfl rfl rfl (S := fun _ => True) trivial (v_pick_true rfl rfl) ?_) | (refine rl_v rfl rfl rfl (S := fun _ => True) trivial (v_pick_false rfl rfl) ?_) | (refine rl_v rfl rfl rfl (S := fun _ => True) trivial (v_pick rfl rfl rfl) ?_)
  refine rl_v rfl rfl rfl (S := fun _ => True) trivial (v_assign rfl) ?_
  refine rl_nil (g_le (Fr.le_keep (Fr.le_skip rfl (Fr.le_skip rfl (Fr.le_skip rfl (Fr.le_skip rfl (Fr.le_skip rfl (Fr.le_skip rfl (Fr.le_skip rfl (Fr.le_skip rfl (Fr.le_skip rfl (Fr.le_skip rfl (Fr.le_skip rfl (Fr.le_skip rfl (Fr.le_skip rfl (Fr.le_skip rfl (Fr.le_skip rfl (Fr.le_skip rfl (Fr.le_skip rfl (Fr.le_skip rfl (Fr.le_skip rfl (Fr.le_skip rfl (Fr.le_skip rfl (Fr.le_refl _))))))))))))))))))))))) ?_)
  refine g_ret1 Try.func4 rfl rfl ?_
  exact ⟨rfl, hw.sub (by repeat (first | with_reducible exact Sub.refl _ | with_reducible exact Sub.last1 | with_reducible exact Sub.last2 | with_reducible exact Sub.last3 | with_reducible exact Sub.last4 | with_reducible exact Sub.last5 | with_reducible exact Sub.last6 | with_reducible exact Sub.last7 | with_reducible exact Sub.last8 | with_reducible exact Sub.last9 | with_reducible exact Sub.last10 | with_reducible exact Sub.last11 | with_reducible exact Sub.last12 | with_reducible exact Sub.last13 | with_reducible exact Sub.last14 | with_reducible exact Sub.last15 | with_reducible refine Sub.head0 ?_ | with_reducible refine Sub.head1 ?_ | with_reducible refine Sub.head2 ?_ | with_reducible refine Sub.head3 ?_ | with_reducible refine Sub.head4 ?_ | with_reducible refine Sub.head5 ?_ | with_reducible refine Sub.head6 ?_ | with_reducible refine Sub.head7 ?_ | with_reducible refine Sub.head8 ?_ | with_reducible refine Sub.head9 ?_ | with_reducible refine Sub.head10 ?_ | with_reducible refine Sub.head11 ?_ | with_reducible refine Sub.head12 ?_ | with_reducible refine Sub.head13 ?_ | with_reducible refine Sub.head14 ?_ | with_reducible refine Sub.head15 ?_ | with_reducible refine Sub.drop ?_))⟩

set_option maxRecDepth 100000 in
theorem PowerCuts_lifted (os : Os) (started : os.Started) (H : Type) (enc : TypeId × Value → H) :
    ReturnsInHanded {} Try.checked os 4 .any (Rows.powerCutsSpec.pre6 enc Try.prog Try.f4 Rows.powerCutsRow.domain false) (Rows.powerCutsSpec.post enc Try.prog Try.f4 false true false false) := by
  refine returnsInHanded_of_change_sized (C := Try.checked) T.own started (by kernel_rfl) Try.func4
    (ChangeSpec.witness6 (enc := enc) (C := Try.checked) false ⟨#[], #[(.slice none 0 0), (.int .i64 0)], []⟩ 8 (by kernel_rfl) (by kernel_rfl) (by kernel_rfl) (by kernel_rfl)) ?_
  intro W base args ds gs before hval0 hW hcnd hsz0 _
  have hval : ∀ (j : Nat) t v, Try.f4.params[j]? = some t → args[j]? = some v → Value.okWide Try.prog W .any base t v := hval0
  have hW' := hW
  obtain ⟨p, q, hA0, hV, rfl, hfz, hnd⟩ := hW
  have hA : DataW.TrodAll enc Try.prog W 0 (fun _ => true) true Try.f4.params.toList args.toList ds p := hA0
  obtain ⟨rfl, rfl⟩ := trodVars_none hV
  have hsz : (DataW.weightsEach Try.prog (Try.f4.params.toList ++ []) (ds ++ [])).all (· ≤ reachBytes) = true := hsz0
  rw [List.append_nil, List.append_nil] at hsz
  rw [Try.params4] at hA hval hsz
  obtain ⟨v0, vs0, d0, ds0, p0, q0, hargs, rfl, rfl, h0, r0⟩ := trodAll_cons hA
  obtain ⟨v1, vs1, d1, ds1, p1, q1, rfl, rfl, rfl, h1, r1⟩ := trodAll_cons r0
  obtain ⟨rfl, rfl, rfl⟩ := trodAll_nil r1
  obtain rfl : args = #[v0, v1] := by cases args; simp_all
  have lt0 : ∀ x ∈ p0, x.block < W.heap.size := by obtain ⟨m, hm⟩ := h0; exact DataW.trod_lt m _ _ _ hm
  obtain ⟨x0, w0⟩ := arg_of (j := 0) (reads_sl T.sl_22_29_3 T.bytes_29_24 (by decide) reads_Op11) h0 hsz rfl rfl
  have lt1 : ∀ x ∈ p1, x.block < W.heap.size := by obtain ⟨m, hm⟩ := h1; exact DataW.trod_lt m _ _ _ hm
  obtain ⟨x1, w1⟩ := arg_of (j := 1) (reads_int T.int_3_i64) h1 hsz rfl rfl
  obtain ⟨a0, l0, c0, rfl⟩ := okWide_slice Try.underlying22 (hval 0 22 v0 rfl rfl)
  obtain ⟨n1, rfl⟩ := okWide_int Try.underlying3 (hval 1 3 v1 rfl rfl)
  obtain ⟨hc1, hr1⟩ := w1
  cases hc1
  refine (PowerCuts_law w0 hr1).mono fun e W' ⟨he, hb⟩ => ?_
  have bel := hb.below
  subst he
  exact ⟨_, rfl, _, _, _, [], _, [], hW', trodAll_mk1 (shut_bool Try.underlying4 _), (trodAll_cons_mk (Below.trod T.laidOut (by kernel_rfl) (of_decide_eq_true (by kernel_rfl)) h0 bel lt0) (trodAll_cons_mk (Below.trod T.laidOut (by kernel_rfl) (of_decide_eq_true (by kernel_rfl)) h1 bel lt1) trodAll_mk0)), rfl, bel.frame _, fun h => by cases h⟩
theorem PowerCuts_holds : Rows.PowerCutsSaid :=
  OpenClaim.holds_of_wide 4 Try.f4 rfl rfl rfl rfl rfl rfl rfl ⟨rfl, rfl, rfl, rfl, rfl⟩ rfl rfl rfl rfl rfl (by kernel_rfl) Try.func4 (by kernel_rfl)
    (of_decide_eq_true (by kernel_rfl)) (by unfold Func.isWrapper; rw [if_neg (of_decide_eq_false (by kernel_rfl))]; exact ⟨rfl, rfl⟩)
    (fun os started H enc _ => PowerCuts_lifted os started H enc)
#print axioms PowerCuts_holds

end Go.Proofs.Ytdebodbkggbjeaa
