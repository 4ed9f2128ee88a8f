/-
  The statements of layer 11, walked.
-/
import Derived.Test.YtdebodbkggbjeaaP11L
import Derived.Test.YtdebodbkggbjeaaRows
namespace Go.Proofs.Ytdebodbkggbjeaa
open Go Xe Go.RowKit Go.ChangeShapes Go.WideShapes Go.ChangeAt

structure Op11 where
  kind : Int
  n : Int
  on : Bool
def rdOp11 : Rd Op11 := fun w cs x => ∃ c0 c1 c2, cs = [c0, c1, c2] ∧ (rdInt .i64) w [c0] x.kind ∧ (rdInt .i64) w [c1] x.n ∧ rdBool w [c2] x.on
theorem reads_Op11 {H : Type} {enc : TypeId × Value → H} : Reads enc Try.prog 29 rdOp11 := fun w fuel cs d ps h hz => by
  have hl := reads_length T.agg_29_3 (by kernel_rfl) h hz
  obtain ⟨c0, c1, c2, rfl⟩ : ∃ c0 c1 c2, cs = [c0, c1, c2] := by
    match cs, hl with
    | [c0, c1, c2], _ => exact ⟨_, _, _, rfl⟩
  obtain ⟨x0, h0⟩ := reads_field (i := 0) (off := 0) (k := 1) (ft := 3) (by kernel_rfl) h hz (reads_int T.int_3_i64)
  obtain ⟨x1, h1⟩ := reads_field (i := 1) (off := 1) (k := 1) (ft := 3) (by kernel_rfl) h hz (reads_int T.int_3_i64)
  obtain ⟨x2, h2⟩ := reads_field (i := 2) (off := 2) (k := 1) (ft := 4) (by kernel_rfl) h hz (reads_bool T.bool_4)
  exact ⟨⟨x0, x1, x2⟩, _, _, _, rfl, h0, h1, h2⟩


/-- Element i of a row of calls. -/
theorem op11_at {w : World} {a : Option Addr} {len cap : Nat} {xs : List Op11} (h : rdArg (rdSl 24 3 rdOp11) w (.slice a len cap) xs) (i : Int) (h0 : 0 ≤ i) (h1 : i < len) :
    ∃ b o kind n on, a = some ⟨b, o, none⟩ ∧ CellsAt w b (o + i.toNat * 3) [.int .i64 kind, .int .i64 n, .bool on] ∧ w.cell? ⟨b, o + i.toNat * 3 + 2, none⟩ = some (.bool on) := by
  obtain ⟨_, _, _, hat⟩ := rdSl_at h
  obtain ⟨b, o, x, ecs, rfl, _, h2, _, ⟨c0, c1, c2, rfl, ⟨h3, _⟩, ⟨h4, _⟩, h5⟩, _⟩ := hat i h0 h1
  simp only [rdBool, List.cons.injEq, and_true] at h3 h4 h5
  subst h3; subst h4; subst h5
  exact ⟨b, o, _, _, _, rfl, h2, h2.get 2 _ rfl⟩

theorem PowerPlays_law {w : World} {a : Option Addr} {len cap : Nat} {xs : List Op11} (hr : rdArg (rdSl 24 3 rdOp11) w (.slice a len cap) xs) :
    Law Try.prog 3 [.slice a len cap] w := by
  unfold Law
  have hw := Sat.old w
  generalize w = W at hr hw ⊢
  refine calls_of_g (n := 72) Try.func3 rfl rfl rfl ?_
  change G _ _ _ _ _ [(0, _)] _
  repeat (first | refine g_seq ?_ | refine g_skip ?_ | refine g_inBlock ?_ | refine g_block ?_ | refine g_label ?_)
  refine g_region ?_
  refine rl_v rfl rfl rfl (S := fun _ => True) trivial (v_assign rfl) ?_
  refine rl_nil (g_le (Fr.le_keep (Fr.le_refl _)) ?_)
  repeat (first | refine g_seq ?_ | refine g_skip ?_ | refine g_inBlock ?_ | refine g_block ?_ | refine g_label ?_)
  refine g_region ?_
  refine rl_k rfl (k_callf Try.func11 rfl rfl rfl rfl ?_)
  refine Calls.mono (awake11_calls hw) ?_
  rintro _ w ⟨rfl, hw⟩
  refine ⟨_, rfl, ?_⟩
  refine rl_v rfl rfl rfl (S := fun _ => True) trivial (v_assign rfl) ?_
  refine rl_nil (g_le (Fr.le_keep (Fr.le_skip rfl (Fr.le_refl _))) ?_)
  repeat (first | refine g_seq ?_ | refine g_skip ?_ | refine g_inBlock ?_ | refine g_block ?_ | refine g_label ?_)
  refine g_region ?_
  refine rl_k rfl (k_callf Try.func12 rfl rfl rfl rfl ?_)
  refine Calls.mono (new_calls hw) ?_
  rintro _ w ⟨p, rfl, hw⟩
  refine ⟨_, rfl, ?_⟩
  refine rl_v rfl rfl rfl (S := fun _ => True) trivial (v_assign rfl) ?_
  refine rl_nil (g_le (Fr.le_keep (Fr.le_skip rfl (Fr.le_refl _))) ?_)
  repeat (first | refine g_seq ?_ | refine g_skip ?_ | refine g_inBlock ?_ | refine g_block ?_ | refine g_label ?_)
  refine g_region ?_
  refine rl_k rfl (k_callf Try.func12 rfl rfl rfl rfl ?_)
  refine Calls.mono (new_calls hw) ?_
  rintro _ w ⟨q, rfl, hw⟩
  refine ⟨_, rfl, ?_⟩
  refine rl_v rfl rfl rfl (S := fun _ => True) trivial (v_assign rfl) ?_
  refine rl_nil (g_le (Fr.le_keep (Fr.le_skip rfl (Fr.le_refl _))) ?_)
  repeat (first | refine g_seq ?_ | refine g_skip ?_ | refine g_inBlock ?_ | refine g_block ?_ | refine g_label ?_)
  refine g_region ?_
  refine rl_v rfl rfl rfl (S := fun _ => True) trivial (v_move rfl) ?_
  refine rl_v rfl rfl rfl (S := fun _ => True) trivial (v_not rfl) ?_
  refine rl_v rfl rfl rfl (S := fun _ => True) trivial (v_move rfl) ?_
  first | (refine rl_vg (met_on rfl rfl rfl rfl) rfl rfl (S := fun _ => True) trivial (v_move rfl) ?_) | (refine rl_off (met_off rfl rfl rfl rfl rfl) rfl rfl ?_)
  first | (refine rl_vg (met_on rfl rfl rfl rfl) rfl rfl (S := fun _ => True) trivial (v_eqlNil T.ptr_24 rfl rfl) ?_) | (refine rl_off (met_off rfl rfl rfl rfl rfl) rfl rfl ?_)
  first | (refine rl_v rfl rfl rfl (S := fun _ => True) trivial (v_pick_true rfl rfl) ?_) | (refine rl_v rfl rfl rfl (S := fun _ => True) trivial (v_pick_false rfl rfl) ?_) | (refine rl_v rfl rfl rfl (S := fun _ => True) trivial (v_pick rfl rfl rfl) ?_)
  refine rl_v rfl rfl rfl (S := fun _ => True) trivial (v_move rfl) ?_
  first | (refine rl_vg (met_on rfl rfl rfl rfl) rfl rfl (S := fun _ => True) trivial (v_move rfl) ?_) | (refine rl_off (met_off rfl rfl rfl rfl rfl) rfl rfl ?_)
  first | (refine rl_vg (met_on rfl rfl rfl rfl) rfl rfl (S := fun _ => True) trivial (v_eqlNil T.ptr_24 rfl rfl) ?_) | (refine rl_off (met_off rfl rfl rfl rfl rfl) rfl rfl ?_)
  first | (refine rl_v rfl rfl rfl (S := fun _ => True) trivial (v_pick_true rfl rfl) ?_) | (refine rl_v rfl rfl rfl (S := fun _ => True) trivial (v_pick_false rfl rfl) ?_) | (refine rl_v rfl rfl rfl (S := fun _ => True) trivial (v_pick rfl rfl rfl) ?_)
  refine rl_nil (g_le (Fr.le_keep (Fr.le_skip rfl (Fr.le_skip rfl (Fr.le_skip rfl (Fr.le_skip rfl (Fr.le_skip rfl (Fr.le_skip rfl (Fr.le_skip rfl (Fr.le_skip rfl (Fr.le_skip rfl (Fr.le_refl _))))))))))) ?_)
  refine g_cond_false rfl ?_
  repeat (first | refine g_seq ?_ | refine g_skip ?_ | refine g_inBlock ?_ | refine g_block ?_ | refine g_label ?_)
  refine g_region ?_
  refine rl_k rfl (k_callf Try.func13 rfl rfl rfl rfl ?_)
  refine Calls.mono (rnew_calls hw) ?_
  rintro _ w ⟨d, rfl, hw⟩
  refine ⟨_, rfl, ?_⟩
  refine rl_v rfl rfl rfl (S := fun _ => True) trivial (v_assign rfl) ?_
  refine rl_nil (g_le (Fr.le_keep (Fr.le_skip rfl (Fr.le_refl _))) ?_)
  repeat (first | refine g_seq ?_ | refine g_skip ?_ | refine g_inBlock ?_ | refine g_block ?_ | refine g_label ?_)
  refine g_region ?_
  refine rl_k rfl (k_callf Try.func13 rfl rfl rfl rfl ?_)
  refine Calls.mono (rnew_calls hw) ?_
  rintro _ w ⟨f, rfl, hw⟩
  refine ⟨_, rfl, ?_⟩
  refine rl_v rfl rfl rfl (S := fun _ => True) trivial (v_assign rfl) ?_
  refine rl_nil (g_le (Fr.le_keep (Fr.le_skip rfl (Fr.le_refl _))) ?_)
  repeat (first | refine g_seq ?_ | refine g_skip ?_ | refine g_inBlock ?_ | refine g_block ?_ | refine g_label ?_)
  refine g_region ?_
  refine rl_v rfl rfl rfl (S := fun _ => True) trivial (v_assign rfl) ?_
  refine rl_nil (g_le (Fr.le_keep (Fr.le_refl _)) ?_)
  repeat (first | refine g_seq ?_ | refine g_skip ?_ | refine g_inBlock ?_ | refine g_block ?_ | refine g_label ?_)
  have hlen := (rdSl_at hr)
  obtain ⟨_, hcap, hlc, _⟩ := hlen
  have hmax : (len : Int) ≤ 140737488351232 := by unfold reachBytes at hcap; omega
  refine g_loop (σ := Int × Pw × Pw) (fun x => [(8, .int .i64 x.1), (0, _), (4, _), (5, _), (6, _), (7, _)])
    (fun x w => 0 ≤ x.1 ∧ x.1 ≤ len ∧ Pw.ok x.2.1 ∧ Pw.ok x.2.2 ∧ Sat (envOf W) w [PwAt p x.2.1, RwAt d x.2.1.ref, PwAt q x.2.2, RwAt f x.2.2.ref, Old W]) (fun x => (len - x.1).toNat) ?round
    (0, ⟨false, 0, 0⟩, ⟨false, 0, 0⟩) (by repeat (first | exact Fr.le_nil _ | refine Fr.le_cons rfl ?_)) ⟨by simp, by simp, Pw.ok_new, Pw.ok_new, hw.sub (by repeat (first | with_reducible exact Sub.refl _ | with_reducible exact Sub.last1 | with_reducible exact Sub.last2 | with_reducible exact Sub.last3 | with_reducible exact Sub.last4 | with_reducible exact Sub.last5 | with_reducible exact Sub.last6 | with_reducible exact Sub.last7 | with_reducible exact Sub.last8 | with_reducible exact Sub.last9 | with_reducible exact Sub.last10 | with_reducible exact Sub.last11 | with_reducible exact Sub.last12 | with_reducible exact Sub.last13 | with_reducible exact Sub.last14 | with_reducible exact Sub.last15 | with_reducible refine Sub.head0 ?_ | with_reducible refine Sub.head1 ?_ | with_reducible refine Sub.head2 ?_ | with_reducible refine Sub.head3 ?_ | with_reducible refine Sub.head4 ?_ | with_reducible refine Sub.head5 ?_ | with_reducible refine Sub.head6 ?_ | with_reducible refine Sub.head7 ?_ | with_reducible refine Sub.head8 ?_ | with_reducible refine Sub.head9 ?_ | with_reducible refine Sub.head10 ?_ | with_reducible refine Sub.head11 ?_ | with_reducible refine Sub.head12 ?_ | with_reducible refine Sub.head13 ?_ | with_reducible refine Sub.head14 ?_ | with_reducible refine Sub.head15 ?_ | with_reducible refine Sub.drop ?_))⟩
  rintro ⟨i, s, t⟩ w ⟨hi0, hi1, hs, ht, hw⟩ ih
  dsimp only at hi0 hi1 hs ht hw ⊢
  repeat (first | refine g_seq ?_ | refine g_skip ?_ | refine g_inBlock ?_ | refine g_block ?_ | refine g_label ?_)
  refine g_region ?_
  refine rl_v rfl rfl rfl (S := fun _ => True) trivial (v_move rfl) ?_
  refine rl_v rfl rfl rfl (S := fun _ => True) trivial (v_move rfl) ?_
  refine rl_v rfl rfl rfl (S := fun _ => True) trivial (v_lenSlice T.sl_22_29_3 rfl) ?_
  first | (refine rl_v rfl rfl rfl (S := fun _ => True) trivial (v_lssT rfl rfl (by omega)) ?_) | (refine rl_v rfl rfl rfl (S := fun _ => True) trivial (v_lssF rfl rfl (by omega)) ?_) | (refine rl_v rfl rfl rfl (S := fun _ => True) trivial (v_lss rfl rfl) ?_)
  refine rl_nil (g_le (Fr.le_keep (Fr.le_skip rfl (Fr.le_skip rfl (Fr.le_skip rfl (Fr.le_refl _))))) ?_)
  refine g_cond_dec rfl (fun h5 => ?_) (fun h5 => ?_)
  · obtain ⟨b, o, kind, n, on, rfl, hat, hon⟩ := op11_at hr i hi0 h5
    repeat (first | refine g_seq ?_ | refine g_skip ?_ | refine g_inBlock ?_ | refine g_block ?_ | refine g_label ?_)
    refine g_region ?_
    refine rl_v rfl rfl rfl (S := fun _ => True) trivial (v_assign rfl) ?_
    refine rl_nil (g_le (Fr.le_keep (Fr.le_refl _)) ?_)
    repeat (first | refine g_seq ?_ | refine g_skip ?_ | refine g_inBlock ?_ | refine g_block ?_ | refine g_label ?_)
    refine g_region ?_
    refine rl_v rfl rfl rfl (S := fun _ => True) trivial (v_move rfl) ?_
    refine rl_v rfl rfl rfl (S := fun _ => True) trivial (v_move rfl) ?_
    refine rl_v rfl rfl rfl (S := fun _ => True) trivial (v_indexAddr T.sl_22_29_3 rfl rfl (by omega) (by omega)) ?_
    first | (refine rl_v rfl rfl rfl (S := fun _ => True) trivial (v_fieldAddr0 T.fld_29_2_2 rfl) ?_) | (refine rl_v rfl rfl rfl (S := fun _ => True) trivial (v_fieldAddr T.fld_29_2_2 rfl) ?_)
    refine rl_v rfl rfl rfl (by first | exact sat_cell hw (by first | with_reducible exact Pick.at0 | with_reducible exact Pick.at1 | with_reducible exact Pick.at2 | with_reducible exact Pick.at3 | with_reducible exact Pick.at4 | with_reducible exact Pick.at5 | with_reducible exact Pick.at6 | with_reducible exact Pick.at7 | with_reducible exact Pick.at8 | with_reducible exact Pick.at9 | with_reducible exact Pick.at10 | with_reducible exact Pick.at11 | with_reducible exact Pick.at12 | with_reducible exact Pick.at13 | with_reducible exact Pick.at14 | with_reducible exact Pick.at15) rfl | exact old_cell hw (by first | with_reducible exact Pick.at0 | with_reducible exact Pick.at1 | with_reducible exact Pick.at2 | with_reducible exact Pick.at3 | with_reducible exact Pick.at4 | with_reducible exact Pick.at5 | with_reducible exact Pick.at6 | with_reducible exact Pick.at7 | with_reducible exact Pick.at8 | with_reducible exact Pick.at9 | with_reducible exact Pick.at10 | with_reducible exact Pick.at11 | with_reducible exact Pick.at12 | with_reducible exact Pick.at13 | with_reducible exact Pick.at14 | with_reducible exact Pick.at15) (by assumption)) (v_load T.scal_4 rfl) ?_
    refine rl_nil (g_le (Fr.le_keep (Fr.le_skip rfl (Fr.le_skip rfl (Fr.le_skip rfl (Fr.le_skip rfl (Fr.le_refl _)))))) ?_)
    refine g_cond rfl (fun h6 => ?_) (fun h6 => ?_)
    · repeat (first | refine g_seq ?_ | refine g_skip ?_ | refine g_inBlock ?_ | refine g_block ?_ | refine g_label ?_)
      refine g_region ?_
      refine rl_v rfl rfl rfl (S := fun _ => True) trivial (v_move rfl) ?_
      refine rl_v rfl rfl rfl (S := fun _ => True) trivial (v_move rfl) ?_
      refine rl_v rfl rfl rfl (S := fun _ => True) trivial (v_move rfl) ?_
      refine rl_v rfl rfl rfl (S := fun _ => True) trivial (v_move rfl) ?_
      refine rl_v rfl rfl rfl (S := fun _ => True) trivial (v_indexAddr T.sl_22_29_3 rfl rfl (by omega) (by omega)) ?_
      refine rl_v rfl rfl rfl (by first | exact sat_cells hw (by first | with_reducible exact Pick.at0 | with_reducible exact Pick.at1 | with_reducible exact Pick.at2 | with_reducible exact Pick.at3 | with_reducible exact Pick.at4 | with_reducible exact Pick.at5 | with_reducible exact Pick.at6 | with_reducible exact Pick.at7 | with_reducible exact Pick.at8 | with_reducible exact Pick.at9 | with_reducible exact Pick.at10 | with_reducible exact Pick.at11 | with_reducible exact Pick.at12 | with_reducible exact Pick.at13 | with_reducible exact Pick.at14 | with_reducible exact Pick.at15) ⟨rfl, rfl, rfl, trivial⟩ | exact old_cells hw (by first | with_reducible exact Pick.at0 | with_reducible exact Pick.at1 | with_reducible exact Pick.at2 | with_reducible exact Pick.at3 | with_reducible exact Pick.at4 | with_reducible exact Pick.at5 | with_reducible exact Pick.at6 | with_reducible exact Pick.at7 | with_reducible exact Pick.at8 | with_reducible exact Pick.at9 | with_reducible exact Pick.at10 | with_reducible exact Pick.at11 | with_reducible exact Pick.at12 | with_reducible exact Pick.at13 | with_reducible exact Pick.at14 | with_reducible exact Pick.at15) (by assumption)) (v_loadAgg (vs := [_, _, _]) T.agg_29_3 rfl rfl) ?_
      refine rl_k rfl (k_callf Try.func14 rfl rfl rfl rfl ?_)
      refine Calls.mono (step11_calls _ _ t t _ _ _ ht ht (hw.sub (by repeat (first | with_reducible exact Sub.refl _ | with_reducible exact Sub.last1 | with_reducible exact Sub.last2 | with_reducible exact Sub.last3 | with_reducible exact Sub.last4 | with_reducible exact Sub.last5 | with_reducible exact Sub.last6 | with_reducible exact Sub.last7 | with_reducible exact Sub.last8 | with_reducible exact Sub.last9 | with_reducible exact Sub.last10 | with_reducible exact Sub.last11 | with_reducible exact Sub.last12 | with_reducible exact Sub.last13 | with_reducible exact Sub.last14 | with_reducible exact Sub.last15 | with_reducible refine Sub.head0 ?_ | with_reducible refine Sub.head1 ?_ | with_reducible refine Sub.head2 ?_ | with_reducible refine Sub.head3 ?_ | with_reducible refine Sub.head4 ?_ | with_reducible refine Sub.head5 ?_ | with_reducible refine Sub.head6 ?_ | with_reducible refine Sub.head7 ?_ | with_reducible refine Sub.head8 ?_ | with_reducible refine Sub.head9 ?_ | with_reducible refine Sub.head10 ?_ | with_reducible refine Sub.head11 ?_ | with_reducible refine Sub.head12 ?_ | with_reducible refine Sub.head13 ?_ | with_reducible refine Sub.head14 ?_ | with_reducible refine Sub.head15 ?_ | with_reducible refine Sub.drop ?_)))) ?_
      rintro _ w ⟨b', s', t', rfl, hs', ht', hst, hw⟩
      obtain ⟨rfl, rfl⟩ := hst rfl
      refine ⟨_, rfl, ?_⟩
      refine rl_v rfl rfl rfl (S := fun _ => True) trivial (v_assign rfl) ?_
      refine rl_nil (g_le (Fr.le_keep (Fr.le_skip rfl (Fr.le_skip rfl (Fr.le_skip rfl (Fr.le_skip rfl (Fr.le_skip rfl (Fr.le_skip rfl (Fr.le_skip rfl (Fr.le_refl _))))))))) ?_)
      repeat (first | refine g_seq ?_ | refine g_skip ?_ | refine g_inBlock ?_ | refine g_block ?_ | refine g_label ?_)
      refine g_region ?_
      refine rl_v rfl rfl rfl (S := fun _ => True) trivial (v_move rfl) ?_
      refine rl_v rfl rfl rfl (S := fun _ => True) trivial (v_not rfl) ?_
      refine rl_v rfl rfl rfl (S := fun _ => True) trivial (v_move rfl) ?_
      first | (refine rl_vg (met_on rfl rfl rfl rfl) rfl rfl (S := fun _ => True) trivial (v_move rfl) ?_) | (refine rl_off (met_off rfl rfl rfl rfl rfl) rfl rfl ?_)
      first | (refine rl_vg (met_on rfl rfl rfl rfl) rfl rfl (S := fun _ => True) trivial (v_move rfl) ?_) | (refine rl_off (met_off rfl rfl rfl rfl rfl) rfl rfl ?_)
      first | (refine rl_kg (met_on rfl rfl rfl rfl) (k_callf Try.func15 rfl rfl rfl rfl ?_); refine Calls.mono (told_calls _ _ _ (hw.sub (by repeat (first | with_reducible exact Sub.refl _ | with_reducible exact Sub.last1 | with_reducible exact Sub.last2 | with_reducible exact Sub.last3 | with_reducible exact Sub.last4 | with_reducible exact Sub.last5 | with_reducible exact Sub.last6 | with_reducible exact Sub.last7 | with_reducible exact Sub.last8 | with_reducible exact Sub.last9 | with_reducible exact Sub.last10 | with_reducible exact Sub.last11 | with_reducible exact Sub.last12 | with_reducible exact Sub.last13 | with_reducible exact Sub.last14 | with_reducible exact Sub.last15 | with_reducible refine Sub.head0 ?_ | with_reducible refine Sub.head1 ?_ | with_reducible refine Sub.head2 ?_ | with_reducible refine Sub.head3 ?_ | with_reducible refine Sub.head4 ?_ | with_reducible refine Sub.head5 ?_ | with_reducible refine Sub.head6 ?_ | with_reducible refine Sub.head7 ?_ | with_reducible refine Sub.head8 ?_ | with_reducible refine Sub.head9 ?_ | with_reducible refine Sub.head10 ?_ | with_reducible refine Sub.head11 ?_ | with_reducible refine Sub.head12 ?_ | with_reducible refine Sub.head13 ?_ | with_reducible refine Sub.head14 ?_ | with_reducible refine Sub.head15 ?_ | with_reducible refine Sub.drop ?_)))) ?_; rintro _ w ⟨rfl, hw⟩; refine ⟨_, rfl, ?_⟩) | (refine rl_off (met_off rfl rfl rfl rfl rfl) rfl rfl ?_)
      first | (refine rl_vg (met_on rfl rfl rfl rfl) rfl rfl (S := fun _ => True) trivial (v_not rfl) ?_) | (refine rl_off (met_off rfl rfl rfl rfl rfl) rfl rfl ?_)
      first | (refine rl_v rfl rfl rfl (S := fun _ => True) trivial (v_pick_true rfl rfl) ?_) | (refine rl_v rfl rfl rfl (S := fun _ => True) trivial (v_pick_false rfl rfl) ?_) | (refine rl_v rfl rfl rfl (S := fun _ => True) trivial (v_pick rfl rfl rfl) ?_)
      refine rl_v rfl rfl rfl (S := fun _ => True) trivial (v_move rfl) ?_
      first | (refine rl_vg (met_on rfl rfl rfl rfl) rfl rfl (S := fun _ => True) trivial (v_move rfl) ?_) | (refine rl_off (met_off rfl rfl rfl rfl rfl) rfl rfl ?_)
      first | (refine rl_vg (met_on rfl rfl rfl rfl) rfl rfl (S := fun _ => True) trivial (v_move rfl) ?_) | (refine rl_off (met_off rfl rfl rfl rfl rfl) rfl rfl ?_)
      first | (refine rl_kg (met_on rfl rfl rfl rfl) (k_callf Try.func15 rfl rfl rfl rfl ?_); refine Calls.mono (told_calls _ _ _ (hw.sub (by repeat (first | with_reducible exact Sub.refl _ | with_reducible exact Sub.last1 | with_reducible exact Sub.last2 | with_reducible exact Sub.last3 | with_reducible exact Sub.last4 | with_reducible exact Sub.last5 | with_reducible exact Sub.last6 | with_reducible exact Sub.last7 | with_reducible exact Sub.last8 | with_reducible exact Sub.last9 | with_reducible exact Sub.last10 | with_reducible exact Sub.last11 | with_reducible exact Sub.last12 | with_reducible exact Sub.last13 | with_reducible exact Sub.last14 | with_reducible exact Sub.last15 | with_reducible refine Sub.head0 ?_ | with_reducible refine Sub.head1 ?_ | with_reducible refine Sub.head2 ?_ | with_reducible refine Sub.head3 ?_ | with_reducible refine Sub.head4 ?_ | with_reducible refine Sub.head5 ?_ | with_reducible refine Sub.head6 ?_ | with_reducible refine Sub.head7 ?_ | with_reducible refine Sub.head8 ?_ | with_reducible refine Sub.head9 ?_ | with_reducible refine Sub.head10 ?_ | with_reducible refine Sub.head11 ?_ | with_reducible refine Sub.head12 ?_ | with_reducible refine Sub.head13 ?_ | with_reducible refine Sub.head14 ?_ | with_reducible refine Sub.head15 ?_ | with_reducible refine Sub.drop ?_)))) ?_; rintro _ w ⟨rfl, hw⟩; refine ⟨_, rfl, ?_⟩) | (refine rl_off (met_off rfl rfl rfl rfl rfl) rfl rfl ?_)
      first | (refine rl_vg (met_on rfl rfl rfl rfl) rfl rfl (S := fun _ => True) trivial (v_not rfl) ?_) | (refine rl_off (met_off rfl rfl rfl rfl rfl) rfl rfl ?_)
      first | (refine rl_v rfl rfl rfl (S := fun _ => True) trivial (v_pick_true rfl rfl) ?_) | (refine rl_v rfl rfl rfl (S := fun _ => True) trivial (v_pick_false rfl rfl) ?_) | (refine rl_v rfl rfl rfl (S := fun _ => True) trivial (v_pick rfl rfl rfl) ?_)
      refine rl_nil (g_le (Fr.le_keep (Fr.le_skip rfl (Fr.le_skip rfl (Fr.le_skip rfl (Fr.le_skip rfl (Fr.le_skip rfl (Fr.le_skip rfl (Fr.le_skip rfl (Fr.le_skip rfl (Fr.le_skip rfl (Fr.le_skip rfl (Fr.le_skip rfl (Fr.le_skip rfl (Fr.le_skip rfl (Fr.le_refl _))))))))))))))) ?_)
      refine g_cond_false rfl ?_
      repeat (first | refine g_seq ?_ | refine g_skip ?_ | refine g_inBlock ?_ | refine g_block ?_ | refine g_label ?_)
      refine g_region ?_
      refine rl_v rfl rfl rfl (S := fun _ => True) trivial (v_move rfl) ?_
      first | (refine rl_v rfl rfl rfl (S := fun _ => True) trivial (v_add rfl rfl (by omega)) ?_) | (refine rl_v rfl rfl rfl (S := fun _ => True) trivial (v_addW rfl rfl) ?_)
      refine rl_v rfl rfl rfl (S := fun _ => True) trivial (v_assign rfl) ?_
      refine rl_nil (g_le (Fr.le_keep (Fr.le_skip rfl (Fr.le_skip rfl (Fr.le_refl _)))) ?_)
      exact g_le (by repeat (first | exact Fr.le_nil _ | refine Fr.le_cons rfl ?_)) (ih (i + 1, s, s') w ⟨by simp only; omega, by simp only; omega, hs, hs', hw.sub (by repeat (first | with_reducible exact Sub.refl _ | with_reducible exact Sub.last1 | with_reducible exact Sub.last2 | with_reducible exact Sub.last3 | with_reducible exact Sub.last4 | with_reducible exact Sub.last5 | with_reducible exact Sub.last6 | with_reducible exact Sub.last7 | with_reducible exact Sub.last8 | with_reducible exact Sub.last9 | with_reducible exact Sub.last10 | with_reducible exact Sub.last11 | with_reducible exact Sub.last12 | with_reducible exact Sub.last13 | with_reducible exact Sub.last14 | with_reducible exact Sub.last15 | with_reducible refine Sub.head0 ?_ | with_reducible refine Sub.head1 ?_ | with_reducible refine Sub.head2 ?_ | with_reducible refine Sub.head3 ?_ | with_reducible refine Sub.head4 ?_ | with_reducible refine Sub.head5 ?_ | with_reducible refine Sub.head6 ?_ | with_reducible refine Sub.head7 ?_ | with_reducible refine Sub.head8 ?_ | with_reducible refine Sub.head9 ?_ | with_reducible refine Sub.head10 ?_ | with_reducible refine Sub.head11 ?_ | with_reducible refine Sub.head12 ?_ | with_reducible refine Sub.head13 ?_ | with_reducible refine Sub.head14 ?_ | with_reducible refine Sub.head15 ?_ | with_reducible refine Sub.drop ?_))⟩ (by simp only; omega))
    · repeat (first | refine g_seq ?_ | refine g_skip ?_ | refine g_inBlock ?_ | refine g_block ?_ | refine g_label ?_)
      refine g_region ?_
      refine rl_v rfl rfl rfl (S := fun _ => True) trivial (v_move rfl) ?_
      refine rl_v rfl rfl rfl (S := fun _ => True) trivial (v_move rfl) ?_
      refine rl_v rfl rfl rfl (S := fun _ => True) trivial (v_move rfl) ?_
      refine rl_v rfl rfl rfl (S := fun _ => True) trivial (v_move rfl) ?_
      refine rl_v rfl rfl rfl (S := fun _ => True) trivial (v_indexAddr T.sl_22_29_3 rfl rfl (by omega) (by omega)) ?_
      refine rl_v rfl rfl rfl (by first | exact sat_cells hw (by first | with_reducible exact Pick.at0 | with_reducible exact Pick.at1 | with_reducible exact Pick.at2 | with_reducible exact Pick.at3 | with_reducible exact Pick.at4 | with_reducible exact Pick.at5 | with_reducible exact Pick.at6 | with_reducible exact Pick.at7 | with_reducible exact Pick.at8 | with_reducible exact Pick.at9 | with_reducible exact Pick.at10 | with_reducible exact Pick.at11 | with_reducible exact Pick.at12 | with_reducible exact Pick.at13 | with_reducible exact Pick.at14 | with_reducible exact Pick.at15) ⟨rfl, rfl, rfl, trivial⟩ | exact old_cells hw (by first | with_reducible exact Pick.at0 | with_reducible exact Pick.at1 | with_reducible exact Pick.at2 | with_reducible exact Pick.at3 | with_reducible exact Pick.at4 | with_reducible exact Pick.at5 | with_reducible exact Pick.at6 | with_reducible exact Pick.at7 | with_reducible exact Pick.at8 | with_reducible exact Pick.at9 | with_reducible exact Pick.at10 | with_reducible exact Pick.at11 | with_reducible exact Pick.at12 | with_reducible exact Pick.at13 | with_reducible exact Pick.at14 | with_reducible exact Pick.at15) (by assumption)) (v_loadAgg (vs := [_, _, _]) T.agg_29_3 rfl rfl) ?_
      refine rl_k rfl (k_callf Try.func14 rfl rfl rfl rfl ?_)
      refine Calls.mono (step11_calls _ _ s s _ _ _ hs hs (hw.sub (by repeat (first | with_reducible exact Sub.refl _ | with_reducible exact Sub.last1 | with_reducible exact Sub.last2 | with_reducible exact Sub.last3 | with_reducible exact Sub.last4 | with_reducible exact Sub.last5 | with_reducible exact Sub.last6 | with_reducible exact Sub.last7 | with_reducible exact Sub.last8 | with_reducible exact Sub.last9 | with_reducible exact Sub.last10 | with_reducible exact Sub.last11 | with_reducible exact Sub.last12 | with_reducible exact Sub.last13 | with_reducible exact Sub.last14 | with_reducible exact Sub.last15 | with_reducible refine Sub.head0 ?_ | with_reducible refine Sub.head1 ?_ | with_reducible refine Sub.head2 ?_ | with_reducible refine Sub.head3 ?_ | with_reducible refine Sub.head4 ?_ | with_reducible refine Sub.head5 ?_ | with_reducible refine Sub.head6 ?_ | with_reducible refine Sub.head7 ?_ | with_reducible refine Sub.head8 ?_ | with_reducible refine Sub.head9 ?_ | with_reducible refine Sub.head10 ?_ | with_reducible refine Sub.head11 ?_ | with_reducible refine Sub.head12 ?_ | with_reducible refine Sub.head13 ?_ | with_reducible refine Sub.head14 ?_ | with_reducible refine Sub.head15 ?_ | with_reducible refine Sub.drop ?_)))) ?_
      rintro _ w ⟨b', s', t', rfl, hs', ht', hst, hw⟩
      obtain ⟨rfl, rfl⟩ := hst rfl
      refine ⟨_, rfl, ?_⟩
      refine rl_v rfl rfl rfl (S := fun _ => True) trivial (v_assign rfl) ?_
      refine rl_nil (g_le (Fr.le_keep (Fr.le_skip rfl (Fr.le_skip rfl (Fr.le_skip rfl (Fr.le_skip rfl (Fr.le_skip rfl (Fr.le_skip rfl (Fr.le_skip rfl (Fr.le_refl _))))))))) ?_)
      repeat (first | refine g_seq ?_ | refine g_skip ?_ | refine g_inBlock ?_ | refine g_block ?_ | refine g_label ?_)
      refine g_region ?_
      refine rl_v rfl rfl rfl (S := fun _ => True) trivial (v_move rfl) ?_
      refine rl_v rfl rfl rfl (S := fun _ => True) trivial (v_not rfl) ?_
      refine rl_v rfl rfl rfl (S := fun _ => True) trivial (v_move rfl) ?_
      first | (refine rl_vg (met_on rfl rfl rfl rfl) rfl rfl (S := fun _ => True) trivial (v_move rfl) ?_) | (refine rl_off (met_off rfl rfl rfl rfl rfl) rfl rfl ?_)
      first | (refine rl_vg (met_on rfl rfl rfl rfl) rfl rfl (S := fun _ => True) trivial (v_move rfl) ?_) | (refine rl_off (met_off rfl rfl rfl rfl rfl) rfl rfl ?_)
      first | (refine rl_kg (met_on rfl rfl rfl rfl) (k_callf Try.func15 rfl rfl rfl rfl ?_); refine Calls.mono (told_calls _ _ _ (hw.sub (by repeat (first | with_reducible exact Sub.refl _ | with_reducible exact Sub.last1 | with_reducible exact Sub.last2 | with_reducible exact Sub.last3 | with_reducible exact Sub.last4 | with_reducible exact Sub.last5 | with_reducible exact Sub.last6 | with_reducible exact Sub.last7 | with_reducible exact Sub.last8 | with_reducible exact Sub.last9 | with_reducible exact Sub.last10 | with_reducible exact Sub.last11 | with_reducible exact Sub.last12 | with_reducible exact Sub.last13 | with_reducible exact Sub.last14 | with_reducible exact Sub.last15 | with_reducible refine Sub.head0 ?_ | with_reducible refine Sub.head1 ?_ | with_reducible refine Sub.head2 ?_ | with_reducible refine Sub.head3 ?_ | with_reducible refine Sub.head4 ?_ | with_reducible refine Sub.head5 ?_ | with_reducible refine Sub.head6 ?_ | with_reducible refine Sub.head7 ?_ | with_reducible refine Sub.head8 ?_ | with_reducible refine Sub.head9 ?_ | with_reducible refine Sub.head10 ?_ | with_reducible refine Sub.head11 ?_ | with_reducible refine Sub.head12 ?_ | with_reducible refine Sub.head13 ?_ | with_reducible refine Sub.head14 ?_ | with_reducible refine Sub.head15 ?_ | with_reducible refine Sub.drop ?_)))) ?_; rintro _ w ⟨rfl, hw⟩; refine ⟨_, rfl, ?_⟩) | (refine rl_off (met_off rfl rfl rfl rfl rfl) rfl rfl ?_)
      first | (refine rl_vg (met_on rfl rfl rfl rfl) rfl rfl (S := fun _ => True) trivial (v_not rfl) ?_) | (refine rl_off (met_off rfl rfl rfl rfl rfl) rfl rfl ?_)
      first | (refine rl_v rfl rfl rfl (S := fun _ => True) trivial (v_pick_true rfl rfl) ?_) | (refine rl_v rfl rfl rfl (S := fun _ => True) trivial (v_pick_false rfl rfl) ?_) | (refine rl_v rfl rfl rfl (S := fun _ => True) trivial (v_pick rfl rfl rfl) ?_)
      refine rl_v rfl rfl rfl (S := fun _ => True) trivial (v_move rfl) ?_
      first | (refine rl_vg (met_on rfl rfl rfl rfl) rfl rfl (S := fun _ => True) trivial (v_move rfl) ?_) | (refine rl_off (met_off rfl rfl rfl rfl rfl) rfl rfl ?_)
      first | (refine rl_vg (met_on rfl rfl rfl rfl) rfl rfl (S := fun _ => True) trivial (v_move rfl) ?_) | (refine rl_off (met_off rfl rfl rfl rfl rfl) rfl rfl ?_)
      first | (refine rl_kg (met_on rfl rfl rfl rfl) (k_callf Try.func15 rfl rfl rfl rfl ?_); refine Calls.mono (told_calls _ _ _ (hw.sub (by repeat (first | with_reducible exact Sub.refl _ | with_reducible exact Sub.last1 | with_reducible exact Sub.last2 | with_reducible exact Sub.last3 | with_reducible exact Sub.last4 | with_reducible exact Sub.last5 | with_reducible exact Sub.last6 | with_reducible exact Sub.last7 | with_reducible exact Sub.last8 | with_reducible exact Sub.last9 | with_reducible exact Sub.last10 | with_reducible exact Sub.last11 | with_reducible exact Sub.last12 | with_reducible exact Sub.last13 | with_reducible exact Sub.last14 | with_reducible exact Sub.last15 | with_reducible refine Sub.head0 ?_ | with_reducible refine Sub.head1 ?_ | with_reducible refine Sub.head2 ?_ | with_reducible refine Sub.head3 ?_ | with_reducible refine Sub.head4 ?_ | with_reducible refine Sub.head5 ?_ | with_reducible refine Sub.head6 ?_ | with_reducible refine Sub.head7 ?_ | with_reducible refine Sub.head8 ?_ | with_reducible refine Sub.head9 ?_ | with_reducible refine Sub.head10 ?_ | with_reducible refine Sub.head11 ?_ | with_reducible refine Sub.head12 ?_ | with_reducible refine Sub.head13 ?_ | with_reducible refine Sub.head14 ?_ | with_reducible refine Sub.head15 ?_ | with_reducible refine Sub.drop ?_)))) ?_; rintro _ w ⟨rfl, hw⟩; refine ⟨_, rfl, ?_⟩) | (refine rl_off (met_off rfl rfl rfl rfl rfl) rfl rfl ?_)
      first | (refine rl_vg (met_on rfl rfl rfl rfl) rfl rfl (S := fun _ => True) trivial (v_not rfl) ?_) | (refine rl_off (met_off rfl rfl rfl rfl rfl) rfl rfl ?_)
      first | (refine rl_v rfl rfl rfl (S := fun _ => True) trivial (v_pick_true rfl rfl) ?_) | (refine rl_v rfl rfl rfl (S := fun _ => True) trivial (v_pick_false rfl rfl) ?_) | (refine rl_v rfl rfl rfl (S := fun _ => True) trivial (v_pick rfl rfl rfl) ?_)
      refine rl_nil (g_le (Fr.le_keep (Fr.le_skip rfl (Fr.le_skip rfl (Fr.le_skip rfl (Fr.le_skip rfl (Fr.le_skip rfl (Fr.le_skip rfl (Fr.le_skip rfl (Fr.le_skip rfl (Fr.le_skip rfl (Fr.le_skip rfl (Fr.le_skip rfl (Fr.le_skip rfl (Fr.le_skip rfl (Fr.le_refl _))))))))))))))) ?_)
      refine g_cond_false rfl ?_
      repeat (first | refine g_seq ?_ | refine g_skip ?_ | refine g_inBlock ?_ | refine g_block ?_ | refine g_label ?_)
      refine g_region ?_
      refine rl_v rfl rfl rfl (S := fun _ => True) trivial (v_move rfl) ?_
      first | (refine rl_v rfl rfl rfl (S := fun _ => True) trivial (v_add rfl rfl (by omega)) ?_) | (refine rl_v rfl rfl rfl (S := fun _ => True) trivial (v_addW rfl rfl) ?_)
      refine rl_v rfl rfl rfl (S := fun _ => True) trivial (v_assign rfl) ?_
      refine rl_nil (g_le (Fr.le_keep (Fr.le_skip rfl (Fr.le_skip rfl (Fr.le_refl _)))) ?_)
      exact g_le (by repeat (first | exact Fr.le_nil _ | refine Fr.le_cons rfl ?_)) (ih (i + 1, s', t) w ⟨by simp only; omega, by simp only; omega, hs', ht, hw.sub (by repeat (first | with_reducible exact Sub.refl _ | with_reducible exact Sub.last1 | with_reducible exact Sub.last2 | with_reducible exact Sub.last3 | with_reducible exact Sub.last4 | with_reducible exact Sub.last5 | with_reducible exact Sub.last6 | with_reducible exact Sub.last7 | with_reducible exact Sub.last8 | with_reducible exact Sub.last9 | with_reducible exact Sub.last10 | with_reducible exact Sub.last11 | with_reducible exact Sub.last12 | with_reducible exact Sub.last13 | with_reducible exact Sub.last14 | with_reducible exact Sub.last15 | with_reducible refine Sub.head0 ?_ | with_reducible refine Sub.head1 ?_ | with_reducible refine Sub.head2 ?_ | with_reducible refine Sub.head3 ?_ | with_reducible refine Sub.head4 ?_ | with_reducible refine Sub.head5 ?_ | with_reducible refine Sub.head6 ?_ | with_reducible refine Sub.head7 ?_ | with_reducible refine Sub.head8 ?_ | with_reducible refine Sub.head9 ?_ | with_reducible refine Sub.head10 ?_ | with_reducible refine Sub.head11 ?_ | with_reducible refine Sub.head12 ?_ | with_reducible refine Sub.head13 ?_ | with_reducible refine Sub.head14 ?_ | with_reducible refine Sub.head15 ?_ | with_reducible refine Sub.drop ?_))⟩ (by simp only; omega))
  · repeat (first | refine g_seq ?_ | refine g_skip ?_ | refine g_inBlock ?_ | refine g_block ?_ | refine g_label ?_)
    refine g_exit rfl ?_
    repeat (first | refine g_seq ?_ | refine g_skip ?_ | refine g_inBlock ?_ | refine g_block ?_ | refine g_label ?_)
    refine g_region ?_
    refine rl_v rfl rfl rfl (S := fun _ => True) trivial (v_move rfl) ?_
    refine rl_v rfl rfl rfl (S := fun _ => True) trivial (v_move rfl) ?_
    refine rl_k rfl (k_callf Try.func15 rfl rfl rfl rfl ?_)
    refine Calls.mono (told_calls _ _ _ (hw.sub (by repeat (first | with_reducible exact Sub.refl _ | with_reducible exact Sub.last1 | with_reducible exact Sub.last2 | with_reducible exact Sub.last3 | with_reducible exact Sub.last4 | with_reducible exact Sub.last5 | with_reducible exact Sub.last6 | with_reducible exact Sub.last7 | with_reducible exact Sub.last8 | with_reducible exact Sub.last9 | with_reducible exact Sub.last10 | with_reducible exact Sub.last11 | with_reducible exact Sub.last12 | with_reducible exact Sub.last13 | with_reducible exact Sub.last14 | with_reducible exact Sub.last15 | with_reducible refine Sub.head0 ?_ | with_reducible refine Sub.head1 ?_ | with_reducible refine Sub.head2 ?_ | with_reducible refine Sub.head3 ?_ | with_reducible refine Sub.head4 ?_ | with_reducible refine Sub.head5 ?_ | with_reducible refine Sub.head6 ?_ | with_reducible refine Sub.head7 ?_ | with_reducible refine Sub.head8 ?_ | with_reducible refine Sub.head9 ?_ | with_reducible refine Sub.head10 ?_ | with_reducible refine Sub.head11 ?_ | with_reducible refine Sub.head12 ?_ | with_reducible refine Sub.head13 ?_ | with_reducible refine Sub.head14 ?_ | with_reducible refine Sub.head15 ?_ | with_reducible refine Sub.drop ?_)))) ?_
    rintro _ w ⟨rfl, hw⟩
    refine ⟨_, rfl, ?_⟩
    refine rl_v rfl rfl rfl (S := fun _ => True) trivial (v_move rfl) ?_
    first | (refine rl_vg (met_on rfl rfl rfl rfl) rfl rfl (S := fun _ => True) trivial (v_move rfl) ?_) | (refine rl_off (met_off rfl rfl rfl rfl rfl) rfl rfl ?_)
    first | (refine rl_vg (met_on rfl rfl rfl rfl) rfl rfl (S := fun _ => True) trivial (v_move rfl) ?_) | (refine rl_off (met_off rfl rfl rfl rfl rfl) rfl rfl ?_)
    first | (refine rl_kg (met_on rfl rfl rfl rfl) (k_callf Try.func15 rfl rfl rfl rfl ?_); refine Calls.mono (told_calls _ _ _ (hw.sub (by repeat (first | with_reducible exact Sub.refl _ | with_reducible exact Sub.last1 | with_reducible exact Sub.last2 | with_reducible exact Sub.last3 | with_reducible exact Sub.last4 | with_reducible exact Sub.last5 | with_reducible exact Sub.last6 | with_reducible exact Sub.last7 | with_reducible exact Sub.last8 | with_reducible exact Sub.last9 | with_reducible exact Sub.last10 | with_reducible exact Sub.last11 | with_reducible exact Sub.last12 | with_reducible exact Sub.last13 | with_reducible exact Sub.last14 | with_reducible exact Sub.last15 | with_reducible refine Sub.head0 ?_ | with_reducible refine Sub.head1 ?_ | with_reducible refine Sub.head2 ?_ | with_reducible refine Sub.head3 ?_ | with_reducible refine Sub.head4 ?_ | with_reducible refine Sub.head5 ?_ | with_reducible refine Sub.head6 ?_ | with_reducible refine Sub.head7 ?_ | with_reducible refine Sub.head8 ?_ | with_reducible refine Sub.head9 ?_ | with_reducible refine Sub.head10 ?_ | with_reducible refine Sub.head11 ?_ | with_reducible refine Sub.head12 ?_ | with_reducible refine Sub.head13 ?_ | with_reducible refine Sub.head14 ?_ | with_reducible refine Sub.head15 ?_ | with_reducible refine Sub.drop ?_)))) ?_; rintro _ w ⟨rfl, hw⟩; refine ⟨_, rfl, ?_⟩) | (refine rl_off (met_off rfl rfl rfl rfl rfl) rfl rfl ?_)
    first | (refine rl_v rfl rfl rfl (S := fun _ => True) trivial (v_pick_true rfl rfl) ?_) | (refine rl_v rfl rfl rfl (S := fun _ => True) trivial (v_pick_false rfl rfl) ?_) | (refine rl_v rfl rfl rfl (S := fun _ => True) trivial (v_pick rfl rfl rfl) ?_)
    refine rl_v rfl rfl rfl (S := fun _ => True) trivial (v_assign rfl) ?_
    refine rl_nil (g_le (Fr.le_keep (Fr.le_skip rfl (Fr.le_skip rfl (Fr.le_skip rfl (Fr.le_skip rfl (Fr.le_skip rfl (Fr.le_skip rfl (Fr.le_skip rfl (Fr.le_skip rfl (Fr.le_refl _)))))))))) ?_)
    refine g_ret1 Try.func3 rfl rfl ?_
    exact ⟨rfl, hw.sub (by repeat (first | with_reducible exact Sub.refl _ | with_reducible exact Sub.last1 | with_reducible exact Sub.last2 | with_reducible exact Sub.last3 | with_reducible exact Sub.last4 | with_reducible exact Sub.last5 | with_reducible exact Sub.last6 | with_reducible exact Sub.last7 | with_reducible exact Sub.last8 | with_reducible exact Sub.last9 | with_reducible exact Sub.last10 | with_reducible exact Sub.last11 | with_reducible exact Sub.last12 | with_reducible exact Sub.last13 | with_reducible exact Sub.last14 | with_reducible exact Sub.last15 | with_reducible refine Sub.head0 ?_ | with_reducible refine Sub.head1 ?_ | with_reducible refine Sub.head2 ?_ | with_reducible refine Sub.head3 ?_ | with_reducible refine Sub.head4 ?_ | with_reducible refine Sub.head5 ?_ | with_reducible refine Sub.head6 ?_ | with_reducible refine Sub.head7 ?_ | with_reducible refine Sub.head8 ?_ | with_reducible refine Sub.head9 ?_ | with_reducible refine Sub.head10 ?_ | with_reducible refine Sub.head11 ?_ | with_reducible refine Sub.head12 ?_ | with_reducible refine Sub.head13 ?_ | with_reducible refine Sub.head14 ?_ | with_reducible refine Sub.head15 ?_ | with_reducible refine Sub.drop ?_))⟩

set_option maxRecDepth 100000 in
theorem PowerPlays_lifted (os : Os) (started : os.Started) (H : Type) (enc : TypeId × Value → H) :
    ReturnsInHanded {} Try.checked os 3 .any (Rows.powerPlaysSpec.pre6 enc Try.prog Try.f3 Rows.powerPlaysRow.domain false) (Rows.powerPlaysSpec.post enc Try.prog Try.f3 false true false false) := by
  refine returnsInHanded_of_change_sized (C := Try.checked) T.own started (by kernel_rfl) Try.func3
    (ChangeSpec.witness6 (enc := enc) (C := Try.checked) false ⟨#[], #[(.slice none 0 0)], []⟩ 8 (by kernel_rfl) (by kernel_rfl) (by kernel_rfl) (by kernel_rfl)) ?_
  intro W base args ds gs before hval0 hW hcnd hsz0 _
  have hval : ∀ (j : Nat) t v, Try.f3.params[j]? = some t → args[j]? = some v → Value.okWide Try.prog W .any base t v := hval0
  have hW' := hW
  obtain ⟨p, q, hA0, hV, rfl, hfz, hnd⟩ := hW
  have hA : DataW.TrodAll enc Try.prog W 0 (fun _ => true) true Try.f3.params.toList args.toList ds p := hA0
  obtain ⟨rfl, rfl⟩ := trodVars_none hV
  have hsz : (DataW.weightsEach Try.prog (Try.f3.params.toList ++ []) (ds ++ [])).all (· ≤ reachBytes) = true := hsz0
  rw [List.append_nil, List.append_nil] at hsz
  rw [Try.params3] at hA hval hsz
  obtain ⟨v0, vs0, d0, ds0, p0, q0, hargs, rfl, rfl, h0, r0⟩ := trodAll_cons hA
  obtain ⟨rfl, rfl, rfl⟩ := trodAll_nil r0
  obtain rfl : args = #[v0] := by cases args; simp_all
  have lt0 : ∀ x ∈ p0, x.block < W.heap.size := by obtain ⟨m, hm⟩ := h0; exact DataW.trod_lt m _ _ _ hm
  obtain ⟨x0, w0⟩ := arg_of (j := 0) (reads_sl T.sl_22_29_3 T.bytes_29_24 (by decide) reads_Op11) h0 hsz rfl rfl
  obtain ⟨a0, l0, c0, rfl⟩ := okWide_slice Try.underlying22 (hval 0 22 v0 rfl rfl)
  refine (PowerPlays_law w0).mono fun e W' ⟨he, hb⟩ => ?_
  have bel := hb.below
  subst he
  exact ⟨_, rfl, _, _, _, [], _, [], hW', trodAll_mk1 (shut_bool Try.underlying4 _), (trodAll_cons_mk (Below.trod T.laidOut (by kernel_rfl) (of_decide_eq_true (by kernel_rfl)) h0 bel lt0) trodAll_mk0), rfl, bel.frame _, fun h => by cases h⟩
theorem PowerPlays_holds : Rows.PowerPlaysSaid :=
  OpenClaim.holds_of_wide 3 Try.f3 rfl rfl rfl rfl rfl rfl rfl ⟨rfl, rfl, rfl, rfl, rfl⟩ rfl rfl rfl rfl rfl (by kernel_rfl) Try.func3 (by kernel_rfl)
    (of_decide_eq_true (by kernel_rfl)) (by unfold Func.isWrapper; rw [if_neg (of_decide_eq_false (by kernel_rfl))]; exact ⟨rfl, rfl⟩)
    (fun os started H enc _ => PowerPlays_lifted os started H enc)
#print axioms PowerPlays_holds

end Go.Proofs.Ytdebodbkggbjeaa
