/-
  The log (layer 14): Begin.
-/
import Derived.Test.YtipdklbedpkobaaS14p
namespace Go.Proofs.Ytipdklbedpkobaa
set_option maxRecDepth 8000
set_option linter.unusedSimpArgs false
set_option linter.unusedVariables false
open Go Xe Go.Lib
def bgU (op us : Int) (md : Md) (s : Int) : Int := if s = op then us else md.used s
theorem bgU_calls {E : Env} {w : World} {L : List As} {l m b c p q1 q2 q3 : Nat} {o op us : Int} {ss : List Sg} {md : Md} (s : Int) (hw : Sat E w (pt l (.cells [Value.pointer (some ⟨m, 0, none⟩), .int .i64 o, .slice (some ⟨b, 0, none⟩) (ss : List Sg).length c].toArray 47 (0, 0)) :: OwnSl 104 3 (.slice (some ⟨b, 0, none⟩) (ss).length c) (ss).length ((ss).flatMap Sg.cells) :: pt q1 (.cells [Value.int .i64 op].toArray 3 (0, 0)) :: pt q2 (.cells [Value.int .i64 us].toArray 3 (0, 0)) :: pt q3 (.cells [Value.pointer (some ⟨l, 0, none⟩)].toArray 36 (0, 0)) :: MdAt m p md :: L)) :
    Calls Try.prog 49 #[.int .i64 s, .pointer (some ⟨q1, 0, none⟩), .pointer (some ⟨q2, 0, none⟩), .pointer (some ⟨q3, 0, none⟩)] w fun e w' => e = .returned (.int .i64 (bgU op us md s)) ∧ Sat E w' (pt l (.cells [Value.pointer (some ⟨m, 0, none⟩), .int .i64 o, .slice (some ⟨b, 0, none⟩) (ss : List Sg).length c].toArray 47 (0, 0)) :: OwnSl 104 3 (.slice (some ⟨b, 0, none⟩) (ss).length c) (ss).length ((ss).flatMap Sg.cells) :: pt q1 (.cells [Value.int .i64 op].toArray 3 (0, 0)) :: pt q2 (.cells [Value.int .i64 us].toArray 3 (0, 0)) :: pt q3 (.cells [Value.pointer (some ⟨l, 0, none⟩)].toArray 36 (0, 0)) :: MdAt m p md :: L) := by
  unfold bgU
  refine calls_of_g (n := 16) Try.func49 rfl rfl rfl ?_
  change G _ _ _ _ _ [(0, _), (1, _), (2, _), (3, _)] _
  refine g_seq ?_
  refine g_region ?_
  refine xV rfl rfl rfl (v_assign rfl) ?_
  refine rl_nil (g_le (xK (Fr.le_refl _)) ?_)
  refine g_seq (g_seq ?_)
  refine g_region ?_
  refine xV rfl rfl rfl (v_move rfl) ?_
  refine rl_v rfl rfl rfl (by exact sat_cell hw (by (repeat first | with_reducible exact xH | apply xT); first | done | fail) rfl) (v_load T.scal_3 rfl) ?_
  refine xV rfl rfl rfl (v_eql rfl rfl) ?_
  refine rl_nil (g_le (xK (xS rfl (xS rfl (Fr.le_refl _)))) ?_)
  refine g_cond rfl (fun h1 => ?_) (fun h1 => ?_)
  · try with_reducible exact ft_elim h1
    all_goals
      try replace h1 := of_decide_eq_true h1
      refine g_seq ?_
      refine g_region ?_
      refine rl_v rfl rfl rfl (by exact sat_cell hw (by (repeat first | with_reducible exact xH | apply xT); first | done | fail) rfl) (v_load T.scal_3 rfl) ?_
      refine xV rfl rfl rfl (v_assign rfl) ?_
      refine rl_nil (g_le (xK (xS rfl (Fr.le_refl _))) ?_)
      refine g_ret1 Try.func49 rfl rfl ?_
      rw [if_pos (by omega)]
      exact ⟨rfl, hw.xQ⟩
  · try with_reducible exact tf_elim h1
    all_goals
      try replace h1 := of_decide_eq_false h1
      refine g_skip (g_seq ?_)
      refine g_region ?_
      refine rl_v rfl rfl rfl (by exact sat_cell hw (by (repeat first | with_reducible exact xH | apply xT); first | done | fail) rfl) (v_load T.scal_36 rfl) ?_
      refine xV rfl rfl rfl (v_nilCheck rfl) ?_
      refine xV rfl rfl rfl (v_fieldAddr0 T.fld_47_0_0 rfl) ?_
      refine rl_v rfl rfl rfl (by exact sat_cell hw (by (repeat first | with_reducible exact xH | apply xT); first | done | fail) rfl) (v_load T.scal_24 rfl) ?_
      refine xV rfl rfl rfl (v_move rfl) ?_
      refine rl_k rfl (k_callf Try.func50 rfl rfl rfl rfl ?_)
      refine Calls.mono (mused_calls m p md s (hw.xP)) ?_
      rintro _ w ⟨rfl, hw⟩
      refine ⟨_, rfl, ?_⟩
      refine xV rfl rfl rfl (v_assign rfl) ?_
      refine rl_nil (g_le (xK (xS rfl (xS rfl (xS rfl (xS rfl (xS rfl (xS rfl (Fr.le_refl _)))))))) ?_)
      refine g_ret1 Try.func49 rfl rfl ?_
      rw [if_neg (by omega)]
      exact ⟨rfl, hw.xQ⟩
theorem bu_in {E : Env} {w : World} {L : List As} {l m p q1 q2 q3 : Nat} {op us : Int} {md : Md} (hw : Sat E w (pt q1 (.cells [Value.int .i64 op].toArray 3 (0, 0)) :: pt q2 (.cells [Value.int .i64 us].toArray 3 (0, 0)) :: pt q3 (.cells [Value.pointer (some ⟨l, 0, none⟩)].toArray 36 (0, 0)) :: MdAt m p md :: L)) : Sat E w (stars [pt q1 (.cells [Value.int .i64 op].toArray 3 (0, 0)), pt q2 (.cells [Value.int .i64 us].toArray 3 (0, 0)), pt q3 (.cells [Value.pointer (some ⟨l, 0, none⟩)].toArray 36 (0, 0)), MdAt m p md] :: L) := Sat.unflat (X := [_, _, _, _]) hw
theorem bu_out {E : Env} {w : World} {L : List As} {l m p q1 q2 q3 : Nat} {op us : Int} {md : Md} (hw : Sat E w (stars [pt q1 (.cells [Value.int .i64 op].toArray 3 (0, 0)), pt q2 (.cells [Value.int .i64 us].toArray 3 (0, 0)), pt q3 (.cells [Value.pointer (some ⟨l, 0, none⟩)].toArray 36 (0, 0)), MdAt m p md] :: L)) : Sat E w (pt q1 (.cells [Value.int .i64 op].toArray 3 (0, 0)) :: pt q2 (.cells [Value.int .i64 us].toArray 3 (0, 0)) :: pt q3 (.cells [Value.pointer (some ⟨l, 0, none⟩)].toArray 36 (0, 0)) :: MdAt m p md :: L) := Sat.flat (X := [_, _, _, _]) hw
theorem bgU_callsU {E : Env} {w : World} {L : List As} {l m b c p q1 q2 q3 : Nat} {o op us : Int} {ss : List Sg} {md : Md} (s : Int) (hw : Sat E w (pt l (.cells [Value.pointer (some ⟨m, 0, none⟩), .int .i64 o, .slice (some ⟨b, 0, none⟩) (ss : List Sg).length c].toArray 47 (0, 0)) :: OwnSl 104 3 (.slice (some ⟨b, 0, none⟩) (ss).length c) (ss).length ((ss).flatMap Sg.cells) :: stars [pt q1 (.cells [Value.int .i64 op].toArray 3 (0, 0)), pt q2 (.cells [Value.int .i64 us].toArray 3 (0, 0)), pt q3 (.cells [Value.pointer (some ⟨l, 0, none⟩)].toArray 36 (0, 0)), MdAt m p md] :: L)) :
    Calls Try.prog 49 #[.int .i64 s, .pointer (some ⟨q1, 0, none⟩), .pointer (some ⟨q2, 0, none⟩), .pointer (some ⟨q3, 0, none⟩)] w fun e w' => e = .returned (.int .i64 (bgU op us md s)) ∧ Sat E w' (pt l (.cells [Value.pointer (some ⟨m, 0, none⟩), .int .i64 o, .slice (some ⟨b, 0, none⟩) (ss : List Sg).length c].toArray 47 (0, 0)) :: OwnSl 104 3 (.slice (some ⟨b, 0, none⟩) (ss).length c) (ss).length ((ss).flatMap Sg.cells) :: stars [pt q1 (.cells [Value.int .i64 op].toArray 3 (0, 0)), pt q2 (.cells [Value.int .i64 us].toArray 3 (0, 0)), pt q3 (.cells [Value.pointer (some ⟨l, 0, none⟩)].toArray 36 (0, 0)), MdAt m p md] :: L) := by
  refine Calls.mono (bgU_calls (p := p) (L := L) s ((bu_out (hw.pick .at2)).xQ)) ?_
  rintro _ w ⟨rfl, hw⟩
  exact ⟨rfl, (bu_in (L := pt l (.cells [Value.pointer (some ⟨m, 0, none⟩), .int .i64 o, .slice (some ⟨b, 0, none⟩) (ss : List Sg).length c].toArray 47 (0, 0)) :: OwnSl 104 3 (.slice (some ⟨b, 0, none⟩) (ss).length c) (ss).length ((ss).flatMap Sg.cells) :: L) (hw.xQ)).xQ⟩
theorem bgU_bound {op us : Int} {md : Md} (hok : md.ok) (h0 : 0 ≤ us) (h1 : us ≤ md.used op) (s : Int) : 0 ≤ bgU op us md s ∧ bgU op us md s ≤ 1048576 := by
  have hb : ∀ s, 0 ≤ md.used s ∧ md.used s ≤ 1048576 := fun s => by
    unfold Md.used
    split
    · rename_i h
      have h2 := Md.seg_le hok h
      have h3 := hok.2.2.2.1
      omega
    · omega
  have h2 := hb op
  have h3 := hb s
  unfold bgU
  split <;> omega
def bg (u : Int → Int) (i : Nat) (x : Sg) : Sg := ⟨if x.live > 0 then 2 else 1, u i, x.live⟩
def upI (f : Nat → Sg → Sg) (ss : List Sg) (i : Nat) : List Sg := ss.mapIdx fun j x => if j < i then f j x else x
theorem upI_len (f : Nat → Sg → Sg) (ss : List Sg) (i : Nat) : (upI f ss i).length = ss.length := by simp [upI]
theorem upI_zero (f : Nat → Sg → Sg) (ss : List Sg) : upI f ss 0 = ss := by
  apply List.ext_getElem?; intro i; unfold upI; rw [List.getElem?_mapIdx]; cases ss[i]? <;> simp
theorem upI_all (f : Nat → Sg → Sg) (ss : List Sg) : upI f ss ss.length = ss.mapIdx f := by
  apply List.ext_getElem?; intro i; unfold upI; rw [List.getElem?_mapIdx, List.getElem?_mapIdx]
  cases h : ss[i]? with
  | none => rfl
  | some x => simp [(List.getElem?_eq_some_iff.1 h).1]
theorem upI_at {f : Nat → Sg → Sg} {ss : List Sg} {i : Nat} {x : Sg} (h : ss[i]? = some x) : (upI f ss i)[i]? = some x := by
  unfold upI; rw [List.getElem?_mapIdx, h]; simp
theorem upI_succ {f : Nat → Sg → Sg} {ss : List Sg} {i : Nat} {x : Sg} (h : ss[i]? = some x) : (upI f ss i).set i (f i x) = upI f ss (i + 1) := by
  have hi := (List.getElem?_eq_some_iff.1 h).1
  apply List.ext_getElem?; intro j
  by_cases hj : j = i
  · subst hj
    rw [List.getElem?_set_self (by rw [upI_len]; exact hi)]
    unfold upI; rw [List.getElem?_mapIdx, h]; simp
  · rw [List.getElem?_set_ne (fun e => hj e.symm)]
    unfold upI; rw [List.getElem?_mapIdx, List.getElem?_mapIdx]
    cases ss[j]? with
    | none => rfl
    | some y =>
      simp only [Option.map_some]
      by_cases h1 : j < i
      · rw [if_pos h1, if_pos (by omega)]
      · rw [if_neg h1, if_neg (by omega)]
/-- The segments of a log that was begun. -/
def begun (u : Int → Int) (op : Int) (ss : List Sg) (ps : List Pl) : List Sg := ss.mapIdx fun i _ => ⟨if (i : Int) = op then 3 else if liveOf ps i > 0 then 2 else 1, u i, liveOf ps i⟩
theorem begun_len (u : Int → Int) (op : Int) (ss : List Sg) (ps : List Pl) : (begun u op ss ps).length = ss.length := by simp [begun]
theorem ord_f32_r1_S14q : orderOfB Try.f32 1 [] (.k 0 (.k 1 (.k 2 (.v 3 (.k 4 (.k 5 (.k 6 (.k 7 (.k 8 (.k 9 (.k 10 .done))))))))))) = true := by kernel_rfl
theorem ord_f32_r4_S14q : orderOfB Try.f32 4 [16] (.k 0 (.k 1 (.k 2 (.v 3 (.v 4 (.a 5 (.a 6 (.v 7 (.k 8 (.k 9 (.k 10 (.k 11 (.k 12 (.a 14 (.a 15 (.k 13 (.k 16 (.k 17 (.k 18 .done))))))))))))))))))) = true := by kernel_rfl
theorem ord_f32_r16_S14q : orderOfB Try.f32 16 [7] (.v 0 (.a 1 (.a 2 (.v 3 (.k 4 (.k 5 (.k 6 (.k 7 .done)))))))) = true := by kernel_rfl
set_option maxHeartbeats 2000000 in
theorem begin_in {E : Env} {w : World} {L : List As} {l m p b c : Nat} {o op us : Int} {ss : List Sg} {md : Md} {A : As} {v : Value} {xs : List Pl} (hb : ss.length ≤ 4096) (hS : SrcA A v xs) (hok : ∀ p ∈ xs, p.len ≤ 9223372036854775807) (h0 : 0 ≤ op) (h1 : op < ss.length)
    (hw : Sat E w (pt l (.cells [Value.pointer (some ⟨m, 0, none⟩), .int .i64 o, .slice (some ⟨b, 0, none⟩) (ss : List Sg).length c].toArray 47 (0, 0)) :: OwnSl 104 3 (.slice (some ⟨b, 0, none⟩) (ss).length c) (ss).length ((ss).flatMap Sg.cells) :: MdAt m p md :: A :: L)) :
    Calls Try.prog 32 #[.pointer (some ⟨l, 0, none⟩), .int .i64 op, .int .i64 us, v] w fun e w' => ∃ r : Bool, e = .returned (.int .i64 (if r then 0 else 121)) ∧ (r = true ↔ 0 ≤ us ∧ us ≤ md.used op ∧ fitsP (bgU op us md) ss.length xs) ∧
      Sat E w' (pt l (.cells [Value.pointer (some ⟨m, 0, none⟩), .int .i64 ((if r then op else o)), .slice (some ⟨b, 0, none⟩) (((if r then begun (bgU op us md) op ss xs else ss)) : List Sg).length c].toArray 47 (0, 0)) :: OwnSl 104 3 (.slice (some ⟨b, 0, none⟩) (((if r then begun (bgU op us md) op ss xs else ss))).length c) (((if r then begun (bgU op us md) op ss xs else ss))).length ((((if r then begun (bgU op us md) op ss xs else ss))).flatMap Sg.cells) :: MdAt m p md :: A :: L) := by
  have hmok := (md_open (hw.xP (A := MdAt m p md))).1
  obtain ⟨a, c', rfl, hn, hat⟩ := id hS
  refine calls_of_g (n := 89) Try.func32 rfl rfl rfl ?_
  change G _ _ _ _ _ [(0, _), (1, _), (2, _), (3, _)] _
  refine g_seq ?_
  refine g_region ?_
  refine rl_k rfl (k_box hw rfl rfl rfl (fun bk0_0 w hw => ?_))
  refine rl_k rfl (k_box hw rfl rfl rfl (fun bk0_1 w hw => ?_))
  refine rl_k rfl (k_box hw rfl rfl rfl (fun bk0_2 w hw => ?_))
  refine xV rfl rfl rfl (v_assign rfl) ?_
  refine rl_nil (g_le (xK (xK (xK (xK (Fr.le_refl _))))) ?_)
  refine g_seq (g_seq ?_)
  refine g_drawR ord_f32_r1_S14q (by kernel_rfl) T.mixed hw (fun w hw => ?_)
  refine rs_kv 0 rfl rfl rfl rfl (by exact sat_cell hw (by (repeat first | with_reducible exact xH | apply xT); first | done | fail) rfl) (v_load T.scal_3 rfl) ?_
  refine rs_kv 1 rfl rfl rfl rfl (S' := fun _ => True) trivial (v_lssF rfl rfl (by omega)) ?_
  refine rs_kv 2 rfl rfl rfl rfl (S' := fun _ => True) trivial (v_move rfl) ?_
  refine rs_split (s := 14) rfl (fun g1_2 => ?_) (fun g1_2 => ?_)
  · try with_reducible exact ft_elim g1_2
    all_goals
      try replace g1_2 := of_decide_eq_true g1_2
      simp at g1_2
      omega
  · try with_reducible exact tf_elim g1_2
    all_goals
      try replace g1_2 := of_decide_eq_false g1_2
      refine rs_vg 3 rfl (met_on rfl rfl rfl rfl) rfl rfl (OpV.mono (v_load T.scal_3 rfl) (fun w hw => by exact sat_cell hw (by (repeat first | with_reducible exact xH | apply xT); first | done | fail) rfl)) (by exact hw) ?_
      refine rs_kvg 4 rfl (met_on rfl rfl rfl rfl) rfl rfl (by exact sat_cell hw (by (repeat first | with_reducible exact xH | apply xT); first | done | fail) rfl) (v_load T.scal_36 rfl) ?_
      refine rs_kvg 5 rfl (met_on rfl rfl rfl rfl) rfl rfl (S' := fun _ => True) trivial (v_nilCheck rfl) ?_
      refine rs_kvg 6 rfl (met_on rfl rfl rfl rfl) rfl rfl (S' := fun _ => True) trivial (v_fieldAddr0 T.fld_47_2_2 rfl) ?_
      refine rs_kvg 7 rfl (met_on rfl rfl rfl rfl) rfl rfl (by exact sat_cell hw (by (repeat first | with_reducible exact xH | apply xT); first | done | fail) rfl) (v_load T.scal_45 rfl) ?_
      refine rs_kvg 8 rfl (met_on rfl rfl rfl rfl) rfl rfl (S' := fun _ => True) trivial (v_lenSlice T.sl_45_104_3 rfl) ?_
      refine rs_kvg 9 rfl (met_on rfl rfl rfl rfl) rfl rfl (S' := fun _ => True) trivial (v_geqF rfl rfl (by omega)) ?_
      refine rs_kv 10 rfl rfl rfl rfl (S' := fun _ => True) trivial (v_pick_false rfl rfl) ?_
      refine rs_done (g_le (xK (xS rfl (xS rfl (xS rfl (xS rfl (xS rfl (xS rfl (xS rfl (xS rfl (xS rfl (xS rfl (xS rfl (Fr.le_refl _))))))))))))) ?_)
      refine g_cond_false rfl ?_
      refine g_skip (g_seq ?_)
      refine g_region ?_
      refine xV rfl rfl rfl (v_makeFunc rfl rfl) ?_
      refine xV rfl rfl rfl (v_assign rfl) ?_
      refine rl_nil (g_le (xK (xS rfl (Fr.le_refl _))) ?_)
      refine g_seq (g_seq ?_)
      refine g_drawR ord_f32_r4_S14q (by kernel_rfl) T.mixed hw (fun w hw => ?_)
      refine rs_kv 0 rfl rfl rfl rfl (by exact sat_cell hw (by (repeat first | with_reducible exact xH | apply xT); first | done | fail) rfl) (v_load T.scal_3 rfl) ?_
      refine rs_kv 1 rfl rfl rfl rfl (S' := fun _ => True) trivial (v_lss rfl rfl) ?_
      refine rs_kv 2 rfl rfl rfl rfl (S' := fun _ => True) trivial (v_move rfl) ?_
      refine rs_split (s := 26) rfl (fun g4_2 => ?_) (fun g4_2 => ?_)
      · try with_reducible exact ft_elim g4_2
        all_goals
          try replace g4_2 := of_decide_eq_true g4_2
          refine rs_voff 3 rfl (met_off rfl rfl rfl rfl rfl) rfl rfl (by exact hw) ?_
          refine rs_voff 4 rfl (met_off rfl rfl rfl rfl rfl) rfl rfl (by exact hw) ?_
          refine rs_aoff 5 rfl (met_off rfl rfl rfl rfl rfl) rfl rfl ?_
          refine rs_aoff 6 rfl (met_off rfl rfl rfl rfl rfl) rfl rfl ?_
          refine rs_voff 7 rfl (met_off rfl rfl rfl rfl rfl) rfl rfl (by exact hw) ?_
          refine rs_koff 8 rfl (met_off rfl rfl rfl rfl rfl) rfl rfl ?_
          refine rs_koff 9 rfl (met_off rfl rfl rfl rfl rfl) rfl rfl ?_
          refine rs_koff 10 rfl (met_off rfl rfl rfl rfl rfl) rfl rfl ?_
          refine rs_kv 11 rfl rfl rfl rfl (S' := fun _ => True) trivial (v_pick_true rfl rfl) ?_
          refine rs_kv 12 rfl rfl rfl rfl (S' := fun _ => True) trivial (v_move rfl) ?_
          refine rs_aoff 14 rfl (met_off rfl rfl rfl rfl rfl) rfl rfl ?_
          refine rs_aoff 15 rfl (met_off rfl rfl rfl rfl rfl) rfl rfl ?_
          refine rs_koff 13 rfl (met_off rfl rfl rfl rfl rfl) rfl rfl ?_
          refine rs_koff 16 rfl (met_off rfl rfl rfl rfl rfl) rfl rfl ?_
          refine rs_koff 17 rfl (met_off rfl rfl rfl rfl rfl) rfl rfl ?_
          refine rs_kv 18 rfl rfl rfl rfl (S' := fun _ => True) trivial (v_pick_true rfl rfl) ?_
          refine rs_done (g_le (xK (xS rfl (xS rfl (xS rfl (xS rfl (xS rfl (xS rfl (xS rfl (xS rfl (xS rfl (xS rfl (xS rfl (xS rfl (xS rfl (xS rfl (xS rfl (xS rfl (xS rfl (xS rfl (xS rfl (Fr.le_refl _))))))))))))))))))))) ?_)
          refine g_cond_true rfl ?_
          refine g_seq ?_
          refine g_region ?_
          refine xV rfl rfl rfl (v_assign rfl) ?_
          refine rl_nil (g_le (xK (Fr.le_refl _)) ?_)
          refine g_ret1 Try.func32 rfl rfl ?_
          exact ⟨false, rfl, ⟨fun h => absurd h (by simp), fun h => by omega⟩, (hw.xQ : Sat E w (pt l (.cells [Value.pointer (some ⟨m, 0, none⟩), .int .i64 o, .slice (some ⟨b, 0, none⟩) (ss : List Sg).length c].toArray 47 (0, 0)) :: OwnSl 104 3 (.slice (some ⟨b, 0, none⟩) (ss).length c) (ss).length ((ss).flatMap Sg.cells) :: MdAt m p md :: A :: L))⟩
      · try with_reducible exact tf_elim g4_2
        all_goals
          try replace g4_2 := of_decide_eq_false g4_2
          refine rs_vg 3 rfl (met_on rfl rfl rfl rfl) rfl rfl (OpV.mono (v_load T.scal_3 rfl) (fun w hw => by exact sat_cell hw (by (repeat first | with_reducible exact xH | apply xT); first | done | fail) rfl)) (by exact hw) ?_
          refine rs_vg 4 rfl (met_on rfl rfl rfl rfl) rfl rfl (OpV.mono (v_load T.scal_36 rfl) (fun w hw => by exact sat_cell hw (by (repeat first | with_reducible exact xH | apply xT); first | done | fail) rfl)) (by exact hw) ?_
          refine rs_ag 5 rfl (met_on rfl rfl rfl rfl) rfl rfl (v_nilCheck rfl) ?_
          refine rs_ag 6 rfl (met_on rfl rfl rfl rfl) rfl rfl (v_fieldAddr0 T.fld_47_0_0 rfl) ?_
          refine rs_vg 7 rfl (met_on rfl rfl rfl rfl) rfl rfl (OpV.mono (v_load T.scal_24 rfl) (fun w hw => by exact sat_cell hw (by (repeat first | with_reducible exact xH | apply xT); first | done | fail) rfl)) (by exact hw) ?_
          refine rs_kvg 8 rfl (met_on rfl rfl rfl rfl) rfl rfl (by exact sat_cell hw (by (repeat first | with_reducible exact xH | apply xT); first | done | fail) rfl) (v_load T.scal_3 rfl) ?_
          refine rs_kg 9 rfl (met_on rfl rfl rfl rfl) (k_callf Try.func50 rfl rfl rfl rfl ?_)
          refine Calls.mono (mused_calls m p md op (hw.xQ)) ?_
          rintro _ w ⟨rfl, hw⟩
          refine ⟨_, rfl, ?_⟩
          refine ⟨fun _ => (by exact Sat.sub hw (by (repeat (first | with_reducible exact Sub.refl _ | exact Sub.nil _ | (apply Sub.cons; focus ((repeat (first | with_reducible exact Pick.here _ | apply Pick.there)); (first | done | fail))) | with_reducible apply Sub.drop)); first | done | fail)), ?_⟩
          refine rs_kvg 10 rfl (met_on rfl rfl rfl rfl) rfl rfl (S' := fun _ => True) trivial (v_gtr rfl rfl) ?_
          refine rs_kv 11 rfl rfl rfl rfl (S' := fun _ => True) trivial (v_pick_false rfl rfl) ?_
          refine rs_kv 12 rfl rfl rfl rfl (S' := fun _ => True) trivial (v_move rfl) ?_
          refine rs_split (s := 36) rfl (fun g4_12 => ?_) (fun g4_12 => ?_)
          · try with_reducible exact ft_elim g4_12
            all_goals
              try replace g4_12 := of_decide_eq_true g4_12
              refine rs_aoff 14 rfl (met_off rfl rfl rfl rfl rfl) rfl rfl ?_
              refine rs_aoff 15 rfl (met_off rfl rfl rfl rfl rfl) rfl rfl ?_
              refine rs_koff 13 rfl (met_off rfl rfl rfl rfl rfl) rfl rfl ?_
              refine rs_koff 16 rfl (met_off rfl rfl rfl rfl rfl) rfl rfl ?_
              refine rs_koff 17 rfl (met_off rfl rfl rfl rfl rfl) rfl rfl ?_
              refine rs_kv 18 rfl rfl rfl rfl (S' := fun _ => True) trivial (v_pick_true rfl rfl) ?_
              refine rs_done (g_le (xK (xS rfl (xS rfl (xS rfl (xS rfl (xS rfl (xS rfl (xS rfl (xS rfl (xS rfl (xS rfl (xS rfl (xS rfl (xS rfl (xS rfl (xS rfl (xS rfl (xS rfl (xS rfl (xS rfl (xS rfl (Fr.le_refl _)))))))))))))))))))))) ?_)
              refine g_cond_true rfl ?_
              refine g_seq ?_
              refine g_region ?_
              refine xV rfl rfl rfl (v_assign rfl) ?_
              refine rl_nil (g_le (xK (Fr.le_refl _)) ?_)
              refine g_ret1 Try.func32 rfl rfl ?_
              exact ⟨false, rfl, ⟨fun h => absurd h (by simp), fun h => by omega⟩, (hw.xQ : Sat E w (pt l (.cells [Value.pointer (some ⟨m, 0, none⟩), .int .i64 o, .slice (some ⟨b, 0, none⟩) (ss : List Sg).length c].toArray 47 (0, 0)) :: OwnSl 104 3 (.slice (some ⟨b, 0, none⟩) (ss).length c) (ss).length ((ss).flatMap Sg.cells) :: MdAt m p md :: A :: L))⟩
          · try with_reducible exact tf_elim g4_12
            all_goals
              try replace g4_12 := of_decide_eq_false g4_12
              refine rs_ag 14 rfl (met_on rfl rfl rfl rfl) rfl rfl (v_move rfl) ?_
              refine rs_ag 15 rfl (met_on rfl rfl rfl rfl) rfl rfl (v_move rfl) ?_
              refine rs_kvg 13 rfl (met_on rfl rfl rfl rfl) rfl rfl (by exact sat_cell hw (by (repeat first | with_reducible exact xH | apply xT); first | done | fail) rfl) (v_load T.scal_36 rfl) ?_
              refine rs_kg 16 rfl (met_on rfl rfl rfl rfl) (k_callf Try.func46 rfl rfl rfl rfl ?_)
              refine Calls.mono (fits_calls (U := stars [pt bk0_1 (.cells [Value.int .i64 op].toArray 3 (0, 0)), pt bk0_2 (.cells [Value.int .i64 us].toArray 3 (0, 0)), pt bk0_0 (.cells [Value.pointer (some ⟨l, 0, none⟩)].toArray 36 (0, 0)), MdAt m p md]) (l := l) (m := m) (o := o) (b := b) (c := c) (ss := ss) (L := L) (bgU op us md) hb hS hok (fun s _ _ => bgU_bound hmok (by omega) (by omega) s) (fun s w M h0 h1 hw => CallsV.mk Try.func49 rfl rfl rfl (bgU_callsU s hw)) ((bu_in (q1 := bk0_1) (q2 := bk0_2) (q3 := bk0_0) (op := op) (us := us) (l := l) (m := m) (p := p) (md := md) (L := pt l (.cells [Value.pointer (some ⟨m, 0, none⟩), .int .i64 o, .slice (some ⟨b, 0, none⟩) (ss : List Sg).length c].toArray 47 (0, 0)) :: OwnSl 104 3 (.slice (some ⟨b, 0, none⟩) (ss).length c) (ss).length ((ss).flatMap Sg.cells) :: A :: L) (hw.xQ)).xQ)) ?_
              rintro _ w ⟨r, rfl, hr, hw⟩
              have hw := bu_out (hw.pick .at2)
              refine ⟨_, rfl, ?_⟩
              refine ⟨fun hn => absurd (by decide) hn, ?_⟩
              refine rs_kvg 17 rfl (met_on rfl rfl rfl rfl) rfl rfl (S' := fun _ => True) trivial (v_not rfl) ?_
              refine rs_kv 18 rfl rfl rfl rfl (S' := fun _ => True) trivial (v_pick_false rfl rfl) ?_
              refine rs_done (g_le (xK (xS rfl (xS rfl (xS rfl (xS rfl (xS rfl (xS rfl (xS rfl (xS rfl (xS rfl (xS rfl (xS rfl (xS rfl (xS rfl (xS rfl (xS rfl (xS rfl (xS rfl (xS rfl (xS rfl (xS rfl (Fr.le_refl _)))))))))))))))))))))) ?_)
              refine g_cond rfl (fun h2 => ?_) (fun h2 => ?_)
              · try with_reducible exact ft_elim h2
                all_goals
                  try replace h2 := of_decide_eq_true h2
                  have hr0 : r = false := by simpa using h2
                  subst hr0
                  refine g_seq ?_
                  refine g_region ?_
                  refine xV rfl rfl rfl (v_assign rfl) ?_
                  refine rl_nil (g_le (xK (Fr.le_refl _)) ?_)
                  refine g_ret1 Try.func32 rfl rfl ?_
                  exact ⟨false, rfl, ⟨fun h => absurd h (by simp), fun h => absurd (hr.2 h.2.2) (by simp)⟩, (hw.xQ : Sat E w (pt l (.cells [Value.pointer (some ⟨m, 0, none⟩), .int .i64 o, .slice (some ⟨b, 0, none⟩) (ss : List Sg).length c].toArray 47 (0, 0)) :: OwnSl 104 3 (.slice (some ⟨b, 0, none⟩) (ss).length c) (ss).length ((ss).flatMap Sg.cells) :: MdAt m p md :: A :: L))⟩
              · try with_reducible exact tf_elim h2
                all_goals
                  try replace h2 := of_decide_eq_false h2
                  have hr0 : r = true := by simpa using h2
                  subst hr0
                  refine g_skip (g_seq ?_)
                  have hfit := hr.1 rfl
                  have hbd := bgU_bound hmok (op := op) (us := us) (by omega) (by omega)
                  refine g_region ?_
                  refine rl_v rfl rfl rfl (by exact sat_cell hw (by (repeat first | with_reducible exact xH | apply xT); first | done | fail) rfl) (v_load T.scal_36 rfl) ?_
                  refine xV rfl rfl rfl (v_move rfl) ?_
                  refine rl_k rfl (k_callf Try.func47 rfl rfl rfl rfl ?_)
                  refine Calls.mono (account_calls (l := l) (m := m) (b := b) (c := c) (o := o) (ss := ss) hb hS (fun p hp => by have h9 := hfit.1 p hp; unfold within at h9; have h8 := hbd p.seg; omega) (hw.xQ)) ?_
                  rintro _ w ⟨rfl, hw⟩
                  refine ⟨_, rfl, ?_⟩
                  refine rl_nil (g_le (xS rfl (xS rfl (xS rfl (Fr.le_refl _)))) ?_)
                  refine g_seq ?_
                  have hll := lived_len ss xs
                  rw [hll] at hw
                  generalize hs1 : lived ss xs = s1 at hw hll
                  refine g_region ?_
                  refine rl_v rfl rfl rfl (by exact sat_cell hw (by (repeat first | with_reducible exact xH | apply xT); first | done | fail) rfl) (v_load T.scal_36 rfl) ?_
                  refine rl_v rfl rfl rfl (by exact sat_cell hw (by (repeat first | with_reducible exact xH | apply xT); first | done | fail) rfl) (v_load T.scal_3 rfl) ?_
                  refine xV rfl rfl rfl (v_nilCheck rfl) ?_
                  refine xV rfl rfl rfl (v_fieldAddr0 T.fld_47_1_1 rfl) ?_
                  refine rl_k rfl (k_store hw T.scal_3 rfl rfl rfl (by (repeat first | with_reducible exact xH | apply xT); first | done | fail) rfl (by simp only [List.set, Int.reduceToNat, Nat.reduceMul, Nat.reduceAdd]; rfl) (fun w hw => ?_))
                  refine rl_nil (g_le (xS rfl (xS rfl (xS rfl (xS rfl (Fr.le_refl _))))) ?_)
                  refine g_seq (g_seq ?_)
                  refine g_region ?_
                  refine rl_v rfl rfl rfl (by exact sat_cell hw (by (repeat first | with_reducible exact xH | apply xT); first | done | fail) rfl) (v_load T.scal_36 rfl) ?_
                  refine xV rfl rfl rfl (v_nilCheck rfl) ?_
                  refine xV rfl rfl rfl (v_fieldAddr0 T.fld_47_2_2 rfl) ?_
                  refine rl_v rfl rfl rfl (by exact sat_cell hw (by (repeat first | with_reducible exact xH | apply xT); first | done | fail) rfl) (v_load T.scal_45 rfl) ?_
                  refine xV rfl rfl rfl (v_lenSlice T.sl_45_104_3 rfl) ?_
                  refine xV rfl rfl rfl (v_move rfl) ?_
                  refine rl_nil (g_le (xK (xK (xS rfl (xS rfl (xS rfl (xS rfl (Fr.le_refl _))))))) ?_)
                  refine g_block ?_
                  refine g_loopC (σ := Nat) (fun C x => (55, .int .i64 (x : Nat)) :: C) [(4, _), (5, _), (8, _), (9, _), (54, _)] (by repeat (first | exact Fr.le_nil _ | refine Fr.le_cons rfl ?_)) (fun z w => z ≤ ss.length ∧ Sat E w (pt l (.cells [Value.pointer (some ⟨m, 0, none⟩), .int .i64 op, .slice (some ⟨b, 0, none⟩) ss.length c].toArray 47 (0, 0)) :: OwnSl 104 3 (.slice (some ⟨b, 0, none⟩) ss.length c) ss.length ((upI (bg (bgU op us md)) s1 z).flatMap Sg.cells) :: pt bk0_1 (.cells [Value.int .i64 op].toArray 3 (0, 0)) :: pt bk0_2 (.cells [Value.int .i64 us].toArray 3 (0, 0)) :: pt bk0_0 (.cells [Value.pointer (some ⟨l, 0, none⟩)].toArray 36 (0, 0)) :: MdAt m p md :: A :: L)) (fun z => ss.length - z) ?_ 0 (by repeat (first | exact Fr.le_nil _ | refine Fr.le_cons rfl ?_)) ⟨by simp, by rw [upI_zero]; exact hw.xQ⟩
                  rintro i w ⟨hi, hw⟩ ih
                  refine g_seq ?_
                  refine g_region ?_
                  refine xV rfl rfl rfl (v_lss rfl rfl) ?_
                  refine rl_nil (g_le (xK (Fr.le_refl _)) ?_)
                  refine g_seq ?_
                  refine g_cond rfl (fun h3 => ?_) (fun h3 => ?_)
                  · try with_reducible exact ft_elim h3
                    all_goals
                      try replace h3 := of_decide_eq_true h3
                      refine g_skip (g_seq (g_block (g_seq ?_)))
                      refine g_region ?_
                      refine xV rfl rfl rfl (v_move rfl) ?_
                      refine xV rfl rfl rfl (v_assign rfl) ?_
                      refine rl_nil (g_le (xK (xK (Fr.le_refl _))) ?_)
                      refine g_seq ?_
                      have hlt : i < ss.length := by omega
                      have hx : s1[i]? = some s1[i] := List.getElem?_eq_getElem (by omega)
                      generalize s1[i] = x at hx
                      have hst0 : 0 + (i : Int).toNat * 3 + 0 < ((upI (bg (bgU op us md)) s1 i).flatMap Sg.cells).length := by rw [sg_len, upI_len]; omega
                      have hst1 : 0 + (i : Int).toNat * 3 + 1 < (((upI (bg (bgU op us md)) s1 i).flatMap Sg.cells).set (0 + (i : Int).toNat * 3 + 0) (Value.int .i64 1)).length := by rw [List.length_set, sg_len, upI_len]; omega
                      refine g_region ?_
                      refine rl_v rfl rfl rfl (by exact sat_cell hw (by (repeat first | with_reducible exact xH | apply xT); first | done | fail) rfl) (v_load T.scal_36 rfl) ?_
                      refine xV rfl rfl rfl (v_nilCheck rfl) ?_
                      refine xV rfl rfl rfl (v_fieldAddr0 T.fld_47_2_2 rfl) ?_
                      refine rl_v rfl rfl rfl (by exact sat_cell hw (by (repeat first | with_reducible exact xH | apply xT); first | done | fail) rfl) (v_load T.scal_45 rfl) ?_
                      refine xV rfl rfl rfl (v_move rfl) ?_
                      refine xV rfl rfl rfl (v_indexAddr T.sl_45_104_3 rfl rfl (by omega) (by omega)) ?_
                      refine xV rfl rfl rfl (v_assign rfl) ?_
                      refine rl_nil (g_le (xK (xK (xK (xK (xK (xK (xK (Fr.le_refl _)))))))) ?_)
                      refine g_seq ?_
                      refine g_region ?_
                      refine xV rfl rfl rfl (v_move rfl) ?_
                      refine xV rfl rfl rfl (v_move rfl) ?_
                      refine xV rfl rfl rfl (v_move rfl) ?_
                      refine xV rfl rfl rfl (v_move rfl) ?_
                      refine rl_k rfl (k_callv rfl rfl rfl ?_)
                      have hui := upI_len (bg (bgU op us md)) s1 i
                      have hw : Sat E w (pt l (.cells [Value.pointer (some ⟨m, 0, none⟩), .int .i64 op, .slice (some ⟨b, 0, none⟩) ((upI (bg (bgU op us md)) s1 i) : List Sg).length c].toArray 47 (0, 0)) :: OwnSl 104 3 (.slice (some ⟨b, 0, none⟩) ((upI (bg (bgU op us md)) s1 i)).length c) ((upI (bg (bgU op us md)) s1 i)).length (((upI (bg (bgU op us md)) s1 i)).flatMap Sg.cells) :: pt bk0_1 (.cells [Value.int .i64 op].toArray 3 (0, 0)) :: pt bk0_2 (.cells [Value.int .i64 us].toArray 3 (0, 0)) :: pt bk0_0 (.cells [Value.pointer (some ⟨l, 0, none⟩)].toArray 36 (0, 0)) :: MdAt m p md :: A :: L) := by rw [hui, hll]; exact hw
                      refine CallsV.mk Try.func49 rfl rfl rfl (Calls.mono (bgU_calls (i : Int) hw) ?_)
                      rintro _ w ⟨rfl, hw⟩
                      rw [hui, hll] at hw
                      refine ⟨_, rfl, ?_⟩
                      refine xV rfl rfl rfl (v_nilCheck rfl) ?_
                      refine xV rfl rfl rfl (v_fieldAddr T.fld_104_0_0 rfl) ?_
                      refine rl_k rfl (k_storeOwn hw T.scal_3 rfl rfl rfl (by (repeat first | with_reducible exact xH | apply xT); first | done | fail) (by assumption) (fun w hw => ?_))
                      refine xV rfl rfl rfl (v_nilCheck rfl) ?_
                      refine xV rfl rfl rfl (v_fieldAddr T.fld_104_1_1 rfl) ?_
                      refine rl_k rfl (k_storeOwn hw T.scal_3 rfl rfl rfl (by (repeat first | with_reducible exact xH | apply xT); first | done | fail) (by assumption) (fun w hw => ?_))
                      refine rl_nil (g_le (xK (xK (xK (xK (xK (xK (xK (xK (xK (Fr.le_refl _)))))))))) ?_)
                      refine g_seq ?_
                      rw [show 0 + (i : Int).toNat * 3 + 0 = i * 3 + 0 by omega, show 0 + (i : Int).toNat * 3 + 1 = i * 3 + 1 by omega, sg_set (y := ⟨1, x.used, x.live⟩) (upI_at hx) (by omega) rfl, sg_set (x := ⟨1, x.used, x.live⟩) (y := ⟨1, bgU op us md i, x.live⟩) (by rw [List.getElem?_set_self (by rw [upI_len]; omega)]) (by omega) rfl, List.set_set] at hw
                      have hset : ((upI (bg (bgU op us md)) s1 i).set i ⟨1, bgU op us md i, x.live⟩)[i]? = some ⟨1, bgU op us md i, x.live⟩ := by rw [List.getElem?_set_self (by rw [upI_len]; omega)]
                      have hsub := subAt_flat (f := Sg.cells) (sz := 3) (fun _ => rfl) hset
                      rw [show 0 + i * 3 = 0 + (i : Int).toNat * 3 by omega] at hsub
                      dsimp only [Sg.cells] at hsub
                      refine g_region ?_
                      refine xV rfl rfl rfl (v_move rfl) ?_
                      refine xV rfl rfl rfl (v_nilCheck rfl) ?_
                      refine xV rfl rfl rfl (v_fieldAddr T.fld_104_2_2 rfl) ?_
                      refine rl_v rfl rfl rfl (by exact own_at hw (by (repeat first | with_reducible exact xH | apply xT); first | done | fail) (by assumption) rfl) (v_load T.scal_3 rfl) ?_
                      refine xV rfl rfl rfl (v_gtr rfl rfl) ?_
                      refine rl_nil (g_le (xK (xK (xK (xK (xK (Fr.le_refl _)))))) ?_)
                      refine g_cond rfl (fun h4 => ?_) (fun h4 => ?_)
                      · try with_reducible exact ft_elim h4
                        all_goals
                          try replace h4 := of_decide_eq_true h4
                          have hst2 : 0 + (i : Int).toNat * 3 + 0 < (((upI (bg (bgU op us md)) s1 i).set i ⟨1, bgU op us md i, x.live⟩).flatMap Sg.cells).length := by rw [sg_len, List.length_set, upI_len]; omega
                          refine g_region ?_
                          refine xV rfl rfl rfl (v_move rfl) ?_
                          refine xV rfl rfl rfl (v_nilCheck rfl) ?_
                          refine xV rfl rfl rfl (v_fieldAddr T.fld_104_0_0 rfl) ?_
                          refine rl_k rfl (k_storeOwn hw T.scal_3 rfl rfl rfl (by (repeat first | with_reducible exact xH | apply xT); first | done | fail) (by assumption) (fun w hw => ?_))
                          refine rl_nil (g_le (xK (xK (xK (Fr.le_refl _)))) ?_)
                          refine g_inBlock ?_
                          refine g_region ?_
                          refine xV rfl rfl rfl (v_add rfl rfl (by omega)) ?_
                          refine xV rfl rfl rfl (v_move rfl) ?_
                          refine rl_nil (g_le (xK (xK (Fr.le_refl _))) ?_)
                          have hf : bg (bgU op us md) i x = ⟨2, bgU op us md i, x.live⟩ := by unfold bg; rw [if_pos h4]
                          rw [show 0 + (i : Int).toNat * 3 + 0 = i * 3 + 0 by omega, sg_set (y := ⟨2, bgU op us md i, x.live⟩) hset (by omega) rfl, List.set_set, ← hf, upI_succ hx] at hw
                          exact g_le (by repeat (first | exact Fr.le_nil _ | refine Fr.le_cons rfl ?_)) (ih (i + 1) w ⟨by omega, hw.xQ⟩ (by omega))
                      · try with_reducible exact tf_elim h4
                        all_goals
                          try replace h4 := of_decide_eq_false h4
                          refine g_skip (g_inBlock ?_)
                          refine g_region ?_
                          refine xV rfl rfl rfl (v_add rfl rfl (by omega)) ?_
                          refine xV rfl rfl rfl (v_move rfl) ?_
                          refine rl_nil (g_le (xK (xK (Fr.le_refl _))) ?_)
                          have hf : bg (bgU op us md) i x = ⟨1, bgU op us md i, x.live⟩ := by unfold bg; rw [if_neg h4]
                          rw [← hf, upI_succ hx] at hw
                          exact g_le (by repeat (first | exact Fr.le_nil _ | refine Fr.le_cons rfl ?_)) (ih (i + 1) w ⟨by omega, hw.xQ⟩ (by omega))
                  · try with_reducible exact tf_elim h3
                    all_goals
                      try replace h3 := of_decide_eq_false h3
                      refine g_exit rfl (g_seq ?_)
                      obtain rfl : i = ss.length := by omega
                      rw [← hll, upI_all, hll] at hw
                      have hl2 : (s1.mapIdx (bg (bgU op us md))).length = ss.length := by rw [List.length_mapIdx, hll]
                      obtain ⟨y, hy⟩ : ∃ y, (s1.mapIdx (bg (bgU op us md)))[op.toNat]? = some y := ⟨_, List.getElem?_eq_getElem (by omega)⟩
                      have hst4 : 0 + op.toNat * 3 + 0 < ((s1.mapIdx (bg (bgU op us md))).flatMap Sg.cells).length := by rw [sg_len]; omega
                      refine g_drawR ord_f32_r16_S14q (by kernel_rfl) T.mixed hw (fun w hw => ?_)
                      refine rs_v 0 rfl rfl rfl rfl (OpV.mono (v_load T.scal_36 rfl) (fun w hw => by exact sat_cell hw (by (repeat first | with_reducible exact xH | apply xT); first | done | fail) rfl)) (by exact hw) ?_
                      refine rs_a 1 rfl rfl rfl rfl (v_nilCheck rfl) ?_
                      refine rs_a 2 rfl rfl rfl rfl (v_fieldAddr0 T.fld_47_2_2 rfl) ?_
                      refine rs_v 3 rfl rfl rfl rfl (OpV.mono (v_load T.scal_45 rfl) (fun w hw => by exact sat_cell hw (by (repeat first | with_reducible exact xH | apply xT); first | done | fail) rfl)) (by exact hw) ?_
                      refine rs_kv 4 rfl rfl rfl rfl (by exact sat_cell hw (by (repeat first | with_reducible exact xH | apply xT); first | done | fail) rfl) (v_load T.scal_3 rfl) ?_
                      refine rs_kv 5 rfl rfl rfl rfl (S' := fun _ => True) trivial (v_indexAddr T.sl_45_104_3 rfl rfl (by omega) (by omega)) ?_
                      refine rs_kv 6 rfl rfl rfl rfl (S' := fun _ => True) trivial (v_fieldAddr T.fld_104_0_0 rfl) ?_
                      refine rs_k 7 rfl rfl (k_storeOwn hw T.scal_3 rfl rfl rfl (by (repeat first | with_reducible exact xH | apply xT); first | done | fail) (by assumption) (fun w hw => ?_))
                      refine ⟨fun hn => absurd (by decide) hn, ?_⟩
                      refine rs_done (g_le (xS rfl (xS rfl (xS rfl (xS rfl (xS rfl (xS rfl (xS rfl (Fr.le_refl _)))))))) ?_)
                      refine g_seq ?_
                      refine g_region ?_
                      refine xV rfl rfl rfl (v_assign rfl) ?_
                      refine rl_nil (g_le (xK (Fr.le_refl _)) ?_)
                      refine g_ret1 Try.func32 rfl rfl ?_
                      refine ⟨true, rfl, ⟨fun _ => ⟨by omega, by omega, hfit⟩, fun _ => rfl⟩, ?_⟩
                      rw [show 0 + op.toNat * 3 + 0 = op.toNat * 3 + 0 by omega, sg_set (y := ⟨3, y.used, y.live⟩) hy (by omega) rfl] at hw
                      have hbg : (s1.mapIdx (bg (bgU op us md))).set op.toNat ⟨3, y.used, y.live⟩ = begun (bgU op us md) op ss xs := by
                        subst hs1
                        apply List.ext_getElem?
                        intro j
                        unfold begun
                        rw [List.getElem?_mapIdx]
                        by_cases hj : j = op.toNat
                        · subst hj
                          rw [List.getElem?_set_self (by omega)]
                          rw [List.getElem?_mapIdx] at hy
                          obtain ⟨z, hz, rfl⟩ := Option.map_eq_some_iff.1 hy
                          unfold lived at hz
                          rw [List.getElem?_mapIdx] at hz
                          obtain ⟨z2, hz2, rfl⟩ := Option.map_eq_some_iff.1 hz
                          rw [hz2, Option.map_some, if_pos (by omega)]; rfl
                        · rw [List.getElem?_set_ne (fun h => hj h.symm), List.getElem?_mapIdx]
                          unfold lived
                          rw [List.getElem?_mapIdx, Option.map_map]
                          cases ss[j]? with
                          | none => rfl
                          | some z => simp only [Option.map_some, Function.comp, bg]; rw [if_neg (show ¬ ((j : Nat) : Int) = op by omega)]
                      rw [hbg] at hw
                      have hbl := begun_len (bgU op us md) op ss xs
                      simp only [if_true]
                      rw [hbl]
                      exact hw.xQ
end Go.Proofs.Ytipdklbedpkobaa
