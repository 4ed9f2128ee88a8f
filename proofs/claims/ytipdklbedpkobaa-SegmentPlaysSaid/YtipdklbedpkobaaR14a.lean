/-
  The document's medium (letheref12), for the log.
-/
import Derived.Test.YtipdklbedpkobaaS14q
namespace Go.Proofs.Ytipdklbedpkobaa
set_option maxRecDepth 8000
set_option linter.unusedSimpArgs false
set_option linter.unusedVariables false
open Go Xe Go.Lib
def RmAt (m p : Nat) (s : Md) : As := ex fun a => ex fun c => ex fun pv => stars [pt m (.cells [Value.pointer (some ⟨p, 0, none⟩), .int .i64 s.size, .slice a s.segs.length c, pv].toArray 116 (0, 0)), OwnSl 9 1 (.slice a s.segs.length c) s.segs.length (s.segs.map Value.string), OwnSl 128 3 pv s.past.length (s.past.flatMap wrCells)]
theorem rm_open {E : Env} {w : World} {L : List As} {m p : Nat} {s : Md} (h : Sat E w (RmAt m p s :: L)) : ∃ a c pa pc, (0 < s.segs.length → ∃ g, a = some ⟨g, 0, none⟩) ∧ Sat E w (pt m (.cells [Value.pointer (some ⟨p, 0, none⟩), .int .i64 s.size, .slice a s.segs.length c, .slice pa s.past.length pc].toArray 116 (0, 0)) :: OwnSl 9 1 (.slice a s.segs.length c) s.segs.length (s.segs.map Value.string) :: OwnSl 128 3 (.slice pa s.past.length pc) s.past.length (s.past.flatMap wrCells) :: L) := by
  obtain ⟨a, h⟩ := h.ex
  obtain ⟨c, h⟩ := h.ex
  obtain ⟨pv, h⟩ := h.ex
  have h := Sat.flat (X := [_, _, _]) h
  dsimp only [List.append, List.cons_append, List.nil_append] at h
  obtain ⟨pa, pc, rfl, _, _, _⟩ := (h.pick .at2).own_shape
  obtain ⟨_, _, he, _, _, ha⟩ := (h.pick .at1).own_shape
  cases he
  exact ⟨a, c, pa, pc, ha, h⟩
theorem rm_close {E : Env} {w : World} {L : List As} {m p : Nat} {s : Md} {a : Option Addr} {c n k : Nat} {z : Int} {pv : Value} {ps xs : List Value} (hn : n = s.segs.length) (hk : k = s.past.length) (hp : ps = s.past.flatMap wrCells) (hx : xs = s.segs.map Value.string) (hz : z = s.size)
    (h : Sat E w (pt m (.cells [Value.pointer (some ⟨p, 0, none⟩), .int .i64 z, .slice a n c, pv].toArray 116 (0, 0)) :: OwnSl 9 1 (.slice a n c) n xs :: OwnSl 128 3 pv k ps :: L)) : Sat E w (RmAt m p s :: L) := by
  subst hn; subst hk; subst hp; subst hx; subst hz
  exact .mk_ex a (.mk_ex c (.mk_ex pv (Sat.unflat (X := [_, _, _]) h)))
theorem ris_calls {E : Env} {w : World} {L : List As} {m p : Nat} {s : Md} (i : Int) (hw : Sat E w (RmAt m p s :: L)) :
    Calls Try.prog 73 #[.pointer (some ⟨m, 0, none⟩), .int .i64 i] w fun e w' => e = .returned (.bool (decide (s.is i))) ∧ Sat E w' (RmAt m p s :: L) := by
  obtain ⟨a, c, pa, pc, ha, hw⟩ := rm_open hw
  refine calls_of_g (n := 16) Try.func73 rfl rfl rfl ?_
  change G _ _ _ _ _ [(0, _), (1, _)] _
  refine g_seq ?_
  refine g_region ?_
  refine xV rfl rfl rfl (v_assign rfl) ?_
  refine rl_nil (g_le (xK (Fr.le_refl _)) ?_)
  refine g_seq ?_
  refine g_region ?_
  refine xV rfl rfl rfl (v_move rfl) ?_
  refine xV rfl rfl rfl (v_geq rfl rfl) ?_
  refine xV rfl rfl rfl (v_move rfl) ?_
  refine rl_split (s := 7) rfl (fun g1_2 => ?_) (fun g1_2 => ?_)
  · try with_reducible exact ft_elim g1_2
    all_goals
      try replace g1_2 := of_decide_eq_true g1_2
      refine rl_vg (met_on rfl rfl rfl rfl) rfl rfl (S := fun _ => True) trivial (v_move rfl) ?_
      refine rl_vg (met_on rfl rfl rfl rfl) rfl rfl (S := fun _ => True) trivial (v_move rfl) ?_
      refine rl_vg (met_on rfl rfl rfl rfl) rfl rfl (S := fun _ => True) trivial (v_nilCheck rfl) ?_
      refine rl_vg (met_on rfl rfl rfl rfl) rfl rfl (S := fun _ => True) trivial (v_fieldAddr0 T.fld_116_2_2 rfl) ?_
      refine rl_vg (met_on rfl rfl rfl rfl) rfl rfl (by exact sat_cell hw (by (repeat first | with_reducible exact xH | apply xT); first | done | fail) rfl) (v_load T.scal_54 rfl) ?_
      refine rl_vg (met_on rfl rfl rfl rfl) rfl rfl (S := fun _ => True) trivial (v_lenSlice T.sl_54_9_1 rfl) ?_
      refine rl_vg (met_on rfl rfl rfl rfl) rfl rfl (S := fun _ => True) trivial (v_lss rfl rfl) ?_
      refine xV rfl rfl rfl (v_pick_true rfl rfl) ?_
      refine xV rfl rfl rfl (v_assign rfl) ?_
      refine rl_nil (g_le (xK (xS rfl (xS rfl (xS rfl (xS rfl (xS rfl (xS rfl (xS rfl (xS rfl (xS rfl (xS rfl (xS rfl (xS rfl (Fr.le_refl _)))))))))))))) ?_)
      refine g_ret1 Try.func73 rfl rfl ?_
      refine ⟨?_, rm_close rfl rfl rfl rfl rfl hw⟩; congr 2; exact decide_eq_decide.2 ⟨fun h => ⟨by omega, by omega⟩, fun h => by have := h.2; omega⟩
  · try with_reducible exact tf_elim g1_2
    all_goals
      try replace g1_2 := of_decide_eq_false g1_2
      refine rl_off (met_off rfl rfl rfl rfl rfl) rfl rfl ?_
      refine rl_off (met_off rfl rfl rfl rfl rfl) rfl rfl ?_
      refine rl_off (met_off rfl rfl rfl rfl rfl) rfl rfl ?_
      refine rl_off (met_off rfl rfl rfl rfl rfl) rfl rfl ?_
      refine rl_off (met_off rfl rfl rfl rfl rfl) rfl rfl ?_
      refine rl_off (met_off rfl rfl rfl rfl rfl) rfl rfl ?_
      refine rl_off (met_off rfl rfl rfl rfl rfl) rfl rfl ?_
      refine xV rfl rfl rfl (v_pick_false rfl rfl) ?_
      refine xV rfl rfl rfl (v_assign rfl) ?_
      refine rl_nil (g_le (xK (xS rfl (xS rfl (xS rfl (xS rfl (xS rfl (xS rfl (xS rfl (xS rfl (xS rfl (xS rfl (xS rfl (xS rfl (Fr.le_refl _)))))))))))))) ?_)
      refine g_ret1 Try.func73 rfl rfl ?_
      rw [decide_eq_false (show ¬ s.is i from fun h => by have h1 := h.1; have h2 := h.2; omega)]; exact ⟨rfl, rm_close rfl rfl rfl rfl rfl hw⟩
theorem rused_calls {E : Env} {w : World} {L : List As} {m p : Nat} {s : Md} (i : Int) (hw : Sat E w (RmAt m p s :: L)) :
    Calls Try.prog 64 #[.pointer (some ⟨m, 0, none⟩), .int .i64 i] w fun e w' => e = .returned (.int .i64 (s.used i)) ∧ Sat E w' (RmAt m p s :: L) := by
  unfold Md.used
  by_cases hi : s.is i
  · rw [if_pos hi]
    refine calls_of_g (n := 17) Try.func64 rfl rfl rfl ?_
    change G _ _ _ _ _ [(0, _), (1, _)] _
    refine g_seq ?_
    refine g_region ?_
    refine xV rfl rfl rfl (v_assign rfl) ?_
    refine rl_nil (g_le (xK (Fr.le_refl _)) ?_)
    refine g_seq (g_seq ?_)
    refine g_region ?_
    refine xV rfl rfl rfl (v_move rfl) ?_
    refine xV rfl rfl rfl (v_move rfl) ?_
    refine rl_k rfl (k_callf Try.func73 rfl rfl rfl rfl ?_)
    refine Calls.mono (ris_calls i hw) ?_
    rw [decide_eq_true hi]
    rintro _ w ⟨rfl, hw⟩
    refine ⟨_, rfl, ?_⟩
    refine xV rfl rfl rfl (v_not rfl) ?_
    refine rl_nil (g_le (xK (xS rfl (xS rfl (xS rfl (Fr.le_refl _))))) ?_)
    refine g_cond_false rfl ?_
    refine g_skip (g_seq ?_)
    obtain ⟨a, c, pa, pc, ha, hw⟩ := rm_open hw
    have hi1 := hi.1
    have hi2 := hi.2
    obtain ⟨g, rfl⟩ := ha (by omega)
    have hx : (s.segs.map Value.string)[0 + i.toNat * 1]? = some (.string (s.seg i)) := by rw [show 0 + i.toNat * 1 = i.toNat by omega, List.getElem?_map, Md.seg_at hi]; rfl
    refine g_region ?_
    refine xV rfl rfl rfl (v_move rfl) ?_
    refine xV rfl rfl rfl (v_nilCheck rfl) ?_
    refine xV rfl rfl rfl (v_fieldAddr0 T.fld_116_2_2 rfl) ?_
    refine rl_v rfl rfl rfl (by exact sat_cell hw (by (repeat first | with_reducible exact xH | apply xT); first | done | fail) rfl) (v_load T.scal_54 rfl) ?_
    refine xV rfl rfl rfl (v_move rfl) ?_
    refine xV rfl rfl rfl (v_indexAddr T.sl_54_9_1 rfl rfl (by omega) (by omega)) ?_
    refine rl_v rfl rfl rfl (by exact own_cell hw (by (repeat first | with_reducible exact xH | apply xT); first | done | fail) (by first | rfl | assumption)) (v_load T.scal_9 rfl) ?_
    refine xV rfl rfl rfl (v_lenStr T.str_9 rfl) ?_
    refine xV rfl rfl rfl (v_assign rfl) ?_
    refine rl_nil (g_le (xK (xS rfl (xS rfl (xS rfl (xS rfl (xS rfl (xS rfl (xS rfl (xS rfl (Fr.le_refl _)))))))))) ?_)
    refine g_ret1 Try.func64 rfl rfl ?_
    exact ⟨rfl, rm_close rfl rfl rfl rfl rfl hw⟩
  · rw [if_neg hi]
    refine calls_of_g (n := 17) Try.func64 rfl rfl rfl ?_
    change G _ _ _ _ _ [(0, _), (1, _)] _
    refine g_seq ?_
    refine g_region ?_
    refine xV rfl rfl rfl (v_assign rfl) ?_
    refine rl_nil (g_le (xK (Fr.le_refl _)) ?_)
    refine g_seq (g_seq ?_)
    refine g_region ?_
    refine xV rfl rfl rfl (v_move rfl) ?_
    refine xV rfl rfl rfl (v_move rfl) ?_
    refine rl_k rfl (k_callf Try.func73 rfl rfl rfl rfl ?_)
    refine Calls.mono (ris_calls i hw) ?_
    rw [decide_eq_false hi]
    rintro _ w ⟨rfl, hw⟩
    refine ⟨_, rfl, ?_⟩
    refine xV rfl rfl rfl (v_not rfl) ?_
    refine rl_nil (g_le (xK (xS rfl (xS rfl (xS rfl (Fr.le_refl _))))) ?_)
    refine g_cond_true rfl ?_
    refine g_seq ?_
    refine g_region ?_
    refine xV rfl rfl rfl (v_assign rfl) ?_
    refine rl_nil (g_le (xK (Fr.le_refl _)) ?_)
    refine g_ret1 Try.func64 rfl rfl ?_
    exact ⟨rfl, hw⟩
theorem ord_f59_r10_R14a : orderOfB Try.f59 10 [17] (.a 0 (.a 1 (.a 2 (.a 4 (.a 5 (.a 6 (.a 7 (.a 9 (.a 12 (.a 14 (.v 3 (.k 8 (.k 10 (.k 11 (.k 13 (.k 15 (.k 16 (.k 17 .done)))))))))))))))))) = true := by kernel_rfl
set_option maxHeartbeats 2000000 in
theorem rwrite_calls {E : Env} {w : World} {L : List As} {m p : Nat} {s : Md} {pw : Pw} (i at_ : Int) (v : ByteArray) (hok : s.ok) (hpw : pw.ok) (hpl : s.past.length ≤ 4000000000000) (hw : Sat E w (RmAt m p s :: RwAt p pw.ref :: L)) :
    Calls Try.prog 59 #[.pointer (some ⟨m, 0, none⟩), .int .i64 i, .int .i64 at_, .string v] w fun e w' => e = .returned (.int .i64 (s.write pw i at_ v).1) ∧ Sat E w' (RmAt m p (s.write pw i at_ v).2.1 :: RwAt p (s.write pw i at_ v).2.2.ref :: L) := by
  unfold Md.write
  by_cases hi : s.is i
  · rw [if_pos hi]
    obtain ⟨hm1, hm2, hm3, hm4, _⟩ := id hok
    have hi1 := hi.1
    have hi2 := hi.2
    have hsl := Md.seg_le hok hi
    refine calls_of_g (n := 75) Try.func59 rfl rfl rfl ?_
    change G _ _ _ _ _ [(0, _), (1, _), (2, _), (3, _)] _
    refine g_seq ?_
    refine g_region ?_
    refine xV rfl rfl rfl (v_assign rfl) ?_
    refine rl_nil (g_le (xK (Fr.le_refl _)) ?_)
    refine g_seq (g_seq ?_)
    refine g_region ?_
    refine xV rfl rfl rfl (v_move rfl) ?_
    refine xV rfl rfl rfl (v_move rfl) ?_
    refine rl_k rfl (k_callf Try.func73 rfl rfl rfl rfl ?_)
    refine Calls.mono (ris_calls i hw) ?_
    rw [decide_eq_true hi]
    rintro _ w ⟨rfl, hw⟩
    refine ⟨_, rfl, ?_⟩
    refine xV rfl rfl rfl (v_not rfl) ?_
    refine rl_nil (g_le (xK (xS rfl (xS rfl (xS rfl (Fr.le_refl _))))) ?_)
    refine g_cond_false rfl ?_
    refine g_skip (g_seq (g_seq ?_))
    obtain ⟨a, c, pa, pc, ha, hw⟩ := rm_open hw
    obtain ⟨g, rfl⟩ := ha (by omega)
    have hx : (s.segs.map Value.string)[0 + i.toNat * 1]? = some (.string (s.seg i)) := by rw [show 0 + i.toNat * 1 = i.toNat by omega, List.getElem?_map, Md.seg_at hi]; rfl
    refine g_region ?_
    refine xV rfl rfl rfl (v_move rfl) ?_
    refine xV rfl rfl rfl (v_lss rfl rfl) ?_
    refine xV rfl rfl rfl (v_move rfl) ?_
    refine rl_split (s := 16) rfl (fun g3_2 => ?_) (fun g3_2 => ?_)
    · try with_reducible exact ft_elim g3_2
      all_goals
        try replace g3_2 := of_decide_eq_true g3_2
        refine rl_off (met_off rfl rfl rfl rfl rfl) rfl rfl ?_
        refine rl_off (met_off rfl rfl rfl rfl rfl) rfl rfl ?_
        refine rl_off (met_off rfl rfl rfl rfl rfl) rfl rfl ?_
        refine rl_off (met_off rfl rfl rfl rfl rfl) rfl rfl ?_
        refine rl_off (met_off rfl rfl rfl rfl rfl) rfl rfl ?_
        refine rl_off (met_off rfl rfl rfl rfl rfl) rfl rfl ?_
        refine rl_off (met_off rfl rfl rfl rfl rfl) rfl rfl ?_
        refine rl_off (met_off rfl rfl rfl rfl rfl) rfl rfl ?_
        refine rl_off (met_off rfl rfl rfl rfl rfl) rfl rfl ?_
        refine rl_off (met_off rfl rfl rfl rfl rfl) rfl rfl ?_
        refine xV rfl rfl rfl (v_pick_true rfl rfl) ?_
        refine rl_nil (g_le (xK (xS rfl (xS rfl (xS rfl (xS rfl (xS rfl (xS rfl (xS rfl (xS rfl (xS rfl (xS rfl (xS rfl (xS rfl (xS rfl (xS rfl (Fr.le_refl _)))))))))))))))) ?_)
        refine g_cond_true rfl ?_
        refine g_seq ?_
        refine g_region ?_
        refine xV rfl rfl rfl (v_assign rfl) ?_
        refine rl_nil (g_le (xK (Fr.le_refl _)) ?_)
        refine g_ret1 Try.func59 rfl rfl ?_
        rw [if_pos (by omega)]
        exact ⟨rfl, rm_close rfl rfl rfl rfl rfl hw⟩
    · try with_reducible exact tf_elim g3_2
      all_goals
        try replace g3_2 := of_decide_eq_false g3_2
        refine rl_vg (met_on rfl rfl rfl rfl) rfl rfl (S := fun _ => True) trivial (v_move rfl) ?_
        refine rl_vg (met_on rfl rfl rfl rfl) rfl rfl (S := fun _ => True) trivial (v_move rfl) ?_
        refine rl_vg (met_on rfl rfl rfl rfl) rfl rfl (S := fun _ => True) trivial (v_nilCheck rfl) ?_
        refine rl_vg (met_on rfl rfl rfl rfl) rfl rfl (S := fun _ => True) trivial (v_fieldAddr0 T.fld_116_2_2 rfl) ?_
        refine rl_vg (met_on rfl rfl rfl rfl) rfl rfl (by exact sat_cell hw (by (repeat first | with_reducible exact xH | apply xT); first | done | fail) rfl) (v_load T.scal_54 rfl) ?_
        refine rl_vg (met_on rfl rfl rfl rfl) rfl rfl (S := fun _ => True) trivial (v_move rfl) ?_
        refine rl_vg (met_on rfl rfl rfl rfl) rfl rfl (S := fun _ => True) trivial (v_indexAddr T.sl_54_9_1 rfl rfl (by omega) (by omega)) ?_
        refine rl_vg (met_on rfl rfl rfl rfl) rfl rfl (by exact own_cell hw (by (repeat first | with_reducible exact xH | apply xT); first | done | fail) (by first | rfl | assumption)) (v_load T.scal_9 rfl) ?_
        refine rl_vg (met_on rfl rfl rfl rfl) rfl rfl (S := fun _ => True) trivial (v_lenStr T.str_9 rfl) ?_
        refine rl_vg (met_on rfl rfl rfl rfl) rfl rfl (S := fun _ => True) trivial (v_gtr rfl rfl) ?_
        refine xV rfl rfl rfl (v_pick_false rfl rfl) ?_
        refine rl_nil (g_le (xK (xS rfl (xS rfl (xS rfl (xS rfl (xS rfl (xS rfl (xS rfl (xS rfl (xS rfl (xS rfl (xS rfl (xS rfl (xS rfl (xS rfl (Fr.le_refl _)))))))))))))))) ?_)
        refine g_cond rfl (fun h2 => ?_) (fun h2 => ?_)
        · try with_reducible exact ft_elim h2
          all_goals
            try replace h2 := of_decide_eq_true h2
            refine g_seq ?_
            refine g_region ?_
            refine xV rfl rfl rfl (v_assign rfl) ?_
            refine rl_nil (g_le (xK (Fr.le_refl _)) ?_)
            refine g_ret1 Try.func59 rfl rfl ?_
            rw [if_pos (by omega)]
            exact ⟨rfl, rm_close rfl rfl rfl rfl rfl hw⟩
        · try with_reducible exact tf_elim h2
          all_goals
            try replace h2 := of_decide_eq_false h2
            refine g_skip (g_seq (g_seq ?_))
            rw [if_neg (by omega)]
            refine g_region ?_
            refine xV rfl rfl rfl (v_move rfl) ?_
            refine xV rfl rfl rfl (v_lenStr T.str_9 rfl) ?_
            refine xV rfl rfl rfl (v_move rfl) ?_
            refine xV rfl rfl rfl (v_nilCheck rfl) ?_
            refine xV rfl rfl rfl (v_fieldAddr0 T.fld_116_1_1 rfl) ?_
            refine rl_v rfl rfl rfl (by exact sat_cell hw (by (repeat first | with_reducible exact xH | apply xT); first | done | fail) rfl) (v_load T.scal_3 rfl) ?_
            refine xV rfl rfl rfl (v_move rfl) ?_
            refine xV rfl rfl rfl (v_sub rfl rfl (by omega)) ?_
            refine xV rfl rfl rfl (v_gtr rfl rfl) ?_
            refine rl_nil (g_le (xK (xS rfl (xS rfl (xS rfl (xS rfl (xS rfl (xS rfl (xS rfl (xS rfl (Fr.le_refl _)))))))))) ?_)
            refine g_cond rfl (fun h3 => ?_) (fun h3 => ?_)
            · try with_reducible exact ft_elim h3
              all_goals
                try replace h3 := of_decide_eq_true h3
                refine g_seq ?_
                refine g_region ?_
                refine xV rfl rfl rfl (v_assign rfl) ?_
                refine rl_nil (g_le (xK (Fr.le_refl _)) ?_)
                refine g_ret1 Try.func59 rfl rfl ?_
                rw [if_pos (by omega)]
                exact ⟨rfl, rm_close rfl rfl rfl rfl rfl hw⟩
            · try with_reducible exact tf_elim h3
              all_goals
                try replace h3 := of_decide_eq_false h3
                refine g_skip (g_seq ?_)
                rw [if_neg (by omega)]
                refine g_region ?_
                refine xV rfl rfl rfl (v_move rfl) ?_
                refine xV rfl rfl rfl (v_nilCheck rfl) ?_
                refine xV rfl rfl rfl (v_fieldAddr0 T.fld_116_0_0 rfl) ?_
                refine rl_v rfl rfl rfl (by exact sat_cell hw (by (repeat first | with_reducible exact xH | apply xT); first | done | fail) rfl) (v_load T.scal_84 rfl) ?_
                refine rl_k rfl (k_callf Try.func78 rfl rfl rfl rfl ?_)
                refine Calls.mono (rspend_calls p pw hpw (hw.xQ)) ?_
                rintro _ w ⟨rfl, hw⟩
                refine ⟨_, rfl, ?_⟩
                refine xV rfl rfl rfl (v_assign rfl) ?_
                refine rl_nil (g_le (xK (xS rfl (xS rfl (xS rfl (xS rfl (xS rfl (Fr.le_refl _))))))) ?_)
                refine g_seq (g_seq ?_)
                refine g_region ?_
                refine xV rfl rfl rfl (v_move rfl) ?_
                refine xV rfl rfl rfl (v_neq rfl rfl) ?_
                refine rl_nil (g_le (xK (xS rfl (Fr.le_refl _))) ?_)
                refine g_cond rfl (fun h4 => ?_) (fun h4 => ?_)
                · try with_reducible exact ft_elim h4
                  all_goals
                    try replace h4 := of_decide_eq_true h4
                    refine g_seq ?_
                    refine g_region ?_
                    refine xV rfl rfl rfl (v_move rfl) ?_
                    refine xV rfl rfl rfl (v_assign rfl) ?_
                    refine rl_nil (g_le (xK (xS rfl (Fr.le_refl _))) ?_)
                    refine g_ret1 Try.func59 rfl rfl ?_
                    rw [if_neg (by omega)]
                    exact ⟨rfl, rm_close rfl rfl rfl rfl rfl (hw.xQ)⟩
                · try with_reducible exact tf_elim h4
                  all_goals
                    try replace h4 := of_decide_eq_false h4
                    refine g_skip (g_seq ?_)
                    rw [if_pos (by omega)]
                    have hes : ((s.seg i).extract 0 at_.toNat).size = at_.toNat := by rw [ByteArray.size_extract]; omega
                    have hst : 0 + i.toNat * 1 < (s.segs.map Value.string).length := by rw [List.length_map]; omega
                    refine g_drawR ord_f59_r10_R14a (by kernel_rfl) T.mixed hw (fun w hw => ?_)
                    refine rs_a 0 rfl rfl rfl rfl (v_move rfl) ?_
                    refine rs_a 1 rfl rfl rfl rfl (v_nilCheck rfl) ?_
                    refine rs_a 2 rfl rfl rfl rfl (v_fieldAddr0 T.fld_116_2_2 rfl) ?_
                    refine rs_a 4 rfl rfl rfl rfl (v_move rfl) ?_
                    refine rs_a 5 rfl rfl rfl rfl (v_move rfl) ?_
                    refine rs_a 6 rfl rfl rfl rfl (v_nilCheck rfl) ?_
                    refine rs_a 7 rfl rfl rfl rfl (v_fieldAddr0 T.fld_116_2_2 rfl) ?_
                    refine rs_a 9 rfl rfl rfl rfl (v_move rfl) ?_
                    refine rs_a 12 rfl rfl rfl rfl (v_move rfl) ?_
                    refine rs_a 14 rfl rfl rfl rfl (v_move rfl) ?_
                    refine rs_v 3 rfl rfl rfl rfl (OpV.mono (v_load T.scal_54 rfl) (fun w hw => by exact sat_cell hw (by (repeat first | with_reducible exact xH | apply xT); first | done | fail) rfl)) (by exact hw) ?_
                    refine rs_kv 8 rfl rfl rfl rfl (by exact sat_cell hw (by (repeat first | with_reducible exact xH | apply xT); first | done | fail) rfl) (v_load T.scal_54 rfl) ?_
                    refine rs_kv 10 rfl rfl rfl rfl (S' := fun _ => True) trivial (v_indexAddr T.sl_54_9_1 rfl rfl (by omega) (by omega)) ?_
                    refine rs_kv 11 rfl rfl rfl rfl (by exact own_cell hw (by (repeat first | with_reducible exact xH | apply xT); first | done | fail) (by first | rfl | assumption)) (v_load T.scal_9 rfl) ?_
                    refine rs_kv 13 rfl rfl rfl rfl (S' := fun _ => True) trivial (v_sliceStrTo T.str_9 rfl rfl (by omega) (by omega)) ?_
                    refine rs_kv 15 rfl rfl rfl rfl (S' := fun _ => True) trivial (v_addStr rfl rfl (by omega)) ?_
                    refine rs_kv 16 rfl rfl rfl rfl (S' := fun _ => True) trivial (v_indexAddr T.sl_54_9_1 rfl rfl (by omega) (by omega)) ?_
                    refine rs_k 17 rfl rfl (k_storeOwn hw T.scal_9 rfl rfl rfl (by (repeat first | with_reducible exact xH | apply xT); first | done | fail) (by assumption) (fun w hw => ?_))
                    refine ⟨fun hn => absurd (by decide) hn, ?_⟩
                    refine rs_done (g_le (xS rfl (xS rfl (xS rfl (xS rfl (xS rfl (xS rfl (xS rfl (xS rfl (xS rfl (xS rfl (xS rfl (xS rfl (xS rfl (xS rfl (xS rfl (xS rfl (xS rfl (Fr.le_refl _)))))))))))))))))) ?_)
                    refine g_seq ?_
                    have hlr : (s.past.flatMap wrCells).length = s.past.length * 3 := by
                      have key : ∀ l : List Wr, (l.flatMap wrCells).length = l.length * 3 := fun l => by
                        induction l with
                        | nil => rfl
                        | cons x l ih => rw [List.flatMap_cons, List.length_append, ih, List.length_cons]; show 3 + l.length * 3 = _; omega
                      exact key _
                    refine g_region ?_
                    refine xV rfl rfl rfl (v_move rfl) ?_
                    refine xV rfl rfl rfl (v_move rfl) ?_
                    refine xV rfl rfl rfl (v_nilCheck rfl) ?_
                    refine xV rfl rfl rfl (v_fieldAddr0 T.fld_116_3_3 rfl) ?_
                    refine rl_v rfl rfl rfl (by exact sat_cell hw (by (repeat first | with_reducible exact xH | apply xT); first | done | fail) rfl) (v_load T.scal_50 rfl) ?_
                    refine xV rfl rfl rfl (v_move rfl) ?_
                    refine xV rfl rfl rfl (v_move rfl) ?_
                    refine xV rfl rfl rfl (v_move rfl) ?_
                    refine xV rfl rfl rfl (v_build rfl (T.build_128_0_1_2 ..)) ?_
                    refine rl_k rfl (k_buildSlice (cells := [_, _, _]) hw T.sl_50_128_3 T.zero_128 rfl rfl rfl rfl rfl rfl (fun bk11_9 w hw => ?_))
                    refine rl_k rfl (k_append (news := [_, _, _]) hw T.sl_50_128_3 T.zero_128 T.bytes_128_32 rfl (by decide) rfl rfl (by (repeat first | with_reducible exact xH | apply xT); first | done | fail) rfl (by exact sat_cells hw (by (repeat first | with_reducible exact xH | apply xT); first | done | fail) ⟨rfl, rfl, rfl, trivial⟩) (by simp [Value.oneCell']) (by omega) (by simp only [maxLen]; omega) rfl (fun vv11_10 w hw hnil => ?_))
                    obtain ⟨qa, qc, rfl, _, _, _⟩ := hw.own_shape
                    refine xV rfl rfl rfl (v_nilCheck rfl) ?_
                    refine xV rfl rfl rfl (v_fieldAddr0 T.fld_116_3_3 rfl) ?_
                    refine rl_k rfl (k_store hw T.scal_50 rfl rfl rfl (by (repeat first | with_reducible exact xH | apply xT); first | done | fail) rfl (by simp only [List.set, Int.reduceToNat, Nat.reduceMul, Nat.reduceAdd]; rfl) (fun w hw => ?_))
                    refine rl_nil (g_le (xS rfl (xS rfl (xS rfl (xS rfl (xS rfl (xS rfl (xS rfl (xS rfl (xS rfl (xS rfl (xS rfl (xS rfl (xS rfl (Fr.le_refl _)))))))))))))) ?_)
                    refine g_seq ?_
                    refine g_region ?_
                    refine xV rfl rfl rfl (v_assign rfl) ?_
                    refine rl_nil (g_le (xK (Fr.le_refl _)) ?_)
                    refine g_ret1 Try.func59 rfl rfl ?_
                    refine ⟨rfl, ?_⟩
                    dsimp only
                    refine rm_close (s := s.put i at_ v) (z := s.size) ?_ ?_ ?_ ?_ rfl (hw.xQ)
                    · simp [Md.put]
                    · simp [Md.put]
                    · simp [Md.put, wrCells]
                    · simp only [Md.put, List.map_set]; rw [show 0 + i.toNat * 1 = i.toNat by omega]
  · rw [if_neg hi]
    refine calls_of_g (n := 75) Try.func59 rfl rfl rfl ?_
    change G _ _ _ _ _ [(0, _), (1, _), (2, _), (3, _)] _
    refine g_seq ?_
    refine g_region ?_
    refine xV rfl rfl rfl (v_assign rfl) ?_
    refine rl_nil (g_le (xK (Fr.le_refl _)) ?_)
    refine g_seq (g_seq ?_)
    refine g_region ?_
    refine xV rfl rfl rfl (v_move rfl) ?_
    refine xV rfl rfl rfl (v_move rfl) ?_
    refine rl_k rfl (k_callf Try.func73 rfl rfl rfl rfl ?_)
    refine Calls.mono (ris_calls i hw) ?_
    rw [decide_eq_false hi]
    rintro _ w ⟨rfl, hw⟩
    refine ⟨_, rfl, ?_⟩
    refine xV rfl rfl rfl (v_not rfl) ?_
    refine rl_nil (g_le (xK (xS rfl (xS rfl (xS rfl (Fr.le_refl _))))) ?_)
    refine g_cond_true rfl ?_
    refine g_seq ?_
    refine g_region ?_
    refine xV rfl rfl rfl (v_assign rfl) ?_
    refine rl_nil (g_le (xK (Fr.le_refl _)) ?_)
    refine g_ret1 Try.func59 rfl rfl ?_
    exact ⟨rfl, hw⟩
theorem rmnew_calls {E : Env} {w : World} {L : List As} (p : Nat) (n size : Int) (h1 : 1 ≤ n) (h2 : n ≤ 4096) (h3 : 1 ≤ size) (h4 : size ≤ 1048576) (hw : Sat E w L) :
    Calls Try.prog 33 #[.pointer (some ⟨p, 0, none⟩), .int .i64 n, .int .i64 size] w fun e w' => ∃ m, e = .returned (.tuple #[.pointer (some ⟨m, 0, none⟩), .int .i64 0]) ∧ Sat E w' (RmAt m p ⟨size, List.replicate n.toNat ByteArray.empty, [], 0⟩ :: L) := by
  refine calls_of_g (n := 28) Try.func33 rfl rfl rfl ?_
  change G _ _ _ _ _ [(0, _), (1, _), (2, _)] _
  refine g_seq ?_
  refine g_region ?_
  refine xV rfl rfl rfl (v_assign rfl) ?_
  refine xV rfl rfl rfl (v_assign rfl) ?_
  refine rl_nil (g_le (xK (xK (Fr.le_refl _))) ?_)
  refine g_seq (g_seq ?_)
  refine g_region ?_
  refine xV rfl rfl rfl (v_move rfl) ?_
  refine xV rfl rfl rfl (v_lssF rfl rfl (by omega)) ?_
  refine xV rfl rfl rfl (v_move rfl) ?_
  refine rl_split (s := 10) rfl (fun g1_2 => ?_) (fun g1_2 => ?_)
  · try with_reducible exact ft_elim g1_2
    all_goals
      try replace g1_2 := of_decide_eq_true g1_2
      try (exfalso; omega)
      all_goals
        refine rl_off (met_off rfl rfl rfl rfl rfl) rfl rfl ?_
        refine rl_off (met_off rfl rfl rfl rfl rfl) rfl rfl ?_
        first | (refine xV rfl rfl rfl (v_pick_true rfl rfl) ?_) | (refine xV rfl rfl rfl (v_pick_false rfl rfl) ?_) | (refine xV rfl rfl rfl (v_pick rfl rfl rfl) ?_)
        refine xV rfl rfl rfl (v_move rfl) ?_
        refine rl_off (met_off rfl rfl rfl rfl rfl) rfl rfl ?_
        refine rl_off (met_off rfl rfl rfl rfl rfl) rfl rfl ?_
        first | (refine xV rfl rfl rfl (v_pick_true rfl rfl) ?_) | (refine xV rfl rfl rfl (v_pick_false rfl rfl) ?_) | (refine xV rfl rfl rfl (v_pick rfl rfl rfl) ?_)
        refine xV rfl rfl rfl (v_move rfl) ?_
        refine rl_off (met_off rfl rfl rfl rfl rfl) rfl rfl ?_
        refine rl_off (met_off rfl rfl rfl rfl rfl) rfl rfl ?_
        first | (refine xV rfl rfl rfl (v_pick_true rfl rfl) ?_) | (refine xV rfl rfl rfl (v_pick_false rfl rfl) ?_) | (refine xV rfl rfl rfl (v_pick rfl rfl rfl) ?_)
        refine rl_nil (g_le (xK (xS rfl (xS rfl (xS rfl (xS rfl (xS rfl (xS rfl (xS rfl (xS rfl (xS rfl (xS rfl (xS rfl (xS rfl (xS rfl (xS rfl (Fr.le_refl _)))))))))))))))) ?_)
        refine g_cond_false rfl ?_
        refine g_skip (g_seq ?_)
        refine g_region ?_
        refine xV rfl rfl rfl (v_move rfl) ?_
        refine xV rfl rfl rfl (v_move rfl) ?_
        refine xV rfl rfl rfl (v_move rfl) ?_
        refine rl_k rfl (k_makeSlice hw T.sl_54_9_1 T.zero_9 T.bytes_9_16 rfl rfl (by omega) (by omega) (by omega) (by omega) rfl (fun bk3_3 w hw => ?_))
        refine xV rfl rfl rfl (v_build rfl (T.build_116_0_1_2 ..)) ?_
        refine rl_k rfl (k_box hw rfl rfl rfl (fun bk3_5 w hw => ?_))
        refine xV rfl rfl rfl (v_assign rfl) ?_
        refine xV rfl rfl rfl (v_assign rfl) ?_
        refine rl_nil (g_le (xK (xK (xS rfl (xS rfl (xS rfl (xS rfl (xS rfl (xS rfl (Fr.le_refl _))))))))) ?_)
        refine g_ret2 Try.func33 rfl rfl rfl ?_
        refine ⟨_, rfl, ?_⟩
        rw [made_one _ rfl _ _ (Nat.le_refl _)] at hw
        refine rm_close (s := ⟨size, List.replicate n.toNat ByteArray.empty, [], 0⟩) (a := some ⟨bk3_3, 0, none⟩) (c := n.toNat) (n := n.toNat) (k := 0) (pv := .slice none 0 0) (ps := []) ?_ rfl rfl ?_ rfl ((hw.own_nil 128 3).xQ)
        · simp
        · simp
  · try with_reducible exact tf_elim g1_2
    all_goals
      try replace g1_2 := of_decide_eq_false g1_2
      try (exfalso; omega)
      all_goals
        refine rl_vg (met_on rfl rfl rfl rfl) rfl rfl (S := fun _ => True) trivial (v_move rfl) ?_
        refine rl_vg (met_on rfl rfl rfl rfl) rfl rfl (S := fun _ => True) trivial (v_gtrF rfl rfl (by omega)) ?_
        refine xV rfl rfl rfl (v_pick_false rfl rfl) ?_
        refine xV rfl rfl rfl (v_move rfl) ?_
        refine rl_split (s := 14) rfl (fun g1_6 => ?_) (fun g1_6 => ?_)
        · try with_reducible exact ft_elim g1_6
          all_goals
            try replace g1_6 := of_decide_eq_true g1_6
            try (exfalso; omega)
            all_goals
              refine rl_off (met_off rfl rfl rfl rfl rfl) rfl rfl ?_
              refine rl_off (met_off rfl rfl rfl rfl rfl) rfl rfl ?_
              first | (refine xV rfl rfl rfl (v_pick_true rfl rfl) ?_) | (refine xV rfl rfl rfl (v_pick_false rfl rfl) ?_) | (refine xV rfl rfl rfl (v_pick rfl rfl rfl) ?_)
              refine xV rfl rfl rfl (v_move rfl) ?_
              refine rl_off (met_off rfl rfl rfl rfl rfl) rfl rfl ?_
              refine rl_off (met_off rfl rfl rfl rfl rfl) rfl rfl ?_
              first | (refine xV rfl rfl rfl (v_pick_true rfl rfl) ?_) | (refine xV rfl rfl rfl (v_pick_false rfl rfl) ?_) | (refine xV rfl rfl rfl (v_pick rfl rfl rfl) ?_)
              refine rl_nil (g_le (xK (xS rfl (xS rfl (xS rfl (xS rfl (xS rfl (xS rfl (xS rfl (xS rfl (xS rfl (xS rfl (xS rfl (xS rfl (xS rfl (xS rfl (xS rfl (Fr.le_refl _))))))))))))))))) ?_)
              refine g_cond_false rfl ?_
              refine g_skip (g_seq ?_)
              refine g_region ?_
              refine xV rfl rfl rfl (v_move rfl) ?_
              refine xV rfl rfl rfl (v_move rfl) ?_
              refine xV rfl rfl rfl (v_move rfl) ?_
              refine rl_k rfl (k_makeSlice hw T.sl_54_9_1 T.zero_9 T.bytes_9_16 rfl rfl (by omega) (by omega) (by omega) (by omega) rfl (fun bk3_3 w hw => ?_))
              refine xV rfl rfl rfl (v_build rfl (T.build_116_0_1_2 ..)) ?_
              refine rl_k rfl (k_box hw rfl rfl rfl (fun bk3_5 w hw => ?_))
              refine xV rfl rfl rfl (v_assign rfl) ?_
              refine xV rfl rfl rfl (v_assign rfl) ?_
              refine rl_nil (g_le (xK (xK (xS rfl (xS rfl (xS rfl (xS rfl (xS rfl (xS rfl (Fr.le_refl _))))))))) ?_)
              refine g_ret2 Try.func33 rfl rfl rfl ?_
              refine ⟨_, rfl, ?_⟩
              rw [made_one _ rfl _ _ (Nat.le_refl _)] at hw
              refine rm_close (s := ⟨size, List.replicate n.toNat ByteArray.empty, [], 0⟩) (a := some ⟨bk3_3, 0, none⟩) (c := n.toNat) (n := n.toNat) (k := 0) (pv := .slice none 0 0) (ps := []) ?_ rfl rfl ?_ rfl ((hw.own_nil 128 3).xQ)
              · simp
              · simp
        · try with_reducible exact tf_elim g1_6
          all_goals
            try replace g1_6 := of_decide_eq_false g1_6
            try (exfalso; omega)
            all_goals
              refine rl_vg (met_on rfl rfl rfl rfl) rfl rfl (S := fun _ => True) trivial (v_move rfl) ?_
              refine rl_vg (met_on rfl rfl rfl rfl) rfl rfl (S := fun _ => True) trivial (v_lssF rfl rfl (by omega)) ?_
              refine xV rfl rfl rfl (v_pick_false rfl rfl) ?_
              refine xV rfl rfl rfl (v_move rfl) ?_
              refine rl_split (s := 18) rfl (fun g1_10 => ?_) (fun g1_10 => ?_)
              · try with_reducible exact ft_elim g1_10
                all_goals
                  try replace g1_10 := of_decide_eq_true g1_10
                  try (exfalso; omega)
                  all_goals
                    refine rl_off (met_off rfl rfl rfl rfl rfl) rfl rfl ?_
                    refine rl_off (met_off rfl rfl rfl rfl rfl) rfl rfl ?_
                    first | (refine xV rfl rfl rfl (v_pick_true rfl rfl) ?_) | (refine xV rfl rfl rfl (v_pick_false rfl rfl) ?_) | (refine xV rfl rfl rfl (v_pick rfl rfl rfl) ?_)
                    refine rl_nil (g_le (xK (xS rfl (xS rfl (xS rfl (xS rfl (xS rfl (xS rfl (xS rfl (xS rfl (xS rfl (xS rfl (xS rfl (xS rfl (xS rfl (xS rfl (xS rfl (xS rfl (Fr.le_refl _)))))))))))))))))) ?_)
                    refine g_cond_false rfl ?_
                    refine g_skip (g_seq ?_)
                    refine g_region ?_
                    refine xV rfl rfl rfl (v_move rfl) ?_
                    refine xV rfl rfl rfl (v_move rfl) ?_
                    refine xV rfl rfl rfl (v_move rfl) ?_
                    refine rl_k rfl (k_makeSlice hw T.sl_54_9_1 T.zero_9 T.bytes_9_16 rfl rfl (by omega) (by omega) (by omega) (by omega) rfl (fun bk3_3 w hw => ?_))
                    refine xV rfl rfl rfl (v_build rfl (T.build_116_0_1_2 ..)) ?_
                    refine rl_k rfl (k_box hw rfl rfl rfl (fun bk3_5 w hw => ?_))
                    refine xV rfl rfl rfl (v_assign rfl) ?_
                    refine xV rfl rfl rfl (v_assign rfl) ?_
                    refine rl_nil (g_le (xK (xK (xS rfl (xS rfl (xS rfl (xS rfl (xS rfl (xS rfl (Fr.le_refl _))))))))) ?_)
                    refine g_ret2 Try.func33 rfl rfl rfl ?_
                    refine ⟨_, rfl, ?_⟩
                    rw [made_one _ rfl _ _ (Nat.le_refl _)] at hw
                    refine rm_close (s := ⟨size, List.replicate n.toNat ByteArray.empty, [], 0⟩) (a := some ⟨bk3_3, 0, none⟩) (c := n.toNat) (n := n.toNat) (k := 0) (pv := .slice none 0 0) (ps := []) ?_ rfl rfl ?_ rfl ((hw.own_nil 128 3).xQ)
                    · simp
                    · simp
              · try with_reducible exact tf_elim g1_10
                all_goals
                  try replace g1_10 := of_decide_eq_false g1_10
                  try (exfalso; omega)
                  all_goals
                    refine rl_vg (met_on rfl rfl rfl rfl) rfl rfl (S := fun _ => True) trivial (v_move rfl) ?_
                    refine rl_vg (met_on rfl rfl rfl rfl) rfl rfl (S := fun _ => True) trivial (v_gtrF rfl rfl (by omega)) ?_
                    refine xV rfl rfl rfl (v_pick_false rfl rfl) ?_
                    refine rl_nil (g_le (xK (xS rfl (xS rfl (xS rfl (xS rfl (xS rfl (xS rfl (xS rfl (xS rfl (xS rfl (xS rfl (xS rfl (xS rfl (xS rfl (xS rfl (xS rfl (xS rfl (Fr.le_refl _)))))))))))))))))) ?_)
                    refine g_cond_false rfl ?_
                    refine g_skip (g_seq ?_)
                    refine g_region ?_
                    refine xV rfl rfl rfl (v_move rfl) ?_
                    refine xV rfl rfl rfl (v_move rfl) ?_
                    refine xV rfl rfl rfl (v_move rfl) ?_
                    refine rl_k rfl (k_makeSlice hw T.sl_54_9_1 T.zero_9 T.bytes_9_16 rfl rfl (by omega) (by omega) (by omega) (by omega) rfl (fun bk3_3 w hw => ?_))
                    refine xV rfl rfl rfl (v_build rfl (T.build_116_0_1_2 ..)) ?_
                    refine rl_k rfl (k_box hw rfl rfl rfl (fun bk3_5 w hw => ?_))
                    refine xV rfl rfl rfl (v_assign rfl) ?_
                    refine xV rfl rfl rfl (v_assign rfl) ?_
                    refine rl_nil (g_le (xK (xK (xS rfl (xS rfl (xS rfl (xS rfl (xS rfl (xS rfl (Fr.le_refl _))))))))) ?_)
                    refine g_ret2 Try.func33 rfl rfl rfl ?_
                    refine ⟨_, rfl, ?_⟩
                    rw [made_one _ rfl _ _ (Nat.le_refl _)] at hw
                    refine rm_close (s := ⟨size, List.replicate n.toNat ByteArray.empty, [], 0⟩) (a := some ⟨bk3_3, 0, none⟩) (c := n.toNat) (n := n.toNat) (k := 0) (pv := .slice none 0 0) (ps := []) ?_ rfl rfl ?_ rfl ((hw.own_nil 128 3).xQ)
                    · simp
                    · simp
end Go.Proofs.Ytipdklbedpkobaa
