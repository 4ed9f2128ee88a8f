/-
  A tree's pages (layer 6): nodes out of terms.
-/
import Derived.Test.YtlgpdglnfjndhaaU06d
namespace Go.Proofs.Ytlgpdglnfjndhaa
set_option maxRecDepth 8000
set_option linter.unusedSimpArgs false
set_option linter.unusedVariables false
open Go Xe Go.Lib
@[reducible] def RbAt (p : Nat) (b : Bool) : As := pt p (.cells [Value.bool b].toArray 152 (0, 0))
theorem want_calls {E : Env} {w : World} {L : List As} {p : Nat} {bad : Bool} (ok : Bool) (hw : Sat E w (RbAt p bad :: L)) :
    Calls Try.prog 82 #[.pointer (some ⟨p, 0, none⟩), .bool ok] w fun e w' => e = .returned (.bool (!(bad || !ok))) ∧ Sat E w' (RbAt p (bad || !ok) :: L) := by
  refine calls_of_g (n := 21) Try.func82 rfl rfl rfl ?_
  change G _ _ _ _ _ [(0, _), (1, _)] _
  refine g_seq ?_
  refine g_region ?_
  refine xV rfl rfl rfl (v_assign rfl) ?_
  refine rl_nil (g_le (xK (Fr.le_refl _)) ?_)
  refine g_seq ?_
  refine g_region ?_
  refine xV rfl rfl rfl (v_move rfl) ?_
  refine xV rfl rfl rfl (v_move rfl) ?_
  refine xV rfl rfl rfl (v_nilCheck rfl) ?_
  refine xV rfl rfl rfl (v_fieldAddr0 T.fld_152_0_0 rfl) ?_
  refine rl_v rfl rfl rfl (by exact sat_cell hw (by (repeat first | with_reducible exact xH | apply xT); first | done | fail) rfl) (v_load T.scal_4 rfl) ?_
  refine xV rfl rfl rfl (v_move rfl) ?_
  refine rl_split (s := 10) rfl (fun g1_5 => ?_) (fun g1_5 => ?_)
  · try with_reducible exact ft_elim g1_5
    all_goals
      try replace g1_5 := of_decide_eq_true g1_5
      refine rl_off (met_off rfl rfl rfl rfl rfl) rfl rfl ?_
      refine rl_off (met_off rfl rfl rfl rfl rfl) rfl rfl ?_
      refine xV rfl rfl rfl (v_pick_true rfl rfl) ?_
      refine xV rfl rfl rfl (v_nilCheck rfl) ?_
      refine xV rfl rfl rfl (v_fieldAddr0 T.fld_152_0_0 rfl) ?_
      refine rl_k rfl (k_store hw T.scal_4 rfl rfl rfl (by (repeat first | with_reducible exact xH | apply xT); first | done | fail) rfl (by simp only [List.set, Int.reduceToNat, Nat.reduceMul, Nat.reduceAdd]; rfl) (fun w hw => ?_))
      refine rl_nil (g_le (xS rfl (xS rfl (xS rfl (xS rfl (xS rfl (xS rfl (xS rfl (xS rfl (xS rfl (xS rfl (xS rfl (xS rfl (Fr.le_refl _))))))))))))) ?_)
      refine g_seq ?_
      refine g_region ?_
      refine xV rfl rfl rfl (v_move rfl) ?_
      refine xV rfl rfl rfl (v_nilCheck rfl) ?_
      refine xV rfl rfl rfl (v_fieldAddr0 T.fld_152_0_0 rfl) ?_
      refine rl_v rfl rfl rfl (by exact sat_cell hw (by (repeat first | with_reducible exact xH | apply xT); first | done | fail) rfl) (v_load T.scal_4 rfl) ?_
      refine xV rfl rfl rfl (v_not rfl) ?_
      refine xV rfl rfl rfl (v_assign rfl) ?_
      refine rl_nil (g_le (xK (xS rfl (xS rfl (xS rfl (xS rfl (xS rfl (Fr.le_refl _))))))) ?_)
      refine g_ret1 Try.func82 rfl rfl ?_
      cases bad <;> simp_all <;> exact hw.xQ
  · try with_reducible exact tf_elim g1_5
    all_goals
      try replace g1_5 := of_decide_eq_false g1_5
      refine rl_vg (met_on rfl rfl rfl rfl) rfl rfl (S := fun _ => True) trivial (v_move rfl) ?_
      refine rl_vg (met_on rfl rfl rfl rfl) rfl rfl (S := fun _ => True) trivial (v_not rfl) ?_
      refine xV rfl rfl rfl (v_pick_false rfl rfl) ?_
      refine xV rfl rfl rfl (v_nilCheck rfl) ?_
      refine xV rfl rfl rfl (v_fieldAddr0 T.fld_152_0_0 rfl) ?_
      refine rl_k rfl (k_store hw T.scal_4 rfl rfl rfl (by (repeat first | with_reducible exact xH | apply xT); first | done | fail) rfl (by simp only [List.set, Int.reduceToNat, Nat.reduceMul, Nat.reduceAdd]; rfl) (fun w hw => ?_))
      refine rl_nil (g_le (xS rfl (xS rfl (xS rfl (xS rfl (xS rfl (xS rfl (xS rfl (xS rfl (xS rfl (xS rfl (xS rfl (xS rfl (Fr.le_refl _))))))))))))) ?_)
      refine g_seq ?_
      refine g_region ?_
      refine xV rfl rfl rfl (v_move rfl) ?_
      refine xV rfl rfl rfl (v_nilCheck rfl) ?_
      refine xV rfl rfl rfl (v_fieldAddr0 T.fld_152_0_0 rfl) ?_
      refine rl_v rfl rfl rfl (by exact sat_cell hw (by (repeat first | with_reducible exact xH | apply xT); first | done | fail) rfl) (v_load T.scal_4 rfl) ?_
      refine xV rfl rfl rfl (v_not rfl) ?_
      refine xV rfl rfl rfl (v_assign rfl) ?_
      refine rl_nil (g_le (xK (xS rfl (xS rfl (xS rfl (xS rfl (xS rfl (Fr.le_refl _))))))) ?_)
      refine g_ret1 Try.func82 rfl rfl ?_
      cases bad <;> simp_all <;> exact hw.xQ
theorem nb_t {a b : Bool} (h : (!(a || !b)) = true) : a = false ∧ b = true := by cases a <;> cases b <;> simp at h ⊢
theorem nb_f {a b : Bool} (h : (!(a || !b)) = false) : (a || !b) = true := by cases a <;> cases b <;> simp at h ⊢
theorem want_eq {E : Env} {w : World} {L : List As} {p : Nat} {bad : Bool} (ok P : Bool) (h : ok = P) (hw : Sat E w (RbAt p bad :: L)) :
    Calls Try.prog 82 #[.pointer (some ⟨p, 0, none⟩), .bool ok] w fun e w' => e = .returned (.bool (!(bad || !P))) ∧ Sat E w' (RbAt p (bad || !P) :: L) := h ▸ want_calls ok hw
theorem tm_at {g : Hp} {a : Option Addr} {n c : Nat} {l : List Tm} (h : rdSl 56 4 rdTm g [.slice a n c] l) (i : Int) (h0 : 0 ≤ i) (h1 : i < l.length) :
    ∃ b o xa xc, a = some ⟨b, o, none⟩ ∧ HAt g b (o + i.toNat * 4) [.int .i64 (tmAt l i.toNat).kind, .int .u64 (tmAt l i.toNat).num, .string (tmAt l i.toNat).bytes, .slice xa (tmAt l i.toNat).list.length xc] ∧
      rdTm g [.int .i64 (tmAt l i.toNat).kind, .int .u64 (tmAt l i.toNat).num, .string (tmAt l i.toNat).bytes, .slice xa (tmAt l i.toNat).list.length xc] (tmAt l i.toNat) := by
  obtain ⟨rfl, _, _, _, g1⟩ := rdSl_get h
  obtain ⟨b, o, x, ecs, ha, hx, hat, hl, hrd⟩ := g1 i h0 (by omega)
  obtain ⟨xa, xc, rfl, _⟩ := tm_shape hrd
  have e : tmAt l i.toNat = x := by unfold tmAt; rw [hx]; rfl
  rw [e]
  exact ⟨b, o, xa, xc, ha, hat, hrd⟩
theorem ord_f81_r2_U06e : orderOfB Try.f81 2 [] (.a 0 (.a 4 (.v 1 (.a 2 (.v 3 (.v 5 (.a 6 (.k 7 (.k 8 .done))))))))) = true := by kernel_rfl
theorem rest_calls {E : Env} {w : World} {L : List As} {g : Hp} {p : Nat} {bad : Bool} {cs : List Value} {t : Tm} (k : Int) (ht : rdTm g cs t) (hw : Sat E w (RbAt p bad :: RO g :: L)) :
    Calls Try.prog 81 #[.pointer (some ⟨p, 0, none⟩), .agg cs.toArray, .int .i64 k] w fun e w' => ∃ cs1 sa sc, e = .returned (.tuple #[.agg cs1.toArray, .slice sa (restT bad t k).2.1.length sc]) ∧
      rdTm g cs1 (restT bad t k).1 ∧ rdSl 56 4 rdTm g [.slice sa (restT bad t k).2.1.length sc] (restT bad t k).2.1 ∧ Sat E w' (RbAt p (restT bad t k).2.2 :: RO g :: L) := by
  obtain ⟨a, c, rfl, _, hl⟩ := tm_shape ht
  obtain ⟨_, hb1, hc1, hmx, g9⟩ := rdSl_get hl
  obtain ⟨P, hP⟩ : ∃ P, P = decide (t.kind = 5 ∧ 0 < t.list.length ∧ (tmAt t.list (0 : Int).toNat).kind = k) := ⟨_, rfl⟩
  refine calls_of_g (n := 36) Try.func81 rfl rfl rfl ?_
  change G _ _ _ _ _ [(0, _), (1, _), (2, _)] _
  refine g_seq ?_
  refine g_region ?_
  refine rl_k rfl (k_box hw rfl rfl rfl (fun bk0_0 w hw => ?_))
  refine rl_k rfl (k_alloc hw T.zero_111 rfl rfl (fun bk0_1 w hw => ?_))
  refine xV rfl rfl rfl (v_assign rfl) ?_
  refine rl_nil (g_le (xK (xK (xK (Fr.le_refl _)))) ?_)
  refine g_seq (g_seq ?_)
  refine g_cutc (σ := Bool) (fun C x => (27, .bool x) :: C) [(4, _), (6, _), (7, _)] (by repeat (first | exact Fr.le_nil _ | refine Fr.le_cons rfl ?_)) (fun z w => z = (!(bad || !P)) ∧ Sat E w (RbAt p (bad || !P) :: pt bk0_0 (.cells (tmC t.kind t.num t.bytes (.slice a t.list.length c)).toArray 111 (0, 0)) :: pt bk0_1 (.cells (tmC 0 0 ByteArray.empty (.slice none 0 0)).toArray 111 (0, 0)) :: RO g :: L)) ?_ ?_
  · skip
    rintro _ w ⟨rfl, hw⟩
    all_goals
      refine g_cond rfl (fun h1 => ?_) (fun h1 => ?_)
      · try with_reducible exact ft_elim h1
        all_goals
          try replace h1 := of_decide_eq_true h1
          obtain ⟨rfl, rfl⟩ := nb_t h1
          obtain ⟨p1, p2, p3⟩ := of_decide_eq_true hP.symm
          rw [show (false || !true) = false from rfl] at hw
          have e9 : restT false t k = (tmAt t.list 0, t.list.drop 1, false) := by unfold restT; rw [if_pos ⟨rfl, p1, p2, p3⟩]
          have hfr := rdSl_from 1 hl (by omega)
          have hdl : (t.list.drop 1).length = t.list.length - 1 := by simp
          have hz := hw
          clear hw
          obtain ⟨b4, o1, xa, xc, rfl, hat1, hrd⟩ := tm_at hl 0 (by omega) (by omega)
          have hw := hz
          clear hz
          refine g_seq ?_
          have hw := hw.xP (A := pt bk0_1 _)
          refine g_drawB ord_f81_r2_U06e (by kernel_rfl) T.mixed (fun w hw => (hw.pick .at0).drop) hw (fun w hw => ?_)
          refine rs_a 0 rfl rfl rfl rfl (v_fieldAddr0 T.fld_111_3_3 rfl) ?_
          refine rs_a 4 rfl rfl rfl rfl (v_fieldAddr0 T.fld_111_3_3 rfl) ?_
          refine rs_v 1 rfl rfl rfl rfl (OpV.mono (v_load T.scal_109 rfl) (fun w hw => by exact sat_cell hw (by (repeat first | with_reducible exact xH | apply xT); first | done | fail) rfl)) (by exact Sat.sub hw (by (repeat (first | with_reducible exact Sub.refl _ | exact Sub.nil _ | (apply Sub.cons; focus ((repeat (first | with_reducible exact Pick.here _ | apply Pick.there)); (first | done | fail))) | with_reducible apply Sub.drop)); first | done | fail)) ?_
          refine rs_a 2 rfl rfl rfl rfl (v_indexAddr T.sl_109_111_4 rfl rfl (by omega) (by omega)) ?_
          refine rs_v 3 rfl rfl rfl rfl (OpV.mono (v_loadAgg (vs := [_, _, _, _]) T.agg_111_4 rfl rfl) (fun w hw => by exact ro_ats hw (by (repeat first | with_reducible exact xH | apply xT); first | done | fail) (by assumption))) (by exact Sat.sub hw (by (repeat (first | with_reducible exact Sub.refl _ | exact Sub.nil _ | (apply Sub.cons; focus ((repeat (first | with_reducible exact Pick.here _ | apply Pick.there)); (first | done | fail))) | with_reducible apply Sub.drop)); first | done | fail)) ?_
          refine rs_v 5 rfl rfl rfl rfl (OpV.mono (v_load T.scal_109 rfl) (fun w hw => by exact sat_cell hw (by (repeat first | with_reducible exact xH | apply xT); first | done | fail) rfl)) (by exact Sat.sub hw (by (repeat (first | with_reducible exact Sub.refl _ | exact Sub.nil _ | (apply Sub.cons; focus ((repeat (first | with_reducible exact Pick.here _ | apply Pick.there)); (first | done | fail))) | with_reducible apply Sub.drop)); first | done | fail)) ?_
          refine rs_a 6 rfl rfl rfl rfl (v_sliceFromA T.sl_109_111_4 rfl rfl (by omega) (by omega) (by omega)) ?_
          refine rs_k 7 rfl rfl (k_storeWhole hw T.agg_111_4 rfl rfl (by simp [Value.oneCell']) rfl (by (repeat first | with_reducible exact xH | apply xT); first | done | fail) rfl (fun w hw => ?_))
          refine ⟨fun _ => (by exact Sat.sub hw (by (repeat (first | with_reducible exact Sub.refl _ | exact Sub.nil _ | (apply Sub.cons; focus ((repeat (first | with_reducible exact Pick.here _ | apply Pick.there)); (first | done | fail))) | with_reducible apply Sub.drop)); first | done | fail)), ?_⟩
          refine rs_kv 8 rfl rfl rfl rfl (S' := fun _ => True) trivial (v_assign rfl) ?_
          refine rs_done (g_le (xK (xS rfl (xS rfl (xS rfl (xS rfl (xS rfl (xS rfl (xS rfl (Fr.le_refl _))))))))) ?_)
          refine g_res2 Try.func81 rfl ⟨_, rfl, holds_agg (vs := [_, _, _, _]) T.agg_111_4 rfl (by exact sat_cells hw (by (repeat first | with_reducible exact xH | apply xT); first | done | fail) ⟨rfl, rfl, rfl, rfl, trivial⟩)⟩ rfl ?_
          rw [e9]
          dsimp only
          rw [hdl]
          exact ⟨_, _, _, rfl, hrd, hfr, hw.xQ⟩
      · try with_reducible exact tf_elim h1
        all_goals
          try replace h1 := of_decide_eq_false h1
          have hbp := nb_f h1
          have hPt : bad = false → ¬ (t.kind = 5 ∧ 0 < t.list.length ∧ (tmAt t.list 0).kind = k) := fun q1 q2 => by rw [q1, show P = true from hP.trans (decide_eq_true q2)] at hbp; cases hbp
          have e9 : restT bad t k = (tm0, [], true) := by unfold restT; rw [if_neg (fun q => hPt q.1 q.2)]
          rw [hbp] at hw
          refine g_skip (g_seq ?_)
          refine g_region ?_
          refine xV rfl rfl rfl (v_build rfl (T.build_111 ..)) ?_
          refine rl_k rfl (k_storeWhole hw T.agg_111_4 rfl rfl (by simp [Value.oneCell']) rfl (by (repeat first | with_reducible exact xH | apply xT); first | done | fail) rfl (fun w hw => ?_))
          refine xV rfl rfl rfl (v_assign rfl) ?_
          refine rl_nil (g_le (xK (xS rfl (Fr.le_refl _))) ?_)
          refine g_res2 Try.func81 rfl ⟨_, rfl, holds_agg (vs := [_, _, _, _]) T.agg_111_4 rfl (by exact sat_cells hw (by (repeat first | with_reducible exact xH | apply xT); first | done | fail) ⟨rfl, rfl, rfl, rfl, trivial⟩)⟩ rfl ?_
          rw [e9]
          exact ⟨_, _, _, rfl, rd_tm0 g, rdSl_nil _, hw.xQ⟩
  · intro joins1
    refine g_region ?_
    refine xV rfl rfl rfl (v_move rfl) ?_
    refine xV rfl rfl rfl (v_fieldAddr0 T.fld_111_0_0 rfl) ?_
    refine rl_v rfl rfl rfl (by exact sat_cell hw (by (repeat first | with_reducible exact xH | apply xT); first | done | fail) rfl) (v_load T.scal_3 rfl) ?_
    refine xV rfl rfl rfl (v_eql rfl rfl) ?_
    refine xV rfl rfl rfl (v_move rfl) ?_
    refine rl_split (s := 12) rfl (fun g1_4 => ?_) (fun g1_4 => ?_)
    · try with_reducible exact ft_elim g1_4
      all_goals
        try replace g1_4 := of_decide_eq_true g1_4
        refine rl_vg (met_on rfl rfl rfl rfl) rfl rfl (S := fun _ => True) trivial (v_fieldAddr0 T.fld_111_3_3 rfl) ?_
        refine rl_vg (met_on rfl rfl rfl rfl) rfl rfl (by exact sat_cell hw (by (repeat first | with_reducible exact xH | apply xT); first | done | fail) rfl) (v_load T.scal_109 rfl) ?_
        refine rl_vg (met_on rfl rfl rfl rfl) rfl rfl (S := fun _ => True) trivial (v_lenSlice T.sl_109_111_4 rfl) ?_
        refine rl_vg (met_on rfl rfl rfl rfl) rfl rfl (S := fun _ => True) trivial (v_gtr rfl rfl) ?_
        refine xV rfl rfl rfl (v_pick_true rfl rfl) ?_
        refine xV rfl rfl rfl (v_move rfl) ?_
        refine rl_split (s := 18) rfl (fun g1_10 => ?_) (fun g1_10 => ?_)
        · try with_reducible exact ft_elim g1_10
          all_goals
            try replace g1_10 := of_decide_eq_true g1_10
            have hz := hw
            clear hw
            obtain ⟨b4, o1, xa, xc, rfl, hat1, hrd⟩ := tm_at hl 0 (by omega) (by omega)
            have hw := hz
            clear hz
            refine rl_vg (met_on rfl rfl rfl rfl) rfl rfl (S := fun _ => True) trivial (v_fieldAddr0 T.fld_111_3_3 rfl) ?_
            refine rl_vg (met_on rfl rfl rfl rfl) rfl rfl (by exact sat_cell hw (by (repeat first | with_reducible exact xH | apply xT); first | done | fail) rfl) (v_load T.scal_109 rfl) ?_
            refine rl_vg (met_on rfl rfl rfl rfl) rfl rfl (S := fun _ => True) trivial (v_indexAddr T.sl_109_111_4 rfl rfl (by omega) (by omega)) ?_
            refine rl_vg (met_on rfl rfl rfl rfl) rfl rfl (S := fun _ => True) trivial (v_fieldAddr T.fld_111_0_0 rfl) ?_
            refine rl_vg (met_on rfl rfl rfl rfl) rfl rfl (by exact ro_at0 hw (by (repeat first | with_reducible exact xH | apply xT); first | done | fail) (by assumption) rfl) (v_load T.scal_3 rfl) ?_
            refine rl_vg (met_on rfl rfl rfl rfl) rfl rfl (S := fun _ => True) trivial (v_move rfl) ?_
            refine rl_vg (met_on rfl rfl rfl rfl) rfl rfl (S := fun _ => True) trivial (v_eql rfl rfl) ?_
            refine xV rfl rfl rfl (v_pick_true rfl rfl) ?_
            refine rl_k rfl (k_callf Try.func82 rfl rfl rfl rfl ?_)
            refine Calls.mono (want_eq _ P (by rw [hP]; exact decide_eq_decide.2 (by omega)) (hw.xQ)) ?_
            rintro _ w ⟨rfl, hw⟩
            refine ⟨_, rfl, ?_⟩
            refine rl_nil (g_le (xK (xS rfl (xS rfl (xS rfl (xS rfl (xS rfl (xS rfl (xS rfl (xS rfl (xS rfl (xS rfl (xS rfl (xS rfl (xS rfl (xS rfl (xS rfl (xS rfl (xS rfl (xS rfl (xS rfl (xS rfl (xS rfl (Fr.le_refl _))))))))))))))))))))))) ?_)
            exact joins1 _ w _ (by repeat (first | exact Fr.le_nil _ | refine Fr.le_cons rfl ?_)) ⟨rfl, hw.xQ⟩
        · try with_reducible exact tf_elim g1_10
          all_goals
            try replace g1_10 := of_decide_eq_false g1_10
            refine rl_off (met_off rfl rfl rfl rfl rfl) rfl rfl ?_
            refine rl_off (met_off rfl rfl rfl rfl rfl) rfl rfl ?_
            refine rl_off (met_off rfl rfl rfl rfl rfl) rfl rfl ?_
            refine rl_off (met_off rfl rfl rfl rfl rfl) rfl rfl ?_
            refine rl_off (met_off rfl rfl rfl rfl rfl) rfl rfl ?_
            refine rl_off (met_off rfl rfl rfl rfl rfl) rfl rfl ?_
            refine rl_off (met_off rfl rfl rfl rfl rfl) rfl rfl ?_
            refine xV rfl rfl rfl (v_pick_false rfl rfl) ?_
            refine rl_k rfl (k_callf Try.func82 rfl rfl rfl rfl ?_)
            refine Calls.mono (want_eq _ P (by rw [hP]; exact (decide_eq_false (by omega)).symm) (hw.xQ)) ?_
            rintro _ w ⟨rfl, hw⟩
            refine ⟨_, rfl, ?_⟩
            refine rl_nil (g_le (xK (xS rfl (xS rfl (xS rfl (xS rfl (xS rfl (xS rfl (xS rfl (xS rfl (xS rfl (xS rfl (xS rfl (xS rfl (xS rfl (xS rfl (xS rfl (xS rfl (xS rfl (xS rfl (xS rfl (xS rfl (xS rfl (Fr.le_refl _))))))))))))))))))))))) ?_)
            exact joins1 _ w _ (by repeat (first | exact Fr.le_nil _ | refine Fr.le_cons rfl ?_)) ⟨rfl, hw.xQ⟩
    · try with_reducible exact tf_elim g1_4
      all_goals
        try replace g1_4 := of_decide_eq_false g1_4
        refine rl_off (met_off rfl rfl rfl rfl rfl) rfl rfl ?_
        refine rl_off (met_off rfl rfl rfl rfl rfl) rfl rfl ?_
        refine rl_off (met_off rfl rfl rfl rfl rfl) rfl rfl ?_
        refine rl_off (met_off rfl rfl rfl rfl rfl) rfl rfl ?_
        refine xV rfl rfl rfl (v_pick_false rfl rfl) ?_
        refine xV rfl rfl rfl (v_move rfl) ?_
        refine rl_off (met_off rfl rfl rfl rfl rfl) rfl rfl ?_
        refine rl_off (met_off rfl rfl rfl rfl rfl) rfl rfl ?_
        refine rl_off (met_off rfl rfl rfl rfl rfl) rfl rfl ?_
        refine rl_off (met_off rfl rfl rfl rfl rfl) rfl rfl ?_
        refine rl_off (met_off rfl rfl rfl rfl rfl) rfl rfl ?_
        refine rl_off (met_off rfl rfl rfl rfl rfl) rfl rfl ?_
        refine rl_off (met_off rfl rfl rfl rfl rfl) rfl rfl ?_
        refine xV rfl rfl rfl (v_pick_false rfl rfl) ?_
        refine rl_k rfl (k_callf Try.func82 rfl rfl rfl rfl ?_)
        refine Calls.mono (want_eq _ P (by rw [hP]; exact (decide_eq_false (by omega)).symm) (hw.xQ)) ?_
        rintro _ w ⟨rfl, hw⟩
        refine ⟨_, rfl, ?_⟩
        refine rl_nil (g_le (xK (xS rfl (xS rfl (xS rfl (xS rfl (xS rfl (xS rfl (xS rfl (xS rfl (xS rfl (xS rfl (xS rfl (xS rfl (xS rfl (xS rfl (xS rfl (xS rfl (xS rfl (xS rfl (xS rfl (xS rfl (Fr.le_refl _)))))))))))))))))))))) ?_)
        exact joins1 _ w _ (by repeat (first | exact Fr.le_nil _ | refine Fr.le_cons rfl ?_)) ⟨rfl, hw.xQ⟩
theorem number6_calls {E : Env} {w : World} {L : List As} {g : Hp} {p : Nat} {bad : Bool} {cs : List Value} {t : Tm} (ht : rdTm g cs t) (hw : Sat E w (RbAt p bad :: RO g :: L)) :
    Calls Try.prog 95 #[.pointer (some ⟨p, 0, none⟩), .agg cs.toArray] w fun e w' => e = .returned (.int .i64 (numR bad t).1) ∧ Sat E w' (RbAt p (numR bad t).2 :: RO g :: L) := by
  obtain ⟨a, c, rfl, ⟨n0, n1, _⟩, hl⟩ := tm_shape ht
  obtain ⟨P, hP⟩ : ∃ P, P = decide (t.kind = 1 ∧ t.num ≤ 2147483647) := ⟨_, rfl⟩
  refine calls_of_g (n := 18) Try.func95 rfl rfl rfl ?_
  change G _ _ _ _ _ [(0, _), (1, _)] _
  refine g_seq ?_
  refine g_region ?_
  refine rl_k rfl (k_box hw rfl rfl rfl (fun bk0_0 w hw => ?_))
  refine xV rfl rfl rfl (v_assign rfl) ?_
  refine rl_nil (g_le (xK (xK (Fr.le_refl _))) ?_)
  refine g_seq (g_seq ?_)
  refine g_cutc (σ := Bool) (fun C x => (14, .bool x) :: C) [(3, _), (4, _)] (by repeat (first | exact Fr.le_nil _ | refine Fr.le_cons rfl ?_)) (fun z w => z = (!(bad || !P)) ∧ Sat E w (RbAt p (bad || !P) :: pt bk0_0 (.cells (tmC t.kind t.num t.bytes (.slice a t.list.length c)).toArray 111 (0, 0)) :: RO g :: L)) ?_ ?_
  · skip
    rintro _ w ⟨rfl, hw⟩
    all_goals
      refine g_cond rfl (fun h1 => ?_) (fun h1 => ?_)
      · try with_reducible exact ft_elim h1
        all_goals
          try replace h1 := of_decide_eq_true h1
          obtain ⟨rfl, rfl⟩ := nb_t h1
          obtain ⟨p1, p2⟩ := of_decide_eq_true hP.symm
          have e9 : numR false t = (t.num, false) := by unfold numR; rw [if_pos ⟨rfl, p1, p2⟩]
          rw [show (false || !true) = false from rfl] at hw
          refine g_seq ?_
          refine g_region ?_
          refine xV rfl rfl rfl (v_fieldAddr0 T.fld_111_1_1 rfl) ?_
          refine rl_v rfl rfl rfl (by exact sat_cell hw (by (repeat first | with_reducible exact xH | apply xT); first | done | fail) rfl) (v_load T.scal_49 rfl) ?_
          refine xV rfl rfl rfl (v_convS T.int_3_i64 T.int_49_u64 rfl (by omega) (by omega)) ?_
          refine xV rfl rfl rfl (v_assign rfl) ?_
          refine rl_nil (g_le (xK (xS rfl (xS rfl (xS rfl (Fr.le_refl _))))) ?_)
          refine g_ret1 Try.func95 rfl rfl ?_
          rw [e9]
          exact ⟨rfl, hw.xQ⟩
      · try with_reducible exact tf_elim h1
        all_goals
          try replace h1 := of_decide_eq_false h1
          have hbp := nb_f h1
          have hPt : bad = false → ¬ (t.kind = 1 ∧ t.num ≤ 2147483647) := fun q1 q2 => by rw [q1, show P = true from hP.trans (decide_eq_true q2)] at hbp; cases hbp
          have e9 : numR bad t = (0, true) := by unfold numR; rw [if_neg (fun q => hPt q.1 q.2)]
          rw [hbp] at hw
          refine g_skip (g_seq ?_)
          refine g_region ?_
          refine xV rfl rfl rfl (v_assign rfl) ?_
          refine rl_nil (g_le (xK (Fr.le_refl _)) ?_)
          refine g_ret1 Try.func95 rfl rfl ?_
          rw [e9]
          exact ⟨rfl, hw.xQ⟩
  · intro joins1
    refine g_region ?_
    refine xV rfl rfl rfl (v_move rfl) ?_
    refine xV rfl rfl rfl (v_fieldAddr0 T.fld_111_0_0 rfl) ?_
    refine rl_v rfl rfl rfl (by exact sat_cell hw (by (repeat first | with_reducible exact xH | apply xT); first | done | fail) rfl) (v_load T.scal_3 rfl) ?_
    refine xV rfl rfl rfl (v_eql rfl rfl) ?_
    refine xV rfl rfl rfl (v_move rfl) ?_
    refine rl_split (s := 9) rfl (fun g1_4 => ?_) (fun g1_4 => ?_)
    · try with_reducible exact ft_elim g1_4
      all_goals
        try replace g1_4 := of_decide_eq_true g1_4
        refine rl_vg (met_on rfl rfl rfl rfl) rfl rfl (S := fun _ => True) trivial (v_fieldAddr0 T.fld_111_1_1 rfl) ?_
        refine rl_vg (met_on rfl rfl rfl rfl) rfl rfl (by exact sat_cell hw (by (repeat first | with_reducible exact xH | apply xT); first | done | fail) rfl) (v_load T.scal_49 rfl) ?_
        refine rl_vg (met_on rfl rfl rfl rfl) rfl rfl (S := fun _ => True) trivial (v_leq rfl rfl) ?_
        refine xV rfl rfl rfl (v_pick_true rfl rfl) ?_
        refine rl_k rfl (k_callf Try.func82 rfl rfl rfl rfl ?_)
        refine Calls.mono (want_eq _ P (by rw [hP]; exact decide_eq_decide.2 (by omega)) (hw.xQ)) ?_
        rintro _ w ⟨rfl, hw⟩
        refine ⟨_, rfl, ?_⟩
        refine rl_nil (g_le (xK (xS rfl (xS rfl (xS rfl (xS rfl (xS rfl (xS rfl (xS rfl (xS rfl (xS rfl (xS rfl (Fr.le_refl _)))))))))))) ?_)
        exact joins1 _ w _ (by repeat (first | exact Fr.le_nil _ | refine Fr.le_cons rfl ?_)) ⟨rfl, hw.xQ⟩
    · try with_reducible exact tf_elim g1_4
      all_goals
        try replace g1_4 := of_decide_eq_false g1_4
        refine rl_off (met_off rfl rfl rfl rfl rfl) rfl rfl ?_
        refine rl_off (met_off rfl rfl rfl rfl rfl) rfl rfl ?_
        refine rl_off (met_off rfl rfl rfl rfl rfl) rfl rfl ?_
        refine xV rfl rfl rfl (v_pick_false rfl rfl) ?_
        refine rl_k rfl (k_callf Try.func82 rfl rfl rfl rfl ?_)
        refine Calls.mono (want_eq _ P (by rw [hP]; exact (decide_eq_false (by omega)).symm) (hw.xQ)) ?_
        rintro _ w ⟨rfl, hw⟩
        refine ⟨_, rfl, ?_⟩
        refine rl_nil (g_le (xK (xS rfl (xS rfl (xS rfl (xS rfl (xS rfl (xS rfl (xS rfl (xS rfl (xS rfl (xS rfl (Fr.le_refl _)))))))))))) ?_)
        exact joins1 _ w _ (by repeat (first | exact Fr.le_nil _ | refine Fr.le_cons rfl ?_)) ⟨rfl, hw.xQ⟩
theorem atom6_calls {E : Env} {w : World} {L : List As} {g : Hp} {p : Nat} {bad : Bool} {cs : List Value} {t : Tm} (ht : rdTm g cs t) (hw : Sat E w (RbAt p bad :: RO g :: L)) :
    Calls Try.prog 96 #[.pointer (some ⟨p, 0, none⟩), .agg cs.toArray] w fun e w' => e = .returned (.string t.bytes) ∧ Sat E w' (RbAt p (atomR bad t).2 :: RO g :: L) := by
  obtain ⟨a, c, rfl, _, hl⟩ := tm_shape ht
  refine calls_of_g (n := 12) Try.func96 rfl rfl rfl ?_
  change G _ _ _ _ _ [(0, _), (1, _)] _
  refine g_seq ?_
  refine g_region ?_
  refine rl_k rfl (k_box hw rfl rfl rfl (fun bk0_0 w hw => ?_))
  refine xV rfl rfl rfl (v_assign rfl) ?_
  refine rl_nil (g_le (xK (xK (Fr.le_refl _))) ?_)
  refine g_seq ?_
  refine g_region ?_
  refine xV rfl rfl rfl (v_move rfl) ?_
  refine xV rfl rfl rfl (v_fieldAddr0 T.fld_111_0_0 rfl) ?_
  refine rl_v rfl rfl rfl (by exact sat_cell hw (by (repeat first | with_reducible exact xH | apply xT); first | done | fail) rfl) (v_load T.scal_3 rfl) ?_
  refine xV rfl rfl rfl (v_eql rfl rfl) ?_
  refine rl_k rfl (k_callf Try.func82 rfl rfl rfl rfl ?_)
  refine Calls.mono (want_calls _ (hw.xQ)) ?_
  rw [show (bad || !decide (t.kind = 2)) = (atomR bad t).2 by unfold atomR; simp]
  rintro _ w ⟨rfl, hw⟩
  refine ⟨_, rfl, ?_⟩
  refine rl_nil (g_le (xS rfl (xS rfl (xS rfl (xS rfl (xS rfl (Fr.le_refl _)))))) ?_)
  refine g_seq ?_
  refine g_region ?_
  refine xV rfl rfl rfl (v_fieldAddr0 T.fld_111_2_2 rfl) ?_
  refine rl_v rfl rfl rfl (by exact sat_cell hw (by (repeat first | with_reducible exact xH | apply xT); first | done | fail) rfl) (v_load T.scal_9 rfl) ?_
  refine xV rfl rfl rfl (v_assign rfl) ?_
  refine rl_nil (g_le (xK (xS rfl (xS rfl (Fr.le_refl _)))) ?_)
  refine g_ret1 Try.func96 rfl rfl ?_
  exact ⟨rfl, hw.xQ⟩
theorem i64_wf6 {n : Int} (h : 0 ≤ n ∧ n ≤ 2147483647) : (Lit.int .i64 n).wf = true := by
  have e1 : IntKind.i64.min = -9223372036854775808 := rfl
  have e2 : IntKind.i64.max = 9223372036854775807 := rfl
  simp only [Lit.wf, e1, e2, Bool.and_eq_true, decide_eq_true_eq]
  omega
theorem verR_cons (bad : Bool) (x : Tm) (xs : List Tm) (acc : List Vn) : verR bad (x :: xs) acc = if bad = false ∧ x.kind = 5 ∧ x.list.length = 3 then
      verR (atomR (atomR (numR false (tmAt x.list 0)).2 (tmAt x.list 1)).2 (tmAt x.list 2)).2 xs (acc ++ [⟨(numR false (tmAt x.list 0)).1, (tmAt x.list 1).bytes, (tmAt x.list 2).bytes⟩])
    else verR true xs acc := rfl
theorem numR_le (b : Bool) (t : Tm) (h : 0 ≤ t.num) : 0 ≤ (numR b t).1 ∧ (numR b t).1 ≤ 2147483647 := by
  unfold numR; split
  · rename_i h1; exact ⟨h, h1.2.2⟩
  · simp
theorem tm_bnd {g : Hp} {cs : List Value} {t : Tm} (h : rdTm g cs t) : 0 ≤ t.num ∧ t.bytes.size ≤ reachBytes := by
  obtain ⟨_, _, _, ⟨h1, _, _, _, h2⟩, _⟩ := tm_shape h
  exact ⟨h1, h2⟩
theorem ord_f83_r7_U06e : orderOfB Try.f83 7 [22, 24] (.a 0 (.a 2 (.a 3 (.a 8 (.a 9 (.a 14 (.a 15 (.v 1 (.v 4 (.a 5 (.v 6 (.v 10 (.a 11 (.v 12 (.v 16 (.a 17 (.v 18 (.k 7 (.k 13 (.k 19 (.k 20 (.k 21 (.k 22 (.k 23 (.k 24 .done))))))))))))))))))))))))) = true := by kernel_rfl
set_option maxHeartbeats 4000000 in
theorem entry6_calls {E : Env} {w : World} {L : List As} {g : Hp} {p : Nat} {bad : Bool} {cs : List Value} {t : Tm} (ht : rdTm g cs t) (hw : Sat E w (RbAt p bad :: RO g :: L)) :
    Calls Try.prog 83 #[.pointer (some ⟨p, 0, none⟩), .agg cs.toArray] w fun e w' => ∃ v, e = .returned (.agg #[.string (entryR bad t).1.name, v]) ∧ (entryR bad t).1.fine ∧ Sat E w' (VnsAt v (entryR bad t).1.versions :: RbAt p (entryR bad t).2 :: RO g :: L) := by
  obtain ⟨a, c, rfl, _, hl⟩ := tm_shape ht
  unfold entryR
  refine calls_of_g (n := 62) Try.func83 rfl rfl rfl ?_
  change G _ _ _ _ _ [(0, _), (1, _)] _
  refine g_seq ?_
  refine g_region ?_
  refine rl_k rfl (k_box hw rfl rfl rfl (fun bk0_0 w hw => ?_))
  refine rl_k rfl (k_alloc hw T.zero_126 rfl rfl (fun bk0_1 w hw => ?_))
  refine rl_nil (g_le (xK (xK (Fr.le_refl _))) ?_)
  refine g_seq ?_
  refine g_region ?_
  refine xV rfl rfl rfl (v_move rfl) ?_
  refine rl_v rfl rfl rfl (by exact sat_cells hw (by (repeat first | with_reducible exact xH | apply xT); first | done | fail) ⟨rfl, rfl, rfl, rfl, trivial⟩) (v_loadAgg (vs := [_, _, _, _]) T.agg_111_4 rfl rfl) ?_
  refine rl_k rfl (k_callf Try.func81 rfl rfl rfl rfl ?_)
  refine Calls.mono (rest_calls 2 ht (hw.xQ)) ?_
  generalize restT bad t 2 = rr
  obtain ⟨nm, l, bad⟩ := rr
  dsimp only
  rintro _ w ⟨cs1, sa, sc, rfl, hrn, hl2, hw⟩
  have hz := hw
  clear hw
  obtain ⟨ya, yc, rfl, hnb, _⟩ := tm_shape hrn
  obtain ⟨_, hb1, hc1, hmx, g1⟩ := rdSl_get hl2
  simp only [reachBytes] at hb1
  have hw := hz
  clear hz
  refine ⟨_, rfl, ?_⟩
  refine xV rfl rfl rfl (v_move rfl) ?_
  refine xV rfl rfl rfl (v_extract rfl rfl) ?_
  refine xV rfl rfl rfl (v_extract rfl rfl) ?_
  refine rl_k rfl (k_alloc hw T.zero_111 rfl rfl (fun bk1_6 w hw => ?_))
  refine rl_k rfl (k_storeWhole hw T.agg_111_4 rfl rfl (by simp [Value.oneCell']) rfl (by (repeat first | with_reducible exact xH | apply xT); first | done | fail) rfl (fun w hw => ?_))
  refine xV rfl rfl rfl (v_assign rfl) ?_
  refine rl_nil (g_le (xK (xK (xS rfl (xS rfl (xS rfl (xS rfl (xS rfl (xS rfl (Fr.le_refl _))))))))) ?_)
  refine g_seq ?_
  refine g_region ?_
  refine xV rfl rfl rfl (v_fieldAddr0 T.fld_111_2_2 rfl) ?_
  refine rl_v rfl rfl rfl (by exact sat_cell hw (by (repeat first | with_reducible exact xH | apply xT); first | done | fail) rfl) (v_load T.scal_9 rfl) ?_
  refine xV rfl rfl rfl (v_build rfl (T.build_126_0 ..)) ?_
  refine rl_k rfl (k_alloc hw T.zero_126 rfl rfl (fun bk2_3 w hw => ?_))
  refine rl_k rfl (k_storeWhole hw T.agg_126_2 rfl rfl (by simp [Value.oneCell']) rfl (by (repeat first | with_reducible exact xH | apply xT); first | done | fail) rfl (fun w hw => ?_))
  refine rl_nil (g_le (xK (xS rfl (xS rfl (xS rfl (Fr.le_refl _))))) ?_)
  refine g_seq (g_seq ?_)
  refine g_region ?_
  refine xV rfl rfl rfl (v_move rfl) ?_
  refine xV rfl rfl rfl (v_lenSlice T.sl_109_111_4 rfl) ?_
  refine xV rfl rfl rfl (v_move rfl) ?_
  refine rl_nil (g_le (xK (xK (xK (Fr.le_refl _)))) ?_)
  refine g_block ?_
  refine g_loopC (σ := Int × Bool × List Vn × Value) (fun C x => (21, .int .i64 x.1) :: C) [(0, _), (4, _), (7, _), (19, _), (20, _)] (by repeat (first | exact Fr.le_nil _ | refine Fr.le_cons rfl ?_)) (fun z w => 0 ≤ z.1 ∧ z.1 ≤ l.length ∧ (z.2.2.1.length : Int) ≤ z.1 ∧ verR bad l [] = verR z.2.1 (l.drop z.1.toNat) z.2.2.1 ∧ (∀ v ∈ z.2.2.1, v.ok) ∧ Sat E w (RbAt p z.2.1 :: OwnSl 136 3 z.2.2.2 z.2.2.1.length (z.2.2.1.flatMap Vn.cells) :: pt bk2_3 (.cells [Value.string nm.bytes, z.2.2.2].toArray 126 (0, 0)) :: pt bk0_1 (.cells [Value.string ByteArray.empty, .slice none 0 0].toArray 126 (0, 0)) :: RO g :: L)) (fun z => (l.length - z.1).toNat) ?_ (0, bad, [], .slice none 0 0) (by repeat (first | exact Fr.le_nil _ | refine Fr.le_cons rfl ?_)) ⟨by simp, by simp, by simp, by simp, by simp, by dsimp only; exact (show Sat E w (OwnSl 136 3 (.slice none 0 0) ([] : List Vn).length (([] : List Vn).flatMap Vn.cells) :: _) from hw.own_nil 136 3).xQ⟩
  rintro ⟨i, bd, acc, v⟩ w ⟨hi0, hi1, hal, heq, hok, hw⟩ ih
  dsimp only at hi0 hi1 hal heq hok hw ih ⊢
  refine g_seq ?_
  refine g_region ?_
  refine xV rfl rfl rfl (v_lss rfl rfl) ?_
  refine rl_nil (g_le (xK (Fr.le_refl _)) ?_)
  refine g_seq ?_
  refine g_cond rfl (fun h1 => ?_) (fun h1 => ?_)
  · try with_reducible exact ft_elim h1
    all_goals
      try replace h1 := of_decide_eq_true h1
      refine g_skip (g_seq (g_block (g_seq ?_)))
      have hz := hw
      clear hw
      obtain ⟨b4, o1, x, ecs, rfl, hx, hat1, hl1, hrd⟩ := g1 i hi0 (by omega)
      obtain ⟨xa, xc, rfl, hxb, hxl⟩ := tm_shape hrd
      have hdr : l.drop i.toNat = x :: l.drop (i.toNat + 1) := by obtain ⟨h9, h8⟩ := List.getElem?_eq_some_iff.1 hx; rw [List.drop_eq_getElem_cons h9, h8]
      rw [hdr, verR_cons] at heq
      obtain ⟨P, hP⟩ : ∃ P, P = decide (x.kind = 5 ∧ x.list.length = 3) := ⟨_, rfl⟩
      obtain ⟨va, vc, rfl, _, _, _⟩ := (hz.pick .at1).own_shape
      have hw := hz
      clear hz
      refine g_region ?_
      refine xV rfl rfl rfl (v_indexAddr T.sl_109_111_4 rfl rfl (by omega) (by omega)) ?_
      refine rl_v rfl rfl rfl (by exact ro_ats hw (by (repeat first | with_reducible exact xH | apply xT); first | done | fail) (by assumption)) (v_loadAgg (vs := [_, _, _, _]) T.agg_111_4 rfl rfl) ?_
      refine rl_k rfl (k_alloc hw T.zero_111 rfl rfl (fun bk5_2 w hw => ?_))
      refine rl_k rfl (k_storeWhole hw T.agg_111_4 rfl rfl (by simp [Value.oneCell']) rfl (by (repeat first | with_reducible exact xH | apply xT); first | done | fail) rfl (fun w hw => ?_))
      refine rl_nil (g_le (xK (xK (xK (Fr.le_refl _)))) ?_)
      refine g_seq ?_
      refine g_cutc (σ := Bool) (fun C x => (35, .bool x) :: C) [(0, _), (4, _), (7, _), (9, _), (19, _), (20, _), (21, _), (22, _), (23, _), (24, _)] (by repeat (first | exact Fr.le_nil _ | refine Fr.le_cons rfl ?_)) (fun z w => z = (!(bd || !P)) ∧ Sat E w (RbAt p (bd || !P) :: OwnSl 136 3 (.slice va acc.length vc) acc.length (acc.flatMap Vn.cells) :: pt bk5_2 (.cells (tmC x.kind x.num x.bytes (.slice xa x.list.length xc)).toArray 111 (0, 0)) :: pt bk2_3 (.cells [Value.string nm.bytes, .slice va acc.length vc].toArray 126 (0, 0)) :: pt bk0_1 (.cells [Value.string ByteArray.empty, .slice none 0 0].toArray 126 (0, 0)) :: RO g :: L)) ?_ ?_
      · skip
        rintro _ w ⟨rfl, hw⟩
        all_goals
          refine g_cond rfl (fun h2 => ?_) (fun h2 => ?_)
          · try with_reducible exact ft_elim h2
            all_goals
              try replace h2 := of_decide_eq_true h2
              obtain ⟨rfl, rfl⟩ := nb_t h2
              obtain ⟨p1, p2⟩ := of_decide_eq_true hP.symm
              rw [show (false || !true) = false from rfl] at hw
              rw [if_pos ⟨rfl, p1, p2⟩] at heq
              have hz := hw
              clear hw
              obtain ⟨b5, o5, x0a, x0c, hxa, hat5, hrd5⟩ := tm_at hxl 0 (by omega) (by omega)
              obtain ⟨b6, o6, x1a, x1c, hxa6, hat6, hrd6⟩ := tm_at hxl 1 (by omega) (by omega)
              obtain ⟨b7, o7, x2a, x2c, hxa7, hat7, hrd7⟩ := tm_at hxl 2 (by omega) (by omega)
              rw [hxa] at hxa6 hxa7
              simp only [Option.some.injEq, Addr.mk.injEq, and_true] at hxa6 hxa7
              obtain ⟨rfl, rfl⟩ := hxa6
              obtain ⟨rfl, rfl⟩ := hxa7
              subst hxa
              rw [show (0 : Int).toNat = 0 from rfl] at hrd5
              rw [show (1 : Int).toNat = 1 from rfl] at hrd6
              rw [show (2 : Int).toNat = 2 from rfl] at hrd7
              have hone : ∀ u ∈ acc.flatMap Vn.cells, u.oneCell' = true := Els.ones one_Vn (els_of (g := g) (f := Vn.cells) (R := rdVn) (sz := 3) (fun x => rfl) (fun x hx => ⟨rfl, hok x hx⟩))
              have hlen : (acc.flatMap Vn.cells).length = acc.length * 3 := (els_of (g := g) (f := Vn.cells) (R := rdVn) (sz := 3) (fun x => rfl) (fun x hx => ⟨rfl, hok x hx⟩)).len
              have hw := (hz.xP (A := OwnSl 136 3 (.slice va acc.length vc) acc.length (acc.flatMap Vn.cells))).xP (A := RbAt p false)
              clear hz
              refine g_drawB ord_f83_r7_U06e (by kernel_rfl) T.mixed (fun w hw => ((hw.pick .at0).drop.pick .at0).drop) hw (fun w hw => ?_)
              refine rs_a 0 rfl rfl rfl rfl (v_fieldAddr0 T.fld_126_1_1 rfl) ?_
              refine rs_a 2 rfl rfl rfl rfl (v_move rfl) ?_
              refine rs_a 3 rfl rfl rfl rfl (v_fieldAddr0 T.fld_111_3_3 rfl) ?_
              refine rs_a 8 rfl rfl rfl rfl (v_move rfl) ?_
              refine rs_a 9 rfl rfl rfl rfl (v_fieldAddr0 T.fld_111_3_3 rfl) ?_
              refine rs_a 14 rfl rfl rfl rfl (v_move rfl) ?_
              refine rs_a 15 rfl rfl rfl rfl (v_fieldAddr0 T.fld_111_3_3 rfl) ?_
              refine rs_v 1 rfl rfl rfl rfl (OpV.mono (v_load T.scal_124 rfl) (fun w hw => by exact sat_cell hw (by (repeat first | with_reducible exact xH | apply xT); first | done | fail) rfl)) (by exact Sat.sub hw (by (repeat (first | with_reducible exact Sub.refl _ | exact Sub.nil _ | (apply Sub.cons; focus ((repeat (first | with_reducible exact Pick.here _ | apply Pick.there)); (first | done | fail))) | with_reducible apply Sub.drop)); first | done | fail)) ?_
              refine rs_v 4 rfl rfl rfl rfl (OpV.mono (v_load T.scal_109 rfl) (fun w hw => by exact sat_cell hw (by (repeat first | with_reducible exact xH | apply xT); first | done | fail) rfl)) (by exact Sat.sub hw (by (repeat (first | with_reducible exact Sub.refl _ | exact Sub.nil _ | (apply Sub.cons; focus ((repeat (first | with_reducible exact Pick.here _ | apply Pick.there)); (first | done | fail))) | with_reducible apply Sub.drop)); first | done | fail)) ?_
              refine rs_a 5 rfl rfl rfl rfl (v_indexAddr T.sl_109_111_4 rfl rfl (by omega) (by omega)) ?_
              refine rs_v 6 rfl rfl rfl rfl (OpV.mono (v_loadAgg (vs := [_, _, _, _]) T.agg_111_4 rfl rfl) (fun w hw => by exact ro_ats hw (by (repeat first | with_reducible exact xH | apply xT); first | done | fail) (by assumption))) (by exact Sat.sub hw (by (repeat (first | with_reducible exact Sub.refl _ | exact Sub.nil _ | (apply Sub.cons; focus ((repeat (first | with_reducible exact Pick.here _ | apply Pick.there)); (first | done | fail))) | with_reducible apply Sub.drop)); first | done | fail)) ?_
              refine rs_v 10 rfl rfl rfl rfl (OpV.mono (v_load T.scal_109 rfl) (fun w hw => by exact sat_cell hw (by (repeat first | with_reducible exact xH | apply xT); first | done | fail) rfl)) (by exact Sat.sub hw (by (repeat (first | with_reducible exact Sub.refl _ | exact Sub.nil _ | (apply Sub.cons; focus ((repeat (first | with_reducible exact Pick.here _ | apply Pick.there)); (first | done | fail))) | with_reducible apply Sub.drop)); first | done | fail)) ?_
              refine rs_a 11 rfl rfl rfl rfl (v_indexAddr T.sl_109_111_4 rfl rfl (by omega) (by omega)) ?_
              refine rs_v 12 rfl rfl rfl rfl (OpV.mono (v_loadAgg (vs := [_, _, _, _]) T.agg_111_4 rfl rfl) (fun w hw => by exact ro_ats hw (by (repeat first | with_reducible exact xH | apply xT); first | done | fail) (by assumption))) (by exact Sat.sub hw (by (repeat (first | with_reducible exact Sub.refl _ | exact Sub.nil _ | (apply Sub.cons; focus ((repeat (first | with_reducible exact Pick.here _ | apply Pick.there)); (first | done | fail))) | with_reducible apply Sub.drop)); first | done | fail)) ?_
              refine rs_v 16 rfl rfl rfl rfl (OpV.mono (v_load T.scal_109 rfl) (fun w hw => by exact sat_cell hw (by (repeat first | with_reducible exact xH | apply xT); first | done | fail) rfl)) (by exact Sat.sub hw (by (repeat (first | with_reducible exact Sub.refl _ | exact Sub.nil _ | (apply Sub.cons; focus ((repeat (first | with_reducible exact Pick.here _ | apply Pick.there)); (first | done | fail))) | with_reducible apply Sub.drop)); first | done | fail)) ?_
              refine rs_a 17 rfl rfl rfl rfl (v_indexAddr T.sl_109_111_4 rfl rfl (by omega) (by omega)) ?_
              refine rs_v 18 rfl rfl rfl rfl (OpV.mono (v_loadAgg (vs := [_, _, _, _]) T.agg_111_4 rfl rfl) (fun w hw => by exact ro_ats hw (by (repeat first | with_reducible exact xH | apply xT); first | done | fail) (by assumption))) (by exact Sat.sub hw (by (repeat (first | with_reducible exact Sub.refl _ | exact Sub.nil _ | (apply Sub.cons; focus ((repeat (first | with_reducible exact Pick.here _ | apply Pick.there)); (first | done | fail))) | with_reducible apply Sub.drop)); first | done | fail)) ?_
              refine rs_k 7 rfl rfl (k_callf Try.func95 rfl rfl rfl rfl ?_)
              refine Calls.mono (number6_calls hrd5 (hw.xQ)) ?_
              rintro _ w ⟨rfl, hw⟩
              refine ⟨_, rfl, ?_⟩
              refine ⟨fun _ => (by exact Sat.sub hw (by (repeat (first | with_reducible exact Sub.refl _ | exact Sub.nil _ | (apply Sub.cons; focus ((repeat (first | with_reducible exact Pick.here _ | apply Pick.there)); (first | done | fail))) | with_reducible apply Sub.drop)); first | done | fail)), ?_⟩
              refine rs_k 13 rfl rfl (k_callf Try.func96 rfl rfl rfl rfl ?_)
              refine Calls.mono (atom6_calls hrd6 (hw.xQ)) ?_
              rintro _ w ⟨rfl, hw⟩
              refine ⟨_, rfl, ?_⟩
              refine ⟨fun _ => (by exact Sat.sub hw (by (repeat (first | with_reducible exact Sub.refl _ | exact Sub.nil _ | (apply Sub.cons; focus ((repeat (first | with_reducible exact Pick.here _ | apply Pick.there)); (first | done | fail))) | with_reducible apply Sub.drop)); first | done | fail)), ?_⟩
              refine rs_k 19 rfl rfl (k_callf Try.func96 rfl rfl rfl rfl ?_)
              refine Calls.mono (atom6_calls hrd7 (hw.xQ)) ?_
              rintro _ w ⟨rfl, hw⟩
              refine ⟨_, rfl, ?_⟩
              refine ⟨fun _ => (by exact Sat.sub hw (by (repeat (first | with_reducible exact Sub.refl _ | exact Sub.nil _ | (apply Sub.cons; focus ((repeat (first | with_reducible exact Pick.here _ | apply Pick.there)); (first | done | fail))) | with_reducible apply Sub.drop)); first | done | fail)), ?_⟩
              refine rs_kv 20 rfl rfl rfl rfl (S' := fun _ => True) trivial (v_build rfl (T.build_136_0_1_2 ..)) ?_
              refine rs_k 21 rfl rfl (k_buildSlice (cells := [_, _, _]) hw T.sl_124_136_3 T.zero_136 rfl rfl rfl rfl rfl rfl (fun bk7_21 w hw => ?_))
              refine ⟨fun _ => (by exact Sat.sub hw (by (repeat (first | with_reducible exact Sub.refl _ | exact Sub.nil _ | (apply Sub.cons; focus ((repeat (first | with_reducible exact Pick.here _ | apply Pick.there)); (first | done | fail))) | with_reducible apply Sub.drop)); first | done | fail)), ?_⟩
              refine rs_k 22 rfl rfl (k_append (news := [_, _, _]) hw T.sl_124_136_3 T.zero_136 T.bytes_136_40 rfl (by decide) rfl rfl (by (repeat first | with_reducible exact xH | apply xT); first | done | fail) rfl (by exact sat_cells hw (by (repeat first | with_reducible exact xH | apply xT); first | done | fail) ⟨rfl, rfl, rfl, trivial⟩) (by simp [Value.oneCell']) (by omega) (by simp only [maxLen]; omega) rfl (fun vv7_22 w hw hnil => ?_))
              refine ⟨fun hn => absurd (by decide) hn, ?_⟩
              have hz := hw
              clear hw
              obtain ⟨wa, wc, rfl, _, _, _⟩ := hz.own_shape
              have hw := hz
              clear hz
              refine rs_kv 23 rfl rfl rfl rfl (S' := fun _ => True) trivial (v_fieldAddr0 T.fld_126_1_1 rfl) ?_
              refine rs_k 24 rfl rfl (k_store hw T.scal_124 rfl rfl rfl (by (repeat first | with_reducible exact xH | apply xT); first | done | fail) rfl (by simp only [List.set, Int.reduceToNat, Nat.reduceMul, Nat.reduceAdd]; rfl) (fun w hw => ?_))
              refine ⟨fun hn => absurd (by decide) hn, ?_⟩
              refine rs_done (g_le (xK (xK (xK (xK (xK (xK (xK (xK (xK (xK (xK (xK (xK (xK (xK (xK (xK (xK (xK (xK (xK (xK (xK (xK (Fr.le_refl _))))))))))))))))))))))))) ?_)
              refine g_inBlock ?_
              refine g_region ?_
              refine xV rfl rfl rfl (v_add rfl rfl (by omega)) ?_
              refine xV rfl rfl rfl (v_move rfl) ?_
              refine rl_nil (g_le (xK (xK (Fr.le_refl _))) ?_)
              have hn5 := numR_le false _ (tm_bnd hrd5).1
              have h9 := Sat.own_flat (f := Vn.cells) (⟨(numR false (tmAt x.list 0)).1, (tmAt x.list 1).bytes, (tmAt x.list 2).bytes⟩ : Vn) (hw.xP (A := OwnSl 136 3 (.slice wa (acc.length + 1) wc) (acc.length + 1) (acc.flatMap Vn.cells ++ [.int .i64 (numR false (tmAt x.list 0)).1, .string (tmAt x.list 1).bytes, .string (tmAt x.list 2).bytes])))
              exact g_le (by repeat (first | exact Fr.le_nil _ | refine Fr.le_cons rfl ?_)) (ih (i + 1, _, acc ++ [⟨(numR false (tmAt x.list 0)).1, (tmAt x.list 1).bytes, (tmAt x.list 2).bytes⟩], .slice wa (acc.length + 1) wc) w ⟨by simp only; omega, by simp only; omega, by simp; omega, by simp only; rw [show (i + 1).toNat = i.toNat + 1 by omega]; exact heq, fun v hv => (List.mem_append.1 hv).elim (hok v) (fun h => by rw [List.mem_singleton.1 h]; exact ⟨i64_wf6 hn5, (tm_bnd hrd6).2, (tm_bnd hrd7).2⟩), h9.xQ⟩ (by simp only; omega))
          · try with_reducible exact tf_elim h2
            all_goals
              try replace h2 := of_decide_eq_false h2
              refine g_skip (g_inBlock ?_)
              refine g_region ?_
              refine xV rfl rfl rfl (v_add rfl rfl (by omega)) ?_
              refine xV rfl rfl rfl (v_move rfl) ?_
              refine rl_nil (g_le (xK (xK (Fr.le_refl _))) ?_)
              have hbp := nb_f h2
              have hPt : bd = false → ¬ (x.kind = 5 ∧ x.list.length = 3) := fun q1 q2 => by rw [q1, show P = true from hP.trans (decide_eq_true q2)] at hbp; cases hbp
              rw [if_neg (fun q => hPt q.1 q.2)] at heq
              rw [hbp] at hw
              exact g_le (by repeat (first | exact Fr.le_nil _ | refine Fr.le_cons rfl ?_)) (ih (i + 1, true, acc, .slice va acc.length vc) w ⟨by simp only; omega, by simp only; omega, by simp only; omega, by simp only; rw [show (i + 1).toNat = i.toNat + 1 by omega]; exact heq, hok, hw.xQ⟩ (by simp only; omega))
      · intro joins6
        refine g_region ?_
        refine xV rfl rfl rfl (v_move rfl) ?_
        refine xV rfl rfl rfl (v_fieldAddr0 T.fld_111_0_0 rfl) ?_
        refine rl_v rfl rfl rfl (by exact sat_cell hw (by (repeat first | with_reducible exact xH | apply xT); first | done | fail) rfl) (v_load T.scal_3 rfl) ?_
        refine xV rfl rfl rfl (v_eql rfl rfl) ?_
        refine xV rfl rfl rfl (v_move rfl) ?_
        refine rl_split (s := 29) rfl (fun g6_4 => ?_) (fun g6_4 => ?_)
        · try with_reducible exact ft_elim g6_4
          all_goals
            try replace g6_4 := of_decide_eq_true g6_4
            refine rl_vg (met_on rfl rfl rfl rfl) rfl rfl (S := fun _ => True) trivial (v_fieldAddr0 T.fld_111_3_3 rfl) ?_
            refine rl_vg (met_on rfl rfl rfl rfl) rfl rfl (by exact sat_cell hw (by (repeat first | with_reducible exact xH | apply xT); first | done | fail) rfl) (v_load T.scal_109 rfl) ?_
            refine rl_vg (met_on rfl rfl rfl rfl) rfl rfl (S := fun _ => True) trivial (v_lenSlice T.sl_109_111_4 rfl) ?_
            refine rl_vg (met_on rfl rfl rfl rfl) rfl rfl (S := fun _ => True) trivial (v_eql rfl rfl) ?_
            refine xV rfl rfl rfl (v_pick_true rfl rfl) ?_
            refine rl_k rfl (k_callf Try.func82 rfl rfl rfl rfl ?_)
            refine Calls.mono (want_eq _ P (by rw [hP]; exact decide_eq_decide.2 (by omega)) (hw.xQ)) ?_
            rintro _ w ⟨rfl, hw⟩
            refine ⟨_, rfl, ?_⟩
            refine rl_nil (g_le (xK (xK (xK (xK (xK (xK (xK (xK (xK (xK (xK (xK (Fr.le_refl _))))))))))))) ?_)
            exact joins6 _ w _ (by repeat (first | exact Fr.le_nil _ | refine Fr.le_cons rfl ?_)) ⟨rfl, hw.xQ⟩
        · try with_reducible exact tf_elim g6_4
          all_goals
            try replace g6_4 := of_decide_eq_false g6_4
            refine rl_off (met_off rfl rfl rfl rfl rfl) rfl rfl ?_
            refine rl_off (met_off rfl rfl rfl rfl rfl) rfl rfl ?_
            refine rl_off (met_off rfl rfl rfl rfl rfl) rfl rfl ?_
            refine rl_off (met_off rfl rfl rfl rfl rfl) rfl rfl ?_
            refine xV rfl rfl rfl (v_pick_false rfl rfl) ?_
            refine rl_k rfl (k_callf Try.func82 rfl rfl rfl rfl ?_)
            refine Calls.mono (want_eq _ P (by rw [hP]; exact (decide_eq_false (by omega)).symm) (hw.xQ)) ?_
            rintro _ w ⟨rfl, hw⟩
            refine ⟨_, rfl, ?_⟩
            refine rl_nil (g_le (xK (xK (xK (xK (xK (xK (xK (xK (xK (xK (xK (xK (Fr.le_refl _))))))))))))) ?_)
            exact joins6 _ w _ (by repeat (first | exact Fr.le_nil _ | refine Fr.le_cons rfl ?_)) ⟨rfl, hw.xQ⟩
  · try with_reducible exact tf_elim h1
    all_goals
      try replace h1 := of_decide_eq_false h1
      refine g_exit rfl (g_seq ?_)
      rw [List.drop_eq_nil_of_le (by omega)] at heq
      rw [show verR bd [] acc = (acc, bd) from rfl] at heq
      have hz := hw
      clear hw
      obtain ⟨va, vc, rfl, _, _, _⟩ := (hz.pick .at1).own_shape
      have hw := hz
      clear hz
      refine g_region ?_
      refine rl_v rfl rfl rfl (by exact sat_cells hw (by (repeat first | with_reducible exact xH | apply xT); first | done | fail) ⟨rfl, rfl, trivial⟩) (v_loadAgg (vs := [_, _]) T.agg_126_2 rfl rfl) ?_
      refine rl_k rfl (k_storeWhole hw T.agg_126_2 rfl rfl (by simp [Value.oneCell']) rfl (by (repeat first | with_reducible exact xH | apply xT); first | done | fail) rfl (fun w hw => ?_))
      refine rl_nil (g_le (xS rfl (Fr.le_refl _)) ?_)
      refine g_resC Try.func83 rfl ⟨_, rfl, holds_agg (vs := [_, _]) T.agg_126_2 rfl (by exact sat_cells hw (by (repeat first | with_reducible exact xH | apply xT); first | done | fail) ⟨rfl, rfl, trivial⟩)⟩ ?_
      rw [heq]
      exact ⟨_, rfl, ⟨hnb.2.2.2.2, hok, by simp only [reachBytes]; omega⟩, hw.xQ⟩
end Go.Proofs.Ytlgpdglnfjndhaa
