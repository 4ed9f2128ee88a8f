/-
  SegmentRoom: rows of at most a quarter segment take at most so many new segments as a quarter of their number.
-/
import Derived.Test.YtipdklbedpkobaaS14f
import Derived.Test.YtipdklbedpkobaaRows
namespace Go.Proofs.Ytipdklbedpkobaa
set_option maxRecDepth 8000
set_option linter.unusedSimpArgs false
set_option linter.unusedVariables false
open Go Xe Go.Lib Go.RowKit Go.ChangeShapes Go.WideShapes Go.ChangeAt
theorem app_any {size o : Int} {ss : List Sg} {md : Md} {pw : Pw} (I : LgI size o ss md pw) (v : ByteArray) (hf : 0 < frees ss) :
    LgI size (appL o ss md pw v).o (appL o ss md pw v).ss (appL o ss md pw v).md (appL o ss md pw v).pw ∧ (appL o ss md pw v).ss.length = ss.length ∧ (appL o ss md pw v).md.past.length ≤ md.past.length + 1 ∧ frees ss ≤ frees (appL o ss md pw v).ss + 1 := by
  by_cases hv : v = ByteArray.empty ∨ (v.size : Int) > md.size
  · have e : appL o ss md pw v = ⟨(0, 0, 0), 2, o, ss, md, pw⟩ := by unfold appL; rw [if_pos hv]
    rw [e]; exact ⟨I, rfl, by simp only; omega, by simp only; omega⟩
  · have hs := I.size
    obtain ⟨_, h1, h2, h3, h4⟩ := app_step I v (fun h => hv (.inl h)) (by have := fun h => hv (.inr h); omega) hf
    exact ⟨h1, h3, by omega, by omega⟩
def RoomI (q : Int) (F0 m : Nat) (o : Int) (ss : List Sg) : Prop := frees ss ≤ F0 ∧ (frees ss = F0 ∨ ∃ r : Int, 1 ≤ r ∧ 4 * ((F0 : Int) - frees ss - 1) + r ≤ m ∧ (sgAt ss o).used ≤ q * r)
theorem RoomI.le {q : Int} {F0 m : Nat} {o : Int} {ss : List Sg} (h : RoomI q F0 m o ss) : 4 * ((F0 : Int) - frees ss) ≤ m + 3 := by
  obtain ⟨h1, h2 | ⟨r, h3, h4, _⟩⟩ := h <;> omega
theorem room_step {q o : Int} {ss : List Sg} {md : Md} {pw : Pw} {F0 m : Nat} (I : LgI (4 * q) o ss md pw) (v : ByteArray) (hv : v ≠ ByteArray.empty) (hq : (v.size : Int) ≤ q) (hf : 0 < frees ss) (h : RoomI q F0 m o ss) :
    (appL o ss md pw v).bad = 0 ∧ RoomI q F0 (m + 1) (appL o ss md pw v).o (appL o ss md pw v).ss := by
  obtain ⟨h0, _, _, _, h5⟩ := app_step I v hv (by omega) hf
  obtain ⟨h1, h2⟩ := h
  refine ⟨h0, ?_⟩
  rcases h5 with ⟨ha, hb, hc⟩ | ⟨ha, hb, hc⟩
  · refine ⟨by omega, .inr ⟨1, by omega, ?_, by rw [hc]; omega⟩⟩
    rcases h2 with h2 | ⟨r, h3, h4, h6⟩
    · omega
    · have h7 : 4 ≤ r := by
        rcases Int.lt_or_le r 4 with h8 | h8
        · have : q * r ≤ q * 3 := Int.mul_le_mul_of_nonneg_left (by omega) (by omega)
          omega
        · exact h8
      omega
  · refine ⟨by omega, ?_⟩
    rcases h2 with h2 | ⟨r, h3, h4, h6⟩
    · exact .inl (by omega)
    · refine .inr ⟨r + 1, by omega, by omega, ?_⟩
      rw [hc, Int.mul_add]; omega
set_option maxHeartbeats 4000000 in
theorem SegmentRoom_law {w : World} {sz : Int} {a1 a2 : Option Addr} {n1 c1 n2 c2 : Nat} {xs ys : List ByteArray} (hn : (Lit.int .i64 sz).wf = true) (hr : rdArg (rdSl 16 1 rdStr) w (.slice a1 n1 c1) xs) (hr2 : rdArg (rdSl 16 1 rdStr) w (.slice a2 n2 c2) ys) :
    Law Try.prog 4 [.int .i64 sz, .slice a1 n1 c1, .slice a2 n2 c2] w := by
  unfold Law
  clear hn
  have hw := Sat.old w
  generalize w = W at hr hr2 hw ⊢
  have hr : (rdSl 16 1 rdStr) (hpOf W) [.slice a1 n1 c1] xs := hr
  have hr2 : (rdSl 16 1 rdStr) (hpOf W) [.slice a2 n2 c2] ys := hr2
  obtain ⟨rfl, _, _, hxm, gx⟩ := rdSl_get hr
  obtain ⟨rfl, _, _, hym, gy⟩ := rdSl_get hr2
  simp only [maxLen] at hxm hym
  have hw : Sat (envOf W) W [RO (hpOf W)] := hw
  refine calls_of_g (n := 96) Try.func4 rfl rfl rfl ?_
  change G _ _ _ _ _ [(0, _), (1, _), (2, _)] _
  refine g_seq ?_
  refine g_region ?_
  refine xV rfl rfl rfl (v_assign rfl) ?_
  refine rl_nil (g_le (xK (Fr.le_refl _)) ?_)
  refine g_seq ?_
  refine g_region ?_
  refine rl_k rfl (k_callf Try.func19 rfl rfl rfl rfl ?_)
  refine Calls.mono (awake_calls hw) ?_
  rintro _ w ⟨rfl, hw⟩
  refine ⟨_, rfl, ?_⟩
  refine xV rfl rfl rfl (v_assign rfl) ?_
  refine rl_nil (g_le (xK (xS rfl (Fr.le_refl _))) ?_)
  refine g_seq ?_
  refine g_region ?_
  refine xV rfl rfl rfl (v_move rfl) ?_
  refine rl_k rfl (k_callf Try.func20 rfl rfl rfl rfl ?_)
  refine Calls.mono (pick_calls sz 50 (by omega) (by omega) hw) ?_
  rintro _ w ⟨q0, rfl, hq0, hq1, hw⟩
  refine ⟨_, rfl, ?_⟩
  refine xV rfl rfl rfl (v_add rfl rfl (by omega)) ?_
  refine xV rfl rfl rfl (v_mul rfl rfl (by omega)) ?_
  refine xV rfl rfl rfl (v_assign rfl) ?_
  refine rl_nil (g_le (xK (xS rfl (xS rfl (xS rfl (xS rfl (Fr.le_refl _)))))) ?_)
  refine g_seq ?_
  obtain ⟨q, rfl⟩ : ∃ q, q0 = q - 1 := ⟨q0 + 1, by omega⟩
  rw [show 4 * (1 + (q - 1)) = 4 * q by omega]
  refine g_region ?_
  refine xV rfl rfl rfl (v_move rfl) ?_
  refine rl_k rfl (k_callf Try.func21 rfl rfl rfl rfl ?_)
  refine Calls.mono (fresh_calls 200 (4 * q) (by omega) (by omega) (by omega) (by omega) hw) ?_
  rintro _ w ⟨l, m, p, b, c, rfl, hw⟩
  refine ⟨_, rfl, ?_⟩
  refine xV rfl rfl rfl (v_assign rfl) ?_
  refine rl_nil (g_le (xK (xS rfl (xS rfl (Fr.le_refl _)))) ?_)
  refine g_seq (g_seq ?_)
  refine g_region ?_
  refine xV rfl rfl rfl (v_move rfl) ?_
  refine xV rfl rfl rfl (v_not rfl) ?_
  refine xV rfl rfl rfl (v_move rfl) ?_
  refine rl_split (s := 24) rfl (fun g4_2 => ?_) (fun g4_2 => ?_)
  · try with_reducible exact ft_elim g4_2
    all_goals
      try replace g4_2 := of_decide_eq_true g4_2
      simp at g4_2
  · try with_reducible exact tf_elim g4_2
    all_goals
      try replace g4_2 := of_decide_eq_false g4_2
      refine rl_vg (met_on rfl rfl rfl rfl) rfl rfl (S := fun _ => True) trivial (v_move rfl) ?_
      refine rl_vg (met_on rfl rfl rfl rfl) rfl rfl (S := fun _ => True) trivial (v_eqlNil T.ptr_36 rfl rfl) ?_
      refine xV rfl rfl rfl (v_pick_false rfl rfl) ?_
      refine rl_nil (g_le (xK (xS rfl (xS rfl (xS rfl (xS rfl (xS rfl (xS rfl (Fr.le_refl _)))))))) ?_)
      refine g_cond_false rfl ?_
      refine g_skip (g_seq (g_seq ?_))
      have I0 := new_LgI (size := 4 * q) (n := 200) (by omega) (by omega) (by omega) (by omega)
      have hf0 := new_frees 200
      have hl0 := newSegs_len (n := 200) (by omega)
      have hw : Sat (envOf W) w (pt l (.cells [Value.pointer (some ⟨m, 0, none⟩), .int .i64 0, .slice (some ⟨b, 0, none⟩) ((newSegs 200) : List Sg).length c].toArray 47 (0, 0)) :: OwnSl 104 3 (.slice (some ⟨b, 0, none⟩) ((newSegs 200)).length c) ((newSegs 200)).length (((newSegs 200)).flatMap Sg.cells) :: MdAt m p (newMd (4 * q) 200) :: PwAt p ⟨false, 0, 0⟩ :: [RO (hpOf W)]) := hw
      refine g_region ?_
      refine xV rfl rfl rfl (v_assign rfl) ?_
      refine rl_nil (g_le (xK (Fr.le_refl _)) ?_)
      refine g_block ?_
      refine g_loopC (σ := Nat × Int × List Sg × Md × Pw) (fun C x => (9, .int .i64 (x.1 : Nat)) :: C) [(0, _), (1, _), (2, _), (6, _), (8, _)] (by repeat (first | exact Fr.le_nil _ | refine Fr.le_cons rfl ?_)) (fun z w => z.1 ≤ xs.length ∧ z.1 ≤ 90 ∧ LgI (4 * q) z.2.1 z.2.2.1 z.2.2.2.1 z.2.2.2.2 ∧ z.2.2.1.length = 200 ∧ 199 ≤ frees z.2.2.1 + z.1 ∧ z.2.2.2.1.past.length ≤ z.1 ∧ Sat (envOf W) w (pt l (.cells [Value.pointer (some ⟨m, 0, none⟩), .int .i64 (z.2.1), .slice (some ⟨b, 0, none⟩) ((z.2.2.1) : List Sg).length c].toArray 47 (0, 0)) :: OwnSl 104 3 (.slice (some ⟨b, 0, none⟩) ((z.2.2.1)).length c) ((z.2.2.1)).length (((z.2.2.1)).flatMap Sg.cells) :: MdAt m p z.2.2.2.1 :: PwAt p z.2.2.2.2 :: [RO (hpOf W)])) (fun z => xs.length - z.1) ?_ (0, 0, newSegs 200, newMd (4 * q) 200, ⟨false, 0, 0⟩) (by repeat (first | exact Fr.le_nil _ | refine Fr.le_cons rfl ?_)) ⟨by simp, by simp, I0, hl0, by simp only; omega, by simp [newMd], hw⟩
      rintro ⟨i, o, ss, md, pw⟩ w ⟨hi1, hi2, I, hsl, hfr, hpl, hw⟩ ih
      dsimp only at hi1 hi2 I hsl hfr hpl hw ih ⊢
      refine g_seq (g_seq ?_)
      refine g_region ?_
      refine xV rfl rfl rfl (v_move rfl) ?_
      refine xV rfl rfl rfl (v_move rfl) ?_
      refine xV rfl rfl rfl (v_lenSlice T.sl_54_9_1 rfl) ?_
      refine xV rfl rfl rfl (v_lss rfl rfl) ?_
      refine xV rfl rfl rfl (v_move rfl) ?_
      refine rl_split (s := 32) rfl (fun g7_4 => ?_) (fun g7_4 => ?_)
      · try with_reducible exact ft_elim g7_4
        all_goals
          try replace g7_4 := of_decide_eq_true g7_4
          refine rl_vg (met_on rfl rfl rfl rfl) rfl rfl (S := fun _ => True) trivial (v_move rfl) ?_
          refine rl_vg (met_on rfl rfl rfl rfl) rfl rfl (S := fun _ => True) trivial (v_lss rfl rfl) ?_
          refine xV rfl rfl rfl (v_pick_true rfl rfl) ?_
          refine rl_nil (g_le (xK (xK (xK (xK (xK (xK (xK (xK (xK (Fr.le_refl _)))))))))) ?_)
          refine g_cond rfl (fun h2 => ?_) (fun h2 => ?_)
          · try with_reducible exact ft_elim h2
            all_goals
              try replace h2 := of_decide_eq_true h2
              refine g_skip (g_seq (g_block ?_))
              have hz := hw
              clear hw
              obtain ⟨b4, o1, v, ecs, rfl, hx, hat1, hl1, hq, hxr⟩ := gx (i : Nat) (by omega) (by omega)
              subst hq
              rw [Int.toNat_natCast] at hx hat1
              have hw := hz
              refine g_region ?_
              refine xV rfl rfl rfl (v_move rfl) ?_
              refine xV rfl rfl rfl (v_move rfl) ?_
              refine xV rfl rfl rfl (v_move rfl) ?_
              refine xV rfl rfl rfl (v_indexAddr T.sl_54_9_1 rfl rfl (by omega) (by omega)) ?_
              refine rl_v rfl rfl rfl (by exact ro_at0 hw (by (repeat first | with_reducible exact xH | apply xT); first | done | fail) (by assumption) rfl) (v_load T.scal_9 rfl) ?_
              refine rl_k rfl (k_callf Try.func22 rfl rfl rfl rfl ?_)
              refine Calls.mono (append_calls v I.len ⟨I.o0, I.o1⟩ I.us I.pok (by omega) hw) ?_
              have hap := app_any I v (by omega)
              generalize appL o ss md pw v = r at hap ⊢
              rintro _ w ⟨rfl, hw⟩
              refine ⟨_, rfl, ?_⟩
              refine rl_nil (g_le (xS rfl (xK (xK (xK (xK (xK (Fr.le_refl _))))))) ?_)
              refine g_inBlock ?_
              refine g_region ?_
              refine xV rfl rfl rfl (v_move rfl) ?_
              refine xV rfl rfl rfl (v_add rfl rfl (by omega)) ?_
              refine xV rfl rfl rfl (v_assign rfl) ?_
              refine rl_nil (g_le (xK (xK (xK (Fr.le_refl _)))) ?_)
              obtain ⟨J1, J2, J3, J4⟩ := hap
              exact g_le (by repeat (first | exact Fr.le_nil _ | refine Fr.le_cons rfl ?_)) (ih (i + 1, r.o, r.ss, r.md, r.pw) w ⟨by simp only; omega, by simp only; omega, J1, by simp only; omega, by simp only; omega, by simp only; omega, hw.xQ⟩ (by simp only; omega))
          · try with_reducible exact tf_elim h2
            all_goals
              try replace h2 := of_decide_eq_false h2
              refine g_exit rfl (g_seq ?_)
              refine g_region ?_
              refine xV rfl rfl rfl (v_move rfl) ?_
              refine rl_k rfl (k_callf Try.func23 rfl rfl rfl rfl ?_)
              refine Calls.mono (free_calls (by omega) hw) ?_
              rw [ofS_len]
              rintro _ w ⟨fv, rfl, hw⟩
              obtain ⟨fa, fc, rfl, _, _, _⟩ := hw.own_shape
              refine ⟨_, rfl, ?_⟩
              refine xV rfl rfl rfl (v_lenSlice T.sl_61_3_1 rfl) ?_
              refine xV rfl rfl rfl (v_assign rfl) ?_
              refine rl_nil (g_le (xK (xS rfl (xS rfl (xS rfl (Fr.le_refl _))))) ?_)
              refine g_seq ?_
              have hF : (ss.countP fun x => decide (x.kind = 1)) = frees ss := rfl
              rw [hF] at hw ⊢
              generalize hF0 : frees ss = F0 at hw hfr ⊢
              have hR : RoomI q F0 0 o ss := ⟨by omega, .inl hF0⟩
              have hF9 : 109 ≤ F0 := by omega
              have hF8 : F0 ≤ 200 := by rw [← hF0, ← hsl]; exact List.countP_le_length
              refine g_region ?_
              refine xV rfl rfl rfl (v_assign rfl) ?_
              refine rl_nil (g_le (xK (Fr.le_refl _)) ?_)
              refine g_seq (g_seq ?_)
              refine g_region ?_
              refine xV rfl rfl rfl (v_assign rfl) ?_
              refine rl_nil (g_le (xK (Fr.le_refl _)) ?_)
              refine g_block ?_
              refine g_loopC (σ := Nat × Nat × Int × List Sg × Md × Pw) (fun C x => (12, .int .i64 (x.1 : Nat)) :: (11, .int .i64 (x.2.1 : Nat)) :: C) [(0, _), (2, _), (6, _), (8, _), (10, _)] (by repeat (first | exact Fr.le_nil _ | refine Fr.le_cons rfl ?_)) (fun z w => z.1 ≤ ys.length ∧ z.1 ≤ 400 ∧ z.2.1 ≤ z.1 ∧ LgI (4 * q) z.2.2.1 z.2.2.2.1 z.2.2.2.2.1 z.2.2.2.2.2 ∧ z.2.2.2.1.length = 200 ∧ RoomI q F0 z.2.1 z.2.2.1 z.2.2.2.1 ∧ z.2.2.2.2.1.past.length ≤ 90 + z.1 ∧ Sat (envOf W) w (pt l (.cells [Value.pointer (some ⟨m, 0, none⟩), .int .i64 (z.2.2.1), .slice (some ⟨b, 0, none⟩) ((z.2.2.2.1) : List Sg).length c].toArray 47 (0, 0)) :: OwnSl 104 3 (.slice (some ⟨b, 0, none⟩) ((z.2.2.2.1)).length c) ((z.2.2.2.1)).length (((z.2.2.2.1)).flatMap Sg.cells) :: MdAt m p z.2.2.2.2.1 :: PwAt p z.2.2.2.2.2 :: [RO (hpOf W)])) (fun z => ys.length - z.1) ?_ (0, 0, o, ss, md, pw) (by repeat (first | exact Fr.le_nil _ | refine Fr.le_cons rfl ?_)) ⟨by simp, by simp, by simp, I, hsl, hR, by simp only; omega, hw.xQ⟩
              clear hR hpl I hsl hfr hF hF0 ih hi1 hi2
              rintro ⟨k, n, o, ss, md, pw⟩ w ⟨hk1, hk2, hnk, I, hsl, hR, hpl, hw⟩ ih
              dsimp only at hk1 hk2 hnk I hsl hR hpl hw ih ⊢
              refine g_seq (g_seq ?_)
              refine g_region ?_
              refine xV rfl rfl rfl (v_move rfl) ?_
              refine xV rfl rfl rfl (v_move rfl) ?_
              refine xV rfl rfl rfl (v_lenSlice T.sl_54_9_1 rfl) ?_
              refine xV rfl rfl rfl (v_lss rfl rfl) ?_
              refine xV rfl rfl rfl (v_move rfl) ?_
              refine rl_split (s := 51) rfl (fun g13_4 => ?_) (fun g13_4 => ?_)
              · try with_reducible exact ft_elim g13_4
                all_goals
                  try replace g13_4 := of_decide_eq_true g13_4
                  refine rl_vg (met_on rfl rfl rfl rfl) rfl rfl (S := fun _ => True) trivial (v_move rfl) ?_
                  refine rl_vg (met_on rfl rfl rfl rfl) rfl rfl (S := fun _ => True) trivial (v_lss rfl rfl) ?_
                  refine xV rfl rfl rfl (v_pick_true rfl rfl) ?_
                  refine rl_nil (g_le (xK (xK (xK (xK (xK (xK (xK (xK (xK (Fr.le_refl _)))))))))) ?_)
                  refine g_cond rfl (fun h3 => ?_) (fun h3 => ?_)
                  · try with_reducible exact ft_elim h3
                    all_goals
                      try replace h3 := of_decide_eq_true h3
                      refine g_skip (g_seq (g_block (g_seq (g_seq ?_))))
                      have hz := hw
                      clear hw
                      obtain ⟨b5, o5, v, ecs, rfl, hy, hat5, hl5, hq5, hyr⟩ := gy (k : Nat) (by omega) (by omega)
                      subst hq5
                      rw [Int.toNat_natCast] at hy hat5
                      have hrl := hR.le
                      have hw := hz
                      refine g_region ?_
                      refine xV rfl rfl rfl (v_move rfl) ?_
                      refine xV rfl rfl rfl (v_move rfl) ?_
                      refine xV rfl rfl rfl (v_indexAddr T.sl_54_9_1 rfl rfl (by omega) (by omega)) ?_
                      refine rl_v rfl rfl rfl (by exact ro_at0 hw (by (repeat first | with_reducible exact xH | apply xT); first | done | fail) (by assumption) rfl) (v_load T.scal_9 rfl) ?_
                      refine xV rfl rfl rfl (v_eqlStr rfl rfl) ?_
                      refine xV rfl rfl rfl (v_move rfl) ?_
                      refine rl_split (s := 62) rfl (fun g15_5 => ?_) (fun g15_5 => ?_)
                      · try with_reducible exact ft_elim g15_5
                        all_goals
                          try replace g15_5 := of_decide_eq_true g15_5
                          refine rl_off (met_off rfl rfl rfl rfl rfl) rfl rfl ?_
                          refine rl_off (met_off rfl rfl rfl rfl rfl) rfl rfl ?_
                          refine rl_off (met_off rfl rfl rfl rfl rfl) rfl rfl ?_
                          refine rl_off (met_off rfl rfl rfl rfl rfl) rfl rfl ?_
                          refine rl_off (met_off rfl rfl rfl rfl rfl) rfl rfl ?_
                          refine rl_off (met_off rfl rfl rfl rfl rfl) rfl rfl ?_
                          refine rl_off (met_off rfl rfl rfl rfl rfl) rfl rfl ?_
                          refine rl_off (met_off rfl rfl rfl rfl rfl) rfl rfl ?_
                          refine xV rfl rfl rfl (v_pick_true rfl rfl) ?_
                          refine rl_nil (g_le (xK (xK (xK (xK (xK (xK (xK (xK (xK (xK (xK (xK (xK (xK (xK (xK (Fr.le_refl _))))))))))))))))) ?_)
                          refine g_cond_true rfl ?_
                          refine g_exit rfl ?_
                          refine g_region ?_
                          refine xV rfl rfl rfl (v_move rfl) ?_
                          refine xV rfl rfl rfl (v_add rfl rfl (by omega)) ?_
                          refine xV rfl rfl rfl (v_assign rfl) ?_
                          refine rl_nil (g_le (xK (xK (xK (Fr.le_refl _)))) ?_)
                          exact g_le (by repeat (first | exact Fr.le_nil _ | refine Fr.le_cons rfl ?_)) (ih (k + 1, n, o, ss, md, pw) w ⟨by simp only; omega, by simp only; omega, by simp only; omega, I, hsl, hR, by simp only; omega, hw.xQ⟩ (by simp only; omega))
                      · try with_reducible exact tf_elim g15_5
                        all_goals
                          try replace g15_5 := of_decide_eq_false g15_5
                          refine rl_vg (met_on rfl rfl rfl rfl) rfl rfl (S := fun _ => True) trivial (v_move rfl) ?_
                          refine rl_vg (met_on rfl rfl rfl rfl) rfl rfl (S := fun _ => True) trivial (v_move rfl) ?_
                          refine rl_vg (met_on rfl rfl rfl rfl) rfl rfl (S := fun _ => True) trivial (v_indexAddr T.sl_54_9_1 rfl rfl (by omega) (by omega)) ?_
                          refine rl_vg (met_on rfl rfl rfl rfl) rfl rfl (by exact ro_at0 hw (by (repeat first | with_reducible exact xH | apply xT); first | done | fail) (by assumption) rfl) (v_load T.scal_9 rfl) ?_
                          refine rl_vg (met_on rfl rfl rfl rfl) rfl rfl (S := fun _ => True) trivial (v_lenStr T.str_9 rfl) ?_
                          refine rl_vg (met_on rfl rfl rfl rfl) rfl rfl (S := fun _ => True) trivial (v_move rfl) ?_
                          refine rl_vg (met_on rfl rfl rfl rfl) rfl rfl (S := fun _ => True) trivial (v_quo rfl rfl (by omega) (by omega) (by omega)) ?_
                          refine rl_vg (met_on rfl rfl rfl rfl) rfl rfl (S := fun _ => True) trivial (v_gtr rfl rfl) ?_
                          refine xV rfl rfl rfl (v_pick_false rfl rfl) ?_
                          refine rl_nil (g_le (xK (xK (xK (xK (xK (xK (xK (xK (xK (xK (xK (xK (xK (xK (xK (xK (Fr.le_refl _))))))))))))))))) ?_)
                          refine g_cond rfl (fun h4 => ?_) (fun h4 => ?_)
                          · try with_reducible exact ft_elim h4
                            all_goals
                              try replace h4 := of_decide_eq_true h4
                              refine g_exit rfl ?_
                              refine g_region ?_
                              refine xV rfl rfl rfl (v_move rfl) ?_
                              refine xV rfl rfl rfl (v_add rfl rfl (by omega)) ?_
                              refine xV rfl rfl rfl (v_assign rfl) ?_
                              refine rl_nil (g_le (xK (xK (xK (Fr.le_refl _)))) ?_)
                              exact g_le (by repeat (first | exact Fr.le_nil _ | refine Fr.le_cons rfl ?_)) (ih (k + 1, n, o, ss, md, pw) w ⟨by simp only; omega, by simp only; omega, by simp only; omega, I, hsl, hR, by simp only; omega, hw.xQ⟩ (by simp only; omega))
                          · try with_reducible exact tf_elim h4
                            all_goals
                              try replace h4 := of_decide_eq_false h4
                              refine g_skip (g_seq ?_)
                              refine g_region ?_
                              refine xV rfl rfl rfl (v_move rfl) ?_
                              refine xV rfl rfl rfl (v_move rfl) ?_
                              refine xV rfl rfl rfl (v_move rfl) ?_
                              refine xV rfl rfl rfl (v_indexAddr T.sl_54_9_1 rfl rfl (by omega) (by omega)) ?_
                              refine rl_v rfl rfl rfl (by exact ro_at0 hw (by (repeat first | with_reducible exact xH | apply xT); first | done | fail) (by assumption) rfl) (v_load T.scal_9 rfl) ?_
                              refine rl_k rfl (k_callf Try.func22 rfl rfl rfl rfl ?_)
                              refine Calls.mono (append_calls v I.len ⟨I.o0, I.o1⟩ I.us I.pok (by omega) (hw.xQ)) ?_
                              have hap := app_any I v (by omega)
                              have hst := room_step I v g15_5 (by omega) (by omega) hR
                              generalize appL o ss md pw v = r at hap hst ⊢
                              obtain ⟨J1, J2, J3, J4⟩ := hap
                              obtain ⟨hb0, hR2⟩ := hst
                              have hrl2 := hR2.le
                              have hR3 := hR2.1
                              rw [hb0]
                              rintro _ w ⟨rfl, hw⟩
                              refine ⟨_, rfl, ?_⟩
                              refine xV rfl rfl rfl (v_move rfl) ?_
                              refine xV rfl rfl rfl (v_extract rfl rfl) ?_
                              refine xV rfl rfl rfl (v_extract rfl rfl) ?_
                              refine rl_k rfl (k_alloc hw T.zero_58 rfl rfl (fun bk16_9 w hw => ?_))
                              refine rl_k rfl (k_storeWhole hw T.agg_58_3 rfl rfl (by simp [Value.oneCell']) rfl (by (repeat first | with_reducible exact xH | apply xT); first | done | fail) rfl (fun w hw => ?_))
                              refine xV rfl rfl rfl (v_assign rfl) ?_
                              refine rl_nil (g_le (xK (xK (xK (xK (xK (xK (xK (xK (xK (xK (xK (Fr.le_refl _)))))))))))) ?_)
                              refine g_seq ?_
                              refine g_region ?_
                              refine xV rfl rfl rfl (v_move rfl) ?_
                              refine xV rfl rfl rfl (v_add rfl rfl (by omega)) ?_
                              refine xV rfl rfl rfl (v_assign rfl) ?_
                              refine rl_nil (g_le (xK (xK (xK (Fr.le_refl _)))) ?_)
                              refine g_seq ?_
                              refine g_region ?_
                              refine xV rfl rfl rfl (v_move rfl) ?_
                              refine xV rfl rfl rfl (v_neqF rfl rfl (by omega)) ?_
                              refine xV rfl rfl rfl (v_move rfl) ?_
                              refine rl_split (s := 85) rfl (fun g18_2 => ?_) (fun g18_2 => ?_)
                              · try with_reducible exact ft_elim g18_2
                                all_goals
                                  try replace g18_2 := of_decide_eq_true g18_2
                                  simp at g18_2
                              · try with_reducible exact tf_elim g18_2
                                all_goals
                                  try replace g18_2 := of_decide_eq_false g18_2
                                  refine rl_vg (met_on rfl rfl rfl rfl) rfl rfl (S := fun _ => True) trivial (v_move rfl) ?_
                                  refine rl_vg (met_on rfl rfl rfl rfl) rfl rfl (S := fun _ => True) trivial (v_move rfl) ?_
                                  refine rl_kg (met_on rfl rfl rfl rfl) (k_callf Try.func23 rfl rfl rfl rfl ?_)
                                  refine Calls.mono (free_calls (l := l) (m := m) (b := b) (c := c) (o := r.o) (ss := r.ss) (by omega) (hw.xQ)) ?_
                                  rw [ofS_len, show (r.ss.countP fun x => decide (x.kind = 1)) = frees r.ss from rfl]
                                  rintro _ w ⟨fv, rfl, hw⟩
                                  obtain ⟨fa2, fc2, rfl, _, _, _⟩ := hw.own_shape
                                  refine ⟨_, rfl, ?_⟩
                                  refine rl_vg (met_on rfl rfl rfl rfl) rfl rfl (S := fun _ => True) trivial (v_lenSlice T.sl_61_3_1 rfl) ?_
                                  refine rl_vg (met_on rfl rfl rfl rfl) rfl rfl (S := fun _ => True) trivial (v_sub rfl rfl (by omega)) ?_
                                  refine rl_vg (met_on rfl rfl rfl rfl) rfl rfl (S := fun _ => True) trivial (v_move rfl) ?_
                                  refine rl_vg (met_on rfl rfl rfl rfl) rfl rfl (S := fun _ => True) trivial (v_add rfl rfl (by omega)) ?_
                                  refine rl_vg (met_on rfl rfl rfl rfl) rfl rfl (S := fun _ => True) trivial (v_quo rfl rfl (by omega) (by omega) (by omega)) ?_
                                  refine rl_vg (met_on rfl rfl rfl rfl) rfl rfl (S := fun _ => True) trivial (v_gtrF rfl rfl (by omega)) ?_
                                  refine xV rfl rfl rfl (v_pick_false rfl rfl) ?_
                                  refine rl_nil (g_le (xK (xK (xK (xK (xK (xK (xK (xK (xK (xK (xK (xK (xK (xK (Fr.le_refl _))))))))))))))) ?_)
                                  refine g_cond_false rfl ?_
                                  refine g_skip (g_inBlock ?_)
                                  refine g_region ?_
                                  refine xV rfl rfl rfl (v_move rfl) ?_
                                  refine xV rfl rfl rfl (v_add rfl rfl (by omega)) ?_
                                  refine xV rfl rfl rfl (v_assign rfl) ?_
                                  refine rl_nil (g_le (xK (xK (xK (Fr.le_refl _)))) ?_)
                                  exact g_le (by repeat (first | exact Fr.le_nil _ | refine Fr.le_cons rfl ?_)) (ih (k + 1, n + 1, r.o, r.ss, r.md, r.pw) w ⟨by simp only; omega, by simp only; omega, by simp only; omega, J1, by simp only; omega, hR2, by simp only; omega, hw.xQ⟩ (by simp only; omega))
                  · try with_reducible exact tf_elim h3
                    all_goals
                      try replace h3 := of_decide_eq_false h3
                      refine g_exit rfl (g_seq ?_)
                      refine g_region ?_
                      refine xV rfl rfl rfl (v_assign rfl) ?_
                      refine rl_nil (g_le (xK (Fr.le_refl _)) ?_)
                      refine g_ret1 Try.func4 rfl rfl ?_
                      exact ⟨rfl, hw.xQ⟩
              · try with_reducible exact tf_elim g13_4
                all_goals
                  try replace g13_4 := of_decide_eq_false g13_4
                  refine rl_off (met_off rfl rfl rfl rfl rfl) rfl rfl ?_
                  refine rl_off (met_off rfl rfl rfl rfl rfl) rfl rfl ?_
                  refine xV rfl rfl rfl (v_pick_false rfl rfl) ?_
                  refine rl_nil (g_le (xK (xK (xK (xK (xK (xK (xK (xK (xK (Fr.le_refl _)))))))))) ?_)
                  refine g_cond_false rfl ?_
                  refine g_exit rfl (g_seq ?_)
                  refine g_region ?_
                  refine xV rfl rfl rfl (v_assign rfl) ?_
                  refine rl_nil (g_le (xK (Fr.le_refl _)) ?_)
                  refine g_ret1 Try.func4 rfl rfl ?_
                  exact ⟨rfl, hw.xQ⟩
      · try with_reducible exact tf_elim g7_4
        all_goals
          try replace g7_4 := of_decide_eq_false g7_4
          refine rl_off (met_off rfl rfl rfl rfl rfl) rfl rfl ?_
          refine rl_off (met_off rfl rfl rfl rfl rfl) rfl rfl ?_
          refine xV rfl rfl rfl (v_pick_false rfl rfl) ?_
          refine rl_nil (g_le (xK (xK (xK (xK (xK (xK (xK (xK (xK (Fr.le_refl _)))))))))) ?_)
          refine g_cond_false rfl ?_
          refine g_exit rfl (g_seq ?_)
          refine g_region ?_
          refine xV rfl rfl rfl (v_move rfl) ?_
          refine rl_k rfl (k_callf Try.func23 rfl rfl rfl rfl ?_)
          refine Calls.mono (free_calls (by omega) hw) ?_
          rw [ofS_len]
          rintro _ w ⟨fv, rfl, hw⟩
          obtain ⟨fa, fc, rfl, _, _, _⟩ := hw.own_shape
          refine ⟨_, rfl, ?_⟩
          refine xV rfl rfl rfl (v_lenSlice T.sl_61_3_1 rfl) ?_
          refine xV rfl rfl rfl (v_assign rfl) ?_
          refine rl_nil (g_le (xK (xS rfl (xS rfl (xS rfl (Fr.le_refl _))))) ?_)
          refine g_seq ?_
          have hF : (ss.countP fun x => decide (x.kind = 1)) = frees ss := rfl
          rw [hF] at hw ⊢
          generalize hF0 : frees ss = F0 at hw hfr ⊢
          have hR : RoomI q F0 0 o ss := ⟨by omega, .inl hF0⟩
          have hF9 : 109 ≤ F0 := by omega
          have hF8 : F0 ≤ 200 := by rw [← hF0, ← hsl]; exact List.countP_le_length
          refine g_region ?_
          refine xV rfl rfl rfl (v_assign rfl) ?_
          refine rl_nil (g_le (xK (Fr.le_refl _)) ?_)
          refine g_seq (g_seq ?_)
          refine g_region ?_
          refine xV rfl rfl rfl (v_assign rfl) ?_
          refine rl_nil (g_le (xK (Fr.le_refl _)) ?_)
          refine g_block ?_
          refine g_loopC (σ := Nat × Nat × Int × List Sg × Md × Pw) (fun C x => (12, .int .i64 (x.1 : Nat)) :: (11, .int .i64 (x.2.1 : Nat)) :: C) [(0, _), (2, _), (6, _), (8, _), (10, _)] (by repeat (first | exact Fr.le_nil _ | refine Fr.le_cons rfl ?_)) (fun z w => z.1 ≤ ys.length ∧ z.1 ≤ 400 ∧ z.2.1 ≤ z.1 ∧ LgI (4 * q) z.2.2.1 z.2.2.2.1 z.2.2.2.2.1 z.2.2.2.2.2 ∧ z.2.2.2.1.length = 200 ∧ RoomI q F0 z.2.1 z.2.2.1 z.2.2.2.1 ∧ z.2.2.2.2.1.past.length ≤ 90 + z.1 ∧ Sat (envOf W) w (pt l (.cells [Value.pointer (some ⟨m, 0, none⟩), .int .i64 (z.2.2.1), .slice (some ⟨b, 0, none⟩) ((z.2.2.2.1) : List Sg).length c].toArray 47 (0, 0)) :: OwnSl 104 3 (.slice (some ⟨b, 0, none⟩) ((z.2.2.2.1)).length c) ((z.2.2.2.1)).length (((z.2.2.2.1)).flatMap Sg.cells) :: MdAt m p z.2.2.2.2.1 :: PwAt p z.2.2.2.2.2 :: [RO (hpOf W)])) (fun z => ys.length - z.1) ?_ (0, 0, o, ss, md, pw) (by repeat (first | exact Fr.le_nil _ | refine Fr.le_cons rfl ?_)) ⟨by simp, by simp, by simp, I, hsl, hR, by simp only; omega, hw.xQ⟩
          clear hR hpl I hsl hfr hF hF0 ih hi1 hi2
          rintro ⟨k, n, o, ss, md, pw⟩ w ⟨hk1, hk2, hnk, I, hsl, hR, hpl, hw⟩ ih
          dsimp only at hk1 hk2 hnk I hsl hR hpl hw ih ⊢
          refine g_seq (g_seq ?_)
          refine g_region ?_
          refine xV rfl rfl rfl (v_move rfl) ?_
          refine xV rfl rfl rfl (v_move rfl) ?_
          refine xV rfl rfl rfl (v_lenSlice T.sl_54_9_1 rfl) ?_
          refine xV rfl rfl rfl (v_lss rfl rfl) ?_
          refine xV rfl rfl rfl (v_move rfl) ?_
          refine rl_split (s := 51) rfl (fun g13_4 => ?_) (fun g13_4 => ?_)
          · try with_reducible exact ft_elim g13_4
            all_goals
              try replace g13_4 := of_decide_eq_true g13_4
              refine rl_vg (met_on rfl rfl rfl rfl) rfl rfl (S := fun _ => True) trivial (v_move rfl) ?_
              refine rl_vg (met_on rfl rfl rfl rfl) rfl rfl (S := fun _ => True) trivial (v_lss rfl rfl) ?_
              refine xV rfl rfl rfl (v_pick_true rfl rfl) ?_
              refine rl_nil (g_le (xK (xK (xK (xK (xK (xK (xK (xK (xK (Fr.le_refl _)))))))))) ?_)
              refine g_cond rfl (fun h3 => ?_) (fun h3 => ?_)
              · try with_reducible exact ft_elim h3
                all_goals
                  try replace h3 := of_decide_eq_true h3
                  refine g_skip (g_seq (g_block (g_seq (g_seq ?_))))
                  have hz := hw
                  clear hw
                  obtain ⟨b5, o5, v, ecs, rfl, hy, hat5, hl5, hq5, hyr⟩ := gy (k : Nat) (by omega) (by omega)
                  subst hq5
                  rw [Int.toNat_natCast] at hy hat5
                  have hrl := hR.le
                  have hw := hz
                  refine g_region ?_
                  refine xV rfl rfl rfl (v_move rfl) ?_
                  refine xV rfl rfl rfl (v_move rfl) ?_
                  refine xV rfl rfl rfl (v_indexAddr T.sl_54_9_1 rfl rfl (by omega) (by omega)) ?_
                  refine rl_v rfl rfl rfl (by exact ro_at0 hw (by (repeat first | with_reducible exact xH | apply xT); first | done | fail) (by assumption) rfl) (v_load T.scal_9 rfl) ?_
                  refine xV rfl rfl rfl (v_eqlStr rfl rfl) ?_
                  refine xV rfl rfl rfl (v_move rfl) ?_
                  refine rl_split (s := 62) rfl (fun g15_5 => ?_) (fun g15_5 => ?_)
                  · try with_reducible exact ft_elim g15_5
                    all_goals
                      try replace g15_5 := of_decide_eq_true g15_5
                      refine rl_off (met_off rfl rfl rfl rfl rfl) rfl rfl ?_
                      refine rl_off (met_off rfl rfl rfl rfl rfl) rfl rfl ?_
                      refine rl_off (met_off rfl rfl rfl rfl rfl) rfl rfl ?_
                      refine rl_off (met_off rfl rfl rfl rfl rfl) rfl rfl ?_
                      refine rl_off (met_off rfl rfl rfl rfl rfl) rfl rfl ?_
                      refine rl_off (met_off rfl rfl rfl rfl rfl) rfl rfl ?_
                      refine rl_off (met_off rfl rfl rfl rfl rfl) rfl rfl ?_
                      refine rl_off (met_off rfl rfl rfl rfl rfl) rfl rfl ?_
                      refine xV rfl rfl rfl (v_pick_true rfl rfl) ?_
                      refine rl_nil (g_le (xK (xK (xK (xK (xK (xK (xK (xK (xK (xK (xK (xK (xK (xK (xK (xK (Fr.le_refl _))))))))))))))))) ?_)
                      refine g_cond_true rfl ?_
                      refine g_exit rfl ?_
                      refine g_region ?_
                      refine xV rfl rfl rfl (v_move rfl) ?_
                      refine xV rfl rfl rfl (v_add rfl rfl (by omega)) ?_
                      refine xV rfl rfl rfl (v_assign rfl) ?_
                      refine rl_nil (g_le (xK (xK (xK (Fr.le_refl _)))) ?_)
                      exact g_le (by repeat (first | exact Fr.le_nil _ | refine Fr.le_cons rfl ?_)) (ih (k + 1, n, o, ss, md, pw) w ⟨by simp only; omega, by simp only; omega, by simp only; omega, I, hsl, hR, by simp only; omega, hw.xQ⟩ (by simp only; omega))
                  · try with_reducible exact tf_elim g15_5
                    all_goals
                      try replace g15_5 := of_decide_eq_false g15_5
                      refine rl_vg (met_on rfl rfl rfl rfl) rfl rfl (S := fun _ => True) trivial (v_move rfl) ?_
                      refine rl_vg (met_on rfl rfl rfl rfl) rfl rfl (S := fun _ => True) trivial (v_move rfl) ?_
                      refine rl_vg (met_on rfl rfl rfl rfl) rfl rfl (S := fun _ => True) trivial (v_indexAddr T.sl_54_9_1 rfl rfl (by omega) (by omega)) ?_
                      refine rl_vg (met_on rfl rfl rfl rfl) rfl rfl (by exact ro_at0 hw (by (repeat first | with_reducible exact xH | apply xT); first | done | fail) (by assumption) rfl) (v_load T.scal_9 rfl) ?_
                      refine rl_vg (met_on rfl rfl rfl rfl) rfl rfl (S := fun _ => True) trivial (v_lenStr T.str_9 rfl) ?_
                      refine rl_vg (met_on rfl rfl rfl rfl) rfl rfl (S := fun _ => True) trivial (v_move rfl) ?_
                      refine rl_vg (met_on rfl rfl rfl rfl) rfl rfl (S := fun _ => True) trivial (v_quo rfl rfl (by omega) (by omega) (by omega)) ?_
                      refine rl_vg (met_on rfl rfl rfl rfl) rfl rfl (S := fun _ => True) trivial (v_gtr rfl rfl) ?_
                      refine xV rfl rfl rfl (v_pick_false rfl rfl) ?_
                      refine rl_nil (g_le (xK (xK (xK (xK (xK (xK (xK (xK (xK (xK (xK (xK (xK (xK (xK (xK (Fr.le_refl _))))))))))))))))) ?_)
                      refine g_cond rfl (fun h4 => ?_) (fun h4 => ?_)
                      · try with_reducible exact ft_elim h4
                        all_goals
                          try replace h4 := of_decide_eq_true h4
                          refine g_exit rfl ?_
                          refine g_region ?_
                          refine xV rfl rfl rfl (v_move rfl) ?_
                          refine xV rfl rfl rfl (v_add rfl rfl (by omega)) ?_
                          refine xV rfl rfl rfl (v_assign rfl) ?_
                          refine rl_nil (g_le (xK (xK (xK (Fr.le_refl _)))) ?_)
                          exact g_le (by repeat (first | exact Fr.le_nil _ | refine Fr.le_cons rfl ?_)) (ih (k + 1, n, o, ss, md, pw) w ⟨by simp only; omega, by simp only; omega, by simp only; omega, I, hsl, hR, by simp only; omega, hw.xQ⟩ (by simp only; omega))
                      · try with_reducible exact tf_elim h4
                        all_goals
                          try replace h4 := of_decide_eq_false h4
                          refine g_skip (g_seq ?_)
                          refine g_region ?_
                          refine xV rfl rfl rfl (v_move rfl) ?_
                          refine xV rfl rfl rfl (v_move rfl) ?_
                          refine xV rfl rfl rfl (v_move rfl) ?_
                          refine xV rfl rfl rfl (v_indexAddr T.sl_54_9_1 rfl rfl (by omega) (by omega)) ?_
                          refine rl_v rfl rfl rfl (by exact ro_at0 hw (by (repeat first | with_reducible exact xH | apply xT); first | done | fail) (by assumption) rfl) (v_load T.scal_9 rfl) ?_
                          refine rl_k rfl (k_callf Try.func22 rfl rfl rfl rfl ?_)
                          refine Calls.mono (append_calls v I.len ⟨I.o0, I.o1⟩ I.us I.pok (by omega) (hw.xQ)) ?_
                          have hap := app_any I v (by omega)
                          have hst := room_step I v g15_5 (by omega) (by omega) hR
                          generalize appL o ss md pw v = r at hap hst ⊢
                          obtain ⟨J1, J2, J3, J4⟩ := hap
                          obtain ⟨hb0, hR2⟩ := hst
                          have hrl2 := hR2.le
                          have hR3 := hR2.1
                          rw [hb0]
                          rintro _ w ⟨rfl, hw⟩
                          refine ⟨_, rfl, ?_⟩
                          refine xV rfl rfl rfl (v_move rfl) ?_
                          refine xV rfl rfl rfl (v_extract rfl rfl) ?_
                          refine xV rfl rfl rfl (v_extract rfl rfl) ?_
                          refine rl_k rfl (k_alloc hw T.zero_58 rfl rfl (fun bk16_9 w hw => ?_))
                          refine rl_k rfl (k_storeWhole hw T.agg_58_3 rfl rfl (by simp [Value.oneCell']) rfl (by (repeat first | with_reducible exact xH | apply xT); first | done | fail) rfl (fun w hw => ?_))
                          refine xV rfl rfl rfl (v_assign rfl) ?_
                          refine rl_nil (g_le (xK (xK (xK (xK (xK (xK (xK (xK (xK (xK (xK (Fr.le_refl _)))))))))))) ?_)
                          refine g_seq ?_
                          refine g_region ?_
                          refine xV rfl rfl rfl (v_move rfl) ?_
                          refine xV rfl rfl rfl (v_add rfl rfl (by omega)) ?_
                          refine xV rfl rfl rfl (v_assign rfl) ?_
                          refine rl_nil (g_le (xK (xK (xK (Fr.le_refl _)))) ?_)
                          refine g_seq ?_
                          refine g_region ?_
                          refine xV rfl rfl rfl (v_move rfl) ?_
                          refine xV rfl rfl rfl (v_neqF rfl rfl (by omega)) ?_
                          refine xV rfl rfl rfl (v_move rfl) ?_
                          refine rl_split (s := 85) rfl (fun g18_2 => ?_) (fun g18_2 => ?_)
                          · try with_reducible exact ft_elim g18_2
                            all_goals
                              try replace g18_2 := of_decide_eq_true g18_2
                              simp at g18_2
                          · try with_reducible exact tf_elim g18_2
                            all_goals
                              try replace g18_2 := of_decide_eq_false g18_2
                              refine rl_vg (met_on rfl rfl rfl rfl) rfl rfl (S := fun _ => True) trivial (v_move rfl) ?_
                              refine rl_vg (met_on rfl rfl rfl rfl) rfl rfl (S := fun _ => True) trivial (v_move rfl) ?_
                              refine rl_kg (met_on rfl rfl rfl rfl) (k_callf Try.func23 rfl rfl rfl rfl ?_)
                              refine Calls.mono (free_calls (l := l) (m := m) (b := b) (c := c) (o := r.o) (ss := r.ss) (by omega) (hw.xQ)) ?_
                              rw [ofS_len, show (r.ss.countP fun x => decide (x.kind = 1)) = frees r.ss from rfl]
                              rintro _ w ⟨fv, rfl, hw⟩
                              obtain ⟨fa2, fc2, rfl, _, _, _⟩ := hw.own_shape
                              refine ⟨_, rfl, ?_⟩
                              refine rl_vg (met_on rfl rfl rfl rfl) rfl rfl (S := fun _ => True) trivial (v_lenSlice T.sl_61_3_1 rfl) ?_
                              refine rl_vg (met_on rfl rfl rfl rfl) rfl rfl (S := fun _ => True) trivial (v_sub rfl rfl (by omega)) ?_
                              refine rl_vg (met_on rfl rfl rfl rfl) rfl rfl (S := fun _ => True) trivial (v_move rfl) ?_
                              refine rl_vg (met_on rfl rfl rfl rfl) rfl rfl (S := fun _ => True) trivial (v_add rfl rfl (by omega)) ?_
                              refine rl_vg (met_on rfl rfl rfl rfl) rfl rfl (S := fun _ => True) trivial (v_quo rfl rfl (by omega) (by omega) (by omega)) ?_
                              refine rl_vg (met_on rfl rfl rfl rfl) rfl rfl (S := fun _ => True) trivial (v_gtrF rfl rfl (by omega)) ?_
                              refine xV rfl rfl rfl (v_pick_false rfl rfl) ?_
                              refine rl_nil (g_le (xK (xK (xK (xK (xK (xK (xK (xK (xK (xK (xK (xK (xK (xK (Fr.le_refl _))))))))))))))) ?_)
                              refine g_cond_false rfl ?_
                              refine g_skip (g_inBlock ?_)
                              refine g_region ?_
                              refine xV rfl rfl rfl (v_move rfl) ?_
                              refine xV rfl rfl rfl (v_add rfl rfl (by omega)) ?_
                              refine xV rfl rfl rfl (v_assign rfl) ?_
                              refine rl_nil (g_le (xK (xK (xK (Fr.le_refl _)))) ?_)
                              exact g_le (by repeat (first | exact Fr.le_nil _ | refine Fr.le_cons rfl ?_)) (ih (k + 1, n + 1, r.o, r.ss, r.md, r.pw) w ⟨by simp only; omega, by simp only; omega, by simp only; omega, J1, by simp only; omega, hR2, by simp only; omega, hw.xQ⟩ (by simp only; omega))
              · try with_reducible exact tf_elim h3
                all_goals
                  try replace h3 := of_decide_eq_false h3
                  refine g_exit rfl (g_seq ?_)
                  refine g_region ?_
                  refine xV rfl rfl rfl (v_assign rfl) ?_
                  refine rl_nil (g_le (xK (Fr.le_refl _)) ?_)
                  refine g_ret1 Try.func4 rfl rfl ?_
                  exact ⟨rfl, hw.xQ⟩
          · try with_reducible exact tf_elim g13_4
            all_goals
              try replace g13_4 := of_decide_eq_false g13_4
              refine rl_off (met_off rfl rfl rfl rfl rfl) rfl rfl ?_
              refine rl_off (met_off rfl rfl rfl rfl rfl) rfl rfl ?_
              refine xV rfl rfl rfl (v_pick_false rfl rfl) ?_
              refine rl_nil (g_le (xK (xK (xK (xK (xK (xK (xK (xK (xK (Fr.le_refl _)))))))))) ?_)
              refine g_cond_false rfl ?_
              refine g_exit rfl (g_seq ?_)
              refine g_region ?_
              refine xV rfl rfl rfl (v_assign rfl) ?_
              refine rl_nil (g_le (xK (Fr.le_refl _)) ?_)
              refine g_ret1 Try.func4 rfl rfl ?_
              exact ⟨rfl, hw.xQ⟩

set_option maxRecDepth 100000 in
theorem SegmentRoom_lifted (os : Os) (started : os.Started) (H : Type) (enc : TypeId × Value → H) :
    ReturnsInHanded {} Try.checked os 4 .any (Rows.segmentRoomSpec.pre6 enc Try.prog Try.f4 Rows.segmentRoomRow.domain false) (Rows.segmentRoomSpec.post enc Try.prog Try.f4 false true false false) := by
  refine returnsInHanded_of_change_sized (C := Try.checked) T.own started (by kernel_rfl) Try.func4
    (ChangeSpec.witness6 (enc := enc) (C := Try.checked) false ⟨#[], #[(.int .i64 0), (.slice none 0 0), (.slice none 0 0)], []⟩ 8 (by kernel_rfl) (by kernel_rfl) (by kernel_rfl) (by kernel_rfl)) ?_
  intro W base args ds gs before hval0 hW hcnd hsz0 _
  have hval : ∀ (j : Nat) t v, Try.f4.params[j]? = some t → args[j]? = some v → Value.okWide Try.prog W .any base t v := hval0
  have hW' := hW
  obtain ⟨p, q, hA0, hV, rfl, hfz, hnd⟩ := hW
  have hA : DataW.TrodAll enc Try.prog W 0 (fun _ => true) true Try.f4.params.toList args.toList ds p := hA0
  obtain ⟨rfl, rfl⟩ := trodVars_none hV
  have hsz : (DataW.weightsEach Try.prog (Try.f4.params.toList ++ []) (ds ++ [])).all (· ≤ reachBytes) = true := hsz0
  rw [List.append_nil, List.append_nil] at hsz
  rw [Try.params4] at hA hval hsz
  obtain ⟨v0, vs0, d0, ds0, p0, q0, hargs, rfl, rfl, h0, r0⟩ := trodAll_cons hA
  obtain ⟨v1, vs1, d1, ds1, p1, q1, rfl, rfl, rfl, h1, r1⟩ := trodAll_cons r0
  obtain ⟨v2, vs2, d2, ds2, p2, q2, rfl, rfl, rfl, h2, r2⟩ := trodAll_cons r1
  obtain ⟨rfl, rfl, rfl⟩ := trodAll_nil r2
  obtain rfl : args = #[v0, v1, v2] := by cases args; simp_all
  have lt0 : ∀ x ∈ p0, x.block < W.heap.size := by obtain ⟨m, hm⟩ := h0; exact DataW.trod_lt m _ _ _ hm
  obtain ⟨x0, w0⟩ := arg_of (j := 0) (reads_int T.int_3_i64) h0 hsz rfl rfl
  have lt1 : ∀ x ∈ p1, x.block < W.heap.size := by obtain ⟨m, hm⟩ := h1; exact DataW.trod_lt m _ _ _ hm
  obtain ⟨x1, w1⟩ := arg_of (j := 1) (reads_sl T.sl_54_9_1 T.bytes_9_16 (by decide) (reads_str T.str_9)) h1 hsz rfl rfl
  have lt2 : ∀ x ∈ p2, x.block < W.heap.size := by obtain ⟨m, hm⟩ := h2; exact DataW.trod_lt m _ _ _ hm
  obtain ⟨x2, w2⟩ := arg_of (j := 2) (reads_sl T.sl_54_9_1 T.bytes_9_16 (by decide) (reads_str T.str_9)) h2 hsz rfl rfl
  obtain ⟨n0, rfl⟩ := okWide_int Try.underlying3 (hval 0 3 v0 rfl rfl)
  obtain ⟨a1, l1, c1, rfl⟩ := okWide_slice Try.underlying54 (hval 1 54 v1 rfl rfl)
  obtain ⟨a2, l2, c2, rfl⟩ := okWide_slice Try.underlying54 (hval 2 54 v2 rfl rfl)
  obtain ⟨hc0, hr0⟩ := w0
  cases hc0
  refine (SegmentRoom_law hr0 w1 w2).mono fun e W' ⟨he, hb⟩ => ?_
  have bel := hb.below
  subst he
  exact ⟨_, rfl, _, _, _, [], _, [], hW', trodAll_mk1 (shut_bool Try.underlying4 _), (trodAll_cons_mk (Below.trod T.laidOut (by kernel_rfl) (of_decide_eq_true (by kernel_rfl)) h0 bel lt0) (trodAll_cons_mk (Below.trod T.laidOut (by kernel_rfl) (of_decide_eq_true (by kernel_rfl)) h1 bel lt1) (trodAll_cons_mk (Below.trod T.laidOut (by kernel_rfl) (of_decide_eq_true (by kernel_rfl)) h2 bel lt2) trodAll_mk0))), rfl, bel.frame _, fun h => by cases h⟩
theorem SegmentRoom_holds : Rows.SegmentRoomSaid :=
  OpenClaim.holds_of_wide 4 Try.f4 rfl rfl rfl rfl rfl rfl rfl ⟨rfl, rfl, rfl, rfl, rfl⟩ rfl rfl rfl rfl rfl (by kernel_rfl) Try.func4 (by kernel_rfl)
    (of_decide_eq_true (by kernel_rfl)) (by unfold Func.isWrapper; rw [if_neg (of_decide_eq_false (by kernel_rfl))]; exact ⟨rfl, rfl⟩)
    (fun os started H enc _ => SegmentRoom_lifted os started H enc)
#print axioms SegmentRoom_holds
end Go.Proofs.Ytipdklbedpkobaa
