/-
  MediumCounts: each write that is not refused is one raw write more, one more in the history, and so many bytes more.
-/
import Derived.Test.YtdebodbkggbjeaaM12p
import Derived.Test.YtdebodbkggbjeaaRows
namespace Go.Proofs.Ytdebodbkggbjeaa
set_option maxRecDepth 8000
set_option linter.unusedSimpArgs false
set_option linter.unusedVariables false
open Go Xe Go.Lib Go.RowKit Go.ChangeShapes Go.WideShapes Go.ChangeAt
structure Raw where
  seg : Int
  at_ : Int
  bytes : ByteArray
instance : DecidableEq Raw := fun a b => decidable_of_iff (a.seg = b.seg ∧ a.at_ = b.at_ ∧ a.bytes = b.bytes) (by cases a; cases b; simp)
@[reducible] def Raw.cells (x : Raw) : List Value := [.int .i64 x.seg, .int .i64 x.at_, .string x.bytes]
def Raw.ok (x : Raw) : Prop := (Lit.int .i64 x.seg).wf = true ∧ (Lit.int .i64 x.at_).wf = true ∧ x.bytes.size ≤ reachBytes
def rdRaw : Rd Raw := fun _ cs x => cs = x.cells ∧ x.ok
theorem mono_Raw : Rd.Mono rdRaw := fun _ _ _ h => h
theorem one_Raw : Rd.One rdRaw := fun h => by rw [h.1]; simp [Value.oneCell']
theorem eq_Raw (x y : Raw) : cellsEq x.cells y.cells = some (decide (x = y)) := by
  simp only [cellsEq, cellEq, if_true, Bool.and_true, Option.some.injEq]
  by_cases h : x = y
  · subst h; simp
  · rw [decide_eq_false h]
    refine Bool.eq_false_iff.2 fun h2 => h ?_
    simp only [Bool.and_eq_true, decide_eq_true_eq, beq_iff_eq] at h2
    obtain ⟨_, _, _⟩ := x
    obtain ⟨_, _, _⟩ := y
    simp_all
theorem reads_Raw {H : Type} {enc : TypeId × Value → H} : Reads enc Try.prog 57 rdRaw := fun w fuel cs d ps h hz => by
  have hl := reads_length T.agg_57_3 (by kernel_rfl) h hz
  obtain ⟨c0, c1, c2, rfl⟩ : ∃ c0 c1 c2, cs = [c0, c1, c2] := by
    match cs, hl with
    | [c0, c1, c2], _ => exact ⟨_, _, _, rfl⟩
  obtain ⟨x0, h0⟩ := reads_field (i := 0) (off := 0) (k := 1) (ft := 3) (by kernel_rfl) h hz (reads_int T.int_3_i64)
  obtain ⟨x1, h1⟩ := reads_field (i := 1) (off := 1) (k := 1) (ft := 3) (by kernel_rfl) h hz (reads_int T.int_3_i64)
  obtain ⟨x2, h2⟩ := reads_field (i := 2) (off := 2) (k := 1) (ft := 9) (by kernel_rfl) h hz (reads_str T.str_9)
  obtain ⟨e0, k0⟩ := h0
  obtain ⟨e1, k1⟩ := h1
  obtain ⟨e2, k2⟩ := h2
  simp only [List.drop_zero, List.drop_succ_cons, List.take_succ_cons, List.take_zero, List.cons.injEq, and_true] at e0 e1 e2
  obtain rfl := e0
  obtain rfl := e1
  obtain rfl := e2
  exact ⟨⟨x0, x1, x2⟩, rfl, k0, k1, k2⟩
theorem eq_wr {a b : Int} {s : ByteArray} : cellsEq [Value.int .i64 a, .int .i64 b, .string s] [Value.int .i64 a, .int .i64 b, .string s] = some true := by
  have h := eq_Raw ⟨a, b, s⟩ ⟨a, b, s⟩
  rw [decide_eq_true rfl] at h
  exact h
def pwN (s : Md) : Pw := ⟨false, 0, s.past.length⟩
/-- How a write ends while the power is on. -/
theorem wr_cases {s : Md} (i a : Int) (v : ByteArray) (hp : s.past.length ≤ 1000) (hb : 0 ≤ s.bytes ∧ s.bytes ≤ 1000000000) (hz : s.size ≤ 1048576) : (∃ e, e ≠ 0 ∧ s.write (pwN s) i a v = (e, s, pwN s)) ∨
    (s.write (pwN s) i a v = (0, s.put i a v, pwN (s.put i a v)) ∧ s.is i ∧ 0 ≤ a ∧ a ≤ (s.seg i).size ∧ (v.size : Int) ≤ s.size - a ∧ (s.put i a v).bytes = s.bytes + v.size) := by
  have hw : IntKind.i64.wrap ((s.past.length : Int) + 1) = s.past.length + 1 := i64_in (by omega)
  have hsp : (pwN s).spend = (0, ⟨false, 0, s.past.length + 1⟩) := by unfold Pw.spend pwN; simp [hw]
  unfold Md.write
  by_cases h1 : s.is i
  · rw [if_pos h1]
    by_cases h2 : a < 0 ∨ a > (s.seg i).size
    · rw [if_pos h2]; exact .inl ⟨121, by omega, rfl⟩
    · rw [if_neg h2]
      by_cases h3 : (v.size : Int) > s.size - a
      · rw [if_pos h3]; exact .inl ⟨122, by omega, rfl⟩
      · rw [if_neg h3, hsp, if_pos rfl]
        refine .inr ⟨?_, h1, by omega, by omega, by omega, ?_⟩
        · have e : pwN (s.put i a v) = ⟨false, 0, s.past.length + 1⟩ := by unfold pwN Md.put; simp
          rw [e]
        · show IntKind.i64.wrap (s.bytes + v.size) = _
          exact i64_in (by omega)
  · rw [if_neg h1]; exact .inl ⟨120, by omega, rfl⟩
theorem put_used {s : Md} {i a : Int} {v : ByteArray} (hi : s.is i) (h0 : 0 ≤ a) (h1 : a ≤ (s.seg i).size) : (s.put i a v).used i = a + v.size := by
  have hi1 := hi.1
  have hi2 := hi.2
  have h2 : (s.put i a v).is i := ⟨hi1, by simpa [Md.put] using hi2⟩
  unfold Md.used
  rw [if_pos h2]
  unfold Md.seg Md.put
  simp only
  rw [List.getElem?_set_self (by omega)]
  show ((((s.seg i).extract 0 a.toNat ++ v).size : Nat) : Int) = _
  rw [ByteArray.size_append, ByteArray.size_extract]
  omega
theorem md_ptr12 {E : Env} {w : World} {L : List As} {m p : Nat} {md : Md} (h : Sat E w (MdAt m p md :: L)) : w.cell? ⟨m, 0, none⟩ = some (.pointer (some ⟨p, 0, none⟩)) := by
  obtain ⟨_, g, cap, pa, pc, vs, _, _, _, h⟩ := md_open h
  exact sat_cell h (.here _) rfl
theorem bytes_calls {E : Env} {w : World} {L : List As} (m p : Nat) (s : Md) (hw : Sat E w (MdAt m p s :: L)) :
    Calls Try.prog 31 #[.pointer (some ⟨m, 0, none⟩)] w fun e w' => e = .returned (.int .i64 s.bytes) ∧ Sat E w' (MdAt m p s :: L) := by
  obtain ⟨hok, g, cap, pa, pc, vs, _, _, _, hw⟩ := md_open hw
  refine calls_of_g (n := 7) Try.func31 rfl rfl rfl ?_
  change G _ _ _ _ _ [(0, _)] _
  refine g_seq ?_
  refine g_region ?_
  refine xV rfl rfl rfl (v_assign rfl) ?_
  refine rl_nil (g_le (xK (Fr.le_refl _)) ?_)
  refine g_seq ?_
  refine g_region ?_
  refine xV rfl rfl rfl (v_move rfl) ?_
  refine xV rfl rfl rfl (v_nilCheck rfl) ?_
  refine xV rfl rfl rfl (v_fieldAddr0 T.fld_48_4_4 rfl) ?_
  refine rl_v rfl rfl rfl (by exact sat_cell hw (by (repeat first | with_reducible exact xH | apply xT); first | done | fail) rfl) (v_load T.scal_3 rfl) ?_
  refine xV rfl rfl rfl (v_assign rfl) ?_
  refine rl_nil (g_le (xK (xS rfl (xS rfl (xS rfl (xS rfl (Fr.le_refl _)))))) ?_)
  refine g_ret1 Try.func31 rfl rfl ?_
  exact ⟨rfl, md_close hok rfl rfl rfl hw⟩
theorem ord_f6_r25_M12C : orderOfB Try.f6 25 [] (.v 0 (.k 1 (.k 2 (.k 3 (.a 4 (.v 6 (.k 5 (.k 7 (.k 8 (.k 9 (.a 10 (.a 12 (.k 11 (.k 13 (.k 14 (.k 15 (.a 16 (.a 17 (.a 18 (.v 19 (.v 21 (.k 20 (.k 22 (.k 23 .done)))))))))))))))))))))))) = true := by kernel_rfl
theorem ord_f6_r17_M12C : orderOfB Try.f6 17 [] (.a 0 (.a 1 (.a 4 (.a 6 (.v 2 (.v 5 (.v 7 (.a 8 (.a 9 (.k 3 (.k 10 .done))))))))))) = true := by kernel_rfl
set_option maxHeartbeats 8000000 in
theorem MediumCounts_law {w : World} {sg sz : Int} {a1 : Option Addr} {n1 c1 : Nat} {xs : List Raw} (hn : (Lit.int .i64 sg).wf = true) (hn2 : (Lit.int .i64 sz).wf = true) (hr : rdArg (rdSl 32 3 rdRaw) w (.slice a1 n1 c1) xs) :
    Law Try.prog 6 [.int .i64 sg, .int .i64 sz, .slice a1 n1 c1] w := by
  unfold Law
  clear hn hn2
  have hw := Sat.old w
  generalize w = W at hr hw ⊢
  have hr : (rdSl 32 3 rdRaw) (hpOf W) [.slice a1 n1 c1] xs := hr
  obtain ⟨rfl, _, _, hxm, gx⟩ := rdSl_get hr
  simp only [maxLen] at hxm
  have hw : Sat (envOf W) W [RO (hpOf W)] := hw
  refine calls_of_g (n := 120) Try.func6 rfl rfl rfl ?_
  change G _ _ _ _ _ [(0, _), (1, _), (2, _)] _
  refine g_seq ?_
  refine g_region ?_
  refine rl_k rfl (k_alloc hw T.zero_4 rfl rfl (fun bk0_0 w hw => ?_))
  refine rl_nil (g_le (xK (Fr.le_refl _)) ?_)
  refine g_seq (g_seq ?_)
  refine g_cutc2 (σ := Int) (fun C x => (0, .int .i64 x) :: C) [(1, _), (2, _), (6, _)] (by repeat (first | exact Fr.le_nil _ | refine Fr.le_cons rfl ?_)) (fun x w => 1 ≤ x ∧ x ≤ 20 ∧ Sat (envOf W) w (pt bk0_0 (.cells [Value.bool false].toArray 4 (0, 0)) :: [RO (hpOf W)])) ?_ ?_
  · skip
    rintro n w ⟨hn1, hn2, hw⟩
    all_goals
      refine g_seq (g_seq ?_)
      refine g_cutc2 (σ := Int) (fun C x => (1, .int .i64 x) :: C) [(0, _), (2, _), (6, _)] (by repeat (first | exact Fr.le_nil _ | refine Fr.le_cons rfl ?_)) (fun x w => 1 ≤ x ∧ x ≤ 100 ∧ Sat (envOf W) w (pt bk0_0 (.cells [Value.bool false].toArray 4 (0, 0)) :: [RO (hpOf W)])) ?_ ?_
      · skip
        rintro size w ⟨hz1, hz2, hw⟩
        all_goals
          refine g_seq ?_
          refine g_region ?_
          refine rl_k rfl (k_callf Try.func12 rfl rfl rfl rfl ?_)
          refine Calls.mono (new_calls (hw.xQ)) ?_
          rintro _ w ⟨p, rfl, hw⟩
          refine ⟨_, rfl, ?_⟩
          refine xV rfl rfl rfl (v_move rfl) ?_
          refine xV rfl rfl rfl (v_move rfl) ?_
          refine rl_k rfl (k_callf Try.func25 rfl rfl rfl rfl ?_)
          refine Calls.mono (mnew_calls p n size (by omega) (by omega) (by omega) (by omega) hw) ?_
          rintro _ w ⟨m, rfl, hw⟩
          refine ⟨_, rfl, ?_⟩
          refine xV rfl rfl rfl (v_move rfl) ?_
          refine xV rfl rfl rfl (v_extract rfl rfl) ?_
          refine xV rfl rfl rfl (v_extract rfl rfl) ?_
          refine xV rfl rfl rfl (v_assign rfl) ?_
          refine xV rfl rfl rfl (v_assign rfl) ?_
          refine rl_nil (g_le (xK (xK (xS rfl (xS rfl (xS rfl (xS rfl (xS rfl (xS rfl (xS rfl (Fr.le_refl _)))))))))) ?_)
          refine g_seq (g_seq ?_)
          refine g_region ?_
          refine xV rfl rfl rfl (v_move rfl) ?_
          refine xV rfl rfl rfl (v_neqF rfl rfl (by omega)) ?_
          refine xV rfl rfl rfl (v_move rfl) ?_
          refine rl_split (s := 37) rfl (fun g6_2 => ?_) (fun g6_2 => ?_)
          · try with_reducible exact ft_elim g6_2
            all_goals
              try replace g6_2 := of_decide_eq_true g6_2
              simp at g6_2
          · try with_reducible exact tf_elim g6_2
            all_goals
              try replace g6_2 := of_decide_eq_false g6_2
              refine rl_vg (met_on rfl rfl rfl rfl) rfl rfl (S := fun _ => True) trivial (v_move rfl) ?_
              refine rl_vg (met_on rfl rfl rfl rfl) rfl rfl (S := fun _ => True) trivial (v_eqlNil T.ptr_42 rfl rfl) ?_
              refine xV rfl rfl rfl (v_pick_false rfl rfl) ?_
              refine rl_nil (g_le (xK (xS rfl (xS rfl (xS rfl (xS rfl (xS rfl (xS rfl (Fr.le_refl _)))))))) ?_)
              refine g_cond_false rfl ?_
              refine g_skip (g_seq ?_)
              have hw : Sat (envOf W) w (MdAt m p ⟨size, List.replicate n.toNat ByteArray.empty, [], 0⟩ :: PwAt p (pwN ⟨size, List.replicate n.toNat ByteArray.empty, [], 0⟩) :: pt bk0_0 (.cells [Value.bool false].toArray 4 (0, 0)) :: [RO (hpOf W)]) := by
                have e : pwN ⟨size, List.replicate n.toNat ByteArray.empty, [], 0⟩ = ⟨false, 0, 0⟩ := rfl
                rw [e]
                exact hw.xQ
              refine g_region ?_
              refine rl_k rfl (k_alloc hw T.zero_3 rfl rfl (fun bk8_0 w hw => ?_))
              refine rl_k rfl (k_store hw T.scal_3 rfl rfl rfl (by (repeat first | with_reducible exact xH | apply xT); first | done | fail) rfl (by simp only [List.set, Int.reduceToNat, Nat.reduceMul, Nat.reduceAdd]; rfl) (fun w hw => ?_))
              refine xV rfl rfl rfl (v_assign rfl) ?_
              refine rl_nil (g_le (xK (xK (Fr.le_refl _))) ?_)
              refine g_seq (g_seq ?_)
              refine g_region ?_
              refine xV rfl rfl rfl (v_move rfl) ?_
              refine xV rfl rfl rfl (v_lenSlice T.sl_46_57_3 rfl) ?_
              refine xV rfl rfl rfl (v_move rfl) ?_
              refine rl_nil (g_le (xK (xK (xK (Fr.le_refl _)))) ?_)
              refine g_block ?_
              refine g_loopM (σ := Nat × Md × List Nat) (fun C x => (43, .int .i64 (x.1 : Nat)) :: (10, .int .i64 x.2.1.bytes) :: C) [(6, _), (7, _), (9, _), (41, _), (42, _)] (by repeat (first | exact Fr.le_nil _ | refine Fr.le_cons rfl ?_)) (fun z => z.2.2) (fun z w => z.1 ≤ xs.length ∧ z.1 ≤ 60 ∧ z.2.1.past.length ≤ z.1 ∧ 0 ≤ z.2.1.bytes ∧ z.2.1.bytes ≤ 100 * z.1 ∧ z.2.1.size = size ∧ Sat (envOf W) w (pt bk8_0 (.cells [Value.int .i64 ((z.2.1.past.length : Nat) : Int)].toArray 3 (0, 0)) :: MdAt m p z.2.1 :: PwAt p (pwN z.2.1) :: marks z.2.2 :: pt bk0_0 (.cells [Value.bool false].toArray 4 (0, 0)) :: [RO (hpOf W)])) (fun z => xs.length - z.1) ?_ (0, ⟨size, List.replicate n.toNat ByteArray.empty, [], 0⟩, []) (by repeat (first | exact Fr.le_nil _ | refine Fr.le_cons rfl ?_)) ⟨by simp, by simp, by simp, by simp, by simp, rfl, by dsimp only; rw [show ((([] : List Wr).length : Nat) : Int) = 0 from rfl]; exact (marks_nil hw).xQ⟩
              rintro ⟨i, md, bs⟩ w ⟨hi1, hi2, hpl, hby0, hby1, hmz, hw⟩ ih
              dsimp only at hi1 hi2 hpl hby0 hby1 hmz hw ih ⊢
              refine g_seq ?_
              refine g_region ?_
              refine xV rfl rfl rfl (v_lss rfl rfl) ?_
              refine rl_nil (g_le (xK (Fr.le_refl _)) ?_)
              refine g_seq ?_
              refine g_cond rfl (fun h4 => ?_) (fun h4 => ?_)
              · try with_reducible exact ft_elim h4
                all_goals
                  try replace h4 := of_decide_eq_true h4
                  refine g_skip (g_seq (g_block (g_seq ?_)))
                  have hz := hw
                  clear hw
                  obtain ⟨b4, o4, x, ecs, rfl, hx, hat1, hl1, hrd⟩ := gx (i : Nat) (by omega) (by omega)
                  have hec : ecs = x.cells := hrd.1
                  subst hec
                  have hxs : x.bytes.size ≤ reachBytes := hrd.2.2.2
                  simp only [reachBytes] at hxs
                  rw [Int.toNat_natCast] at hx hat1
                  have hw := hz
                  refine g_region ?_
                  refine xV rfl rfl rfl (v_move rfl) ?_
                  refine xV rfl rfl rfl (v_indexAddr T.sl_46_57_3 rfl rfl (by omega) (by omega)) ?_
                  refine rl_v rfl rfl rfl (by exact ro_ats hw (by (repeat first | with_reducible exact xH | apply xT); first | done | fail) (by assumption)) (v_loadAgg (vs := [_, _, _]) T.agg_57_3 rfl rfl) ?_
                  refine rl_k rfl (k_alloc hw T.zero_57 rfl rfl (fun bk11_3 w hw => ?_))
                  refine xV rfl rfl rfl (v_assign rfl) ?_
                  refine rl_k rfl (k_storeWhole hw T.agg_57_3 rfl rfl (by simp [Value.oneCell']) rfl (by (repeat first | with_reducible exact xH | apply xT); first | done | fail) rfl (fun w hw => ?_))
                  refine rl_nil (g_le (xK (xK (xK (xK (xK (Fr.le_refl _)))))) ?_)
                  refine g_seq (g_seq ?_)
                  refine g_region ?_
                  refine xV rfl rfl rfl (v_move rfl) ?_
                  refine xV rfl rfl rfl (v_geq rfl rfl) ?_
                  refine rl_nil (g_le (xK (xK (Fr.le_refl _))) ?_)
                  refine g_cond rfl (fun h5 => ?_) (fun h5 => ?_)
                  · try with_reducible exact ft_elim h5
                    all_goals
                      try replace h5 := of_decide_eq_true h5
                      refine g_exit rfl (g_seq ?_)
                      refine g_region ?_
                      refine rl_k rfl (k_store hw T.scal_4 rfl rfl rfl (by (repeat first | with_reducible exact xH | apply xT); first | done | fail) rfl (by simp only [List.set, Int.reduceToNat, Nat.reduceMul, Nat.reduceAdd]; rfl) (fun w hw => ?_))
                      refine rl_nil (g_le (Fr.le_refl _) ?_)
                      refine g_retMC (bs := bs) Try.func6 rfl hw (by (repeat first | with_reducible exact xH | apply xT); first | done | fail) rfl (fun w hw => holds_scal T.scal_4 (by exact sat_cell hw (by (repeat first | with_reducible exact xH | apply xT); first | done | fail) rfl)) (fun w hw => ?_)
                      exact ⟨rfl, hw.xQ⟩
                  · try with_reducible exact tf_elim h5
                    all_goals
                      try replace h5 := of_decide_eq_false h5
                      refine g_skip (g_seq ?_)
                      refine g_region ?_
                      refine xV rfl rfl rfl (v_move rfl) ?_
                      refine xV rfl rfl rfl (v_fieldAddr0 T.fld_57_0_0 rfl) ?_
                      refine rl_v rfl rfl rfl (by exact sat_cell hw (by (repeat first | with_reducible exact xH | apply xT); first | done | fail) rfl) (v_load T.scal_3 rfl) ?_
                      refine xV rfl rfl rfl (v_fieldAddr0 T.fld_57_1_1 rfl) ?_
                      refine rl_v rfl rfl rfl (by exact sat_cell hw (by (repeat first | with_reducible exact xH | apply xT); first | done | fail) rfl) (v_load T.scal_3 rfl) ?_
                      refine xV rfl rfl rfl (v_fieldAddr0 T.fld_57_2_2 rfl) ?_
                      refine rl_v rfl rfl rfl (by exact sat_cell hw (by (repeat first | with_reducible exact xH | apply xT); first | done | fail) rfl) (v_load T.scal_9 rfl) ?_
                      refine rl_k rfl (k_callf Try.func27 rfl rfl rfl rfl ?_)
                      refine Calls.mono (mwrite_calls m p md (pwN md) x.seg x.at_ x.bytes ⟨by simp [pwN], by simp [pwN], i64_in (by simp only [pwN]; omega)⟩ (by omega) (hw.xQ)) ?_
                      have hwr := wr_cases x.seg x.at_ x.bytes (s := md) (by omega) (by omega) (by omega)
                      generalize md.write (pwN md) x.seg x.at_ x.bytes = r at hwr ⊢
                      rintro _ w ⟨rfl, hw⟩
                      refine ⟨_, rfl, ?_⟩
                      refine rl_k rfl (k_alloc hw T.zero_36 rfl rfl (fun bk13_8 w hw => ?_))
                      refine rl_k rfl (k_store hw T.scal_36 rfl rfl rfl (by (repeat first | with_reducible exact xH | apply xT); first | done | fail) rfl (by simp only [List.set, Int.reduceToNat, Nat.reduceMul, Nat.reduceAdd]; rfl) (fun w hw => ?_))
                      refine rl_nil (g_le (xK (xK (xK (xK (xK (xK (xK (xK (xK (Fr.le_refl _)))))))))) ?_)
                      refine g_seq (g_seq ?_)
                      refine g_region ?_
                      refine rl_v rfl rfl rfl (by exact sat_cell hw (by (repeat first | with_reducible exact xH | apply xT); first | done | fail) rfl) (v_load T.scal_36 rfl) ?_
                      refine xV rfl rfl rfl (v_eql rfl rfl) ?_
                      refine rl_nil (g_le (xK (xK (Fr.le_refl _))) ?_)
                      refine g_cutc (σ := Md) (fun C x => (10, .int .i64 x.bytes) :: C) [(6, _), (7, _), (9, _), (11, _), (12, _), (13, _), (41, _), (42, _), (43, _), (44, _), (45, _), (46, _), (47, _), (48, _), (49, _), (50, _), (51, _), (52, _), (53, _), (54, _), (55, _), (56, _), (57, _), (58, _), (59, _)] (by repeat (first | exact Fr.le_nil _ | refine Fr.le_cons rfl ?_)) (fun z w => z.past.length ≤ i + 1 ∧ 0 ≤ z.bytes ∧ z.bytes ≤ 100 * (i + 1) ∧ z.size = size ∧ (r.1 = 0 → z.past[z.past.length - 1]? = some (x.seg, x.at_, x.bytes)) ∧ Sat (envOf W) w (MdAt m p z :: PwAt p (pwN z) :: pt bk8_0 (.cells [Value.int .i64 ((z.past.length : Nat) : Int)].toArray 3 (0, 0)) :: pt bk13_8 (.cells [Value.int .i64 r.1].toArray 36 (0, 0)) :: pt bk11_3 (.cells [Value.int .i64 x.seg, .int .i64 x.at_, .string x.bytes].toArray 57 (0, 0)) :: marks bs :: pt bk0_0 (.cells [Value.bool false].toArray 4 (0, 0)) :: [RO (hpOf W)])) ?_ ?_
                      · skip
                        clear hw
                        rintro md2 w ⟨hpl2, hby2, hby3, hmz2, hlast, hw⟩
                        all_goals
                          refine g_seq ?_
                          refine g_region ?_
                          refine rl_k rfl (k_alloc hw T.zero_3 rfl rfl (fun bk19_0 w hw => ?_))
                          refine rl_k rfl (k_store hw T.scal_3 rfl rfl rfl (by (repeat first | with_reducible exact xH | apply xT); first | done | fail) rfl (by simp only [List.set, Int.reduceToNat, Nat.reduceMul, Nat.reduceAdd]; rfl) (fun w hw => ?_))
                          refine rl_nil (g_le (xK (Fr.le_refl _)) ?_)
                          refine g_seq (g_seq ?_)
                          refine g_region ?_
                          refine xV rfl rfl rfl (v_move rfl) ?_
                          refine rl_k rfl (k_callf Try.func30 rfl rfl rfl rfl ?_)
                          refine Calls.mono (past_calls m hw) ?_
                          rintro _ w ⟨q, rfl, hw⟩
                          refine ⟨_, rfl, ?_⟩
                          refine rl_nil (g_le (xK (xK (Fr.le_refl _))) ?_)
                          refine g_block ?_
                          have hw1 := Sat.unflat (X := [_, _]) (hw.xQ : Sat (envOf W) w ([pt q (.cells [Value.pointer (some ⟨m, 0, none⟩)].toArray 42 (0, 0)), MdAt m p md2] ++ (pt bk19_0 (.cells [Value.int .i64 0].toArray 3 (0, 0)) :: pt bk8_0 (.cells [Value.int .i64 ((md2.past.length : Nat) : Int)].toArray 3 (0, 0)) :: pt bk13_8 (.cells [Value.int .i64 r.1].toArray 36 (0, 0)) :: pt bk11_3 (.cells [Value.int .i64 x.seg, .int .i64 x.at_, .string x.bytes].toArray 57 (0, 0)) :: PwAt p (pwN md2) :: marks bs :: pt bk0_0 (.cells [Value.bool false].toArray 4 (0, 0)) :: [RO (hpOf W)])))
                          have hw2 := Sat.unflat (X := [_, _, _, _]) ((by rw [show ((0 : Nat) : Int) = 0 from rfl]; exact hw1.xQ) : Sat (envOf W) w ([pt bk19_0 (.cells [Value.int .i64 ((0 : Nat) : Int)].toArray 3 (0, 0)), pt bk8_0 (.cells [Value.int .i64 ((md2.past.length : Nat) : Int)].toArray 3 (0, 0)), pt bk13_8 (.cells [Value.int .i64 r.1].toArray 36 (0, 0)), pt bk11_3 (.cells [Value.int .i64 x.seg, .int .i64 x.at_, .string x.bytes].toArray 57 (0, 0))] ++ (stars [pt q (.cells [Value.pointer (some ⟨m, 0, none⟩)].toArray 42 (0, 0)), MdAt m p md2] :: PwAt p (pwN md2) :: marks bs :: pt bk0_0 (.cells [Value.bool false].toArray 4 (0, 0)) :: [RO (hpOf W)])))
                          refine g_rangeFunc (I := fun i => stars [pt bk19_0 (.cells [Value.int .i64 ((i : Nat) : Int)].toArray 3 (0, 0)), pt bk8_0 (.cells [Value.int .i64 ((md2.past.length : Nat) : Int)].toArray 3 (0, 0)), pt bk13_8 (.cells [Value.int .i64 r.1].toArray 36 (0, 0)), pt bk11_3 (.cells [Value.int .i64 x.seg, .int .i64 x.at_, .string x.bytes].toArray 57 (0, 0))]) (ps := [80]) Try.func51 rfl rfl rfl (past_iter (m := m) (p := p) (s := md2) (by omega) q) (fun args ha => by obtain ⟨x, _, rfl⟩ := List.mem_map.1 ha; rfl) rfl hw2 ?_ ?_
                          · skip
                            rintro fn l rec j args M' w hst hxj hw
                            rw [List.getElem?_map] at hxj
                            obtain ⟨y, hyj, rfl⟩ := Option.map_eq_some_iff.1 hxj
                            have hjl := (List.getElem?_eq_some_iff.1 hyj).1
                            have hw := Sat.flat (X := [_, _, _, _]) hw
                            dsimp only [List.append, List.cons_append, List.nil_append] at hw
                            dsimp only [zipF]
                            refine g_region ?_
                            refine rl_k rfl (k_alloc hw T.zero_57 rfl rfl (fun bk21_0 w hw => ?_))
                            refine rl_k rfl (k_storeWhole hw T.agg_57_3 rfl rfl (by simp [Value.oneCell']) rfl (by (repeat first | with_reducible exact xH | apply xT); first | done | fail) rfl (fun w hw => ?_))
                            refine rl_nil (g_le (xK (Fr.le_refl _)) ?_)
                            have hw := hw.xP (A := pt l (.loop rec))
                            refine g_beginRound hw hst (fun w hw => ?_)
                            refine g_block (g_seq ?_)
                            refine g_region ?_
                            refine rl_v rfl rfl rfl (by exact sat_cell hw (by (repeat first | with_reducible exact xH | apply xT); first | done | fail) rfl) (v_load T.scal_3 rfl) ?_
                            refine xV rfl rfl rfl (v_add rfl rfl (by omega)) ?_
                            refine rl_k rfl (k_store hw T.scal_3 rfl rfl rfl (by (repeat first | with_reducible exact xH | apply xT); first | done | fail) rfl (by simp only [List.set, Int.reduceToNat, Nat.reduceMul, Nat.reduceAdd]; rfl) (fun w hw => ?_))
                            refine rl_nil (g_le (xS rfl (xS rfl (Fr.le_refl _))) ?_)
                            refine g_seq ?_
                            refine g_region ?_
                            refine rl_v rfl rfl rfl (by exact sat_cell hw (by (repeat first | with_reducible exact xH | apply xT); first | done | fail) rfl) (v_load T.scal_3 rfl) ?_
                            refine rl_v rfl rfl rfl (by exact sat_cell hw (by (repeat first | with_reducible exact xH | apply xT); first | done | fail) rfl) (v_load T.scal_3 rfl) ?_
                            refine xV rfl rfl rfl (v_eql rfl rfl) ?_
                            refine xV rfl rfl rfl (v_move rfl) ?_
                            refine rl_split (s := 86) rfl (fun g23_3 => ?_) (fun g23_3 => ?_)
                            · try with_reducible exact ft_elim g23_3
                              all_goals
                                try replace g23_3 := of_decide_eq_true g23_3
                                refine rl_vg (met_on rfl rfl rfl rfl) rfl rfl (by exact sat_cell hw (by (repeat first | with_reducible exact xH | apply xT); first | done | fail) rfl) (v_load T.scal_36 rfl) ?_
                                refine rl_vg (met_on rfl rfl rfl rfl) rfl rfl (S := fun _ => True) trivial (v_eql rfl rfl) ?_
                                refine xV rfl rfl rfl (v_pick_true rfl rfl) ?_
                                refine xV rfl rfl rfl (v_move rfl) ?_
                                refine rl_split (s := 90) rfl (fun g23_7 => ?_) (fun g23_7 => ?_)
                                · try with_reducible exact ft_elim g23_7
                                  all_goals
                                    try replace g23_7 := of_decide_eq_true g23_7
                                    have hy9 := hlast (by omega)
                                    rw [show md2.past.length - 1 = j by omega, hyj] at hy9
                                    obtain rfl := Option.some.inj hy9
                                    dsimp only at hw
                                    refine rl_vg (met_on rfl rfl rfl rfl) rfl rfl (by exact sat_cells hw (by (repeat first | with_reducible exact xH | apply xT); first | done | fail) ⟨rfl, rfl, rfl, trivial⟩) (v_loadAgg (vs := [_, _, _]) T.agg_57_3 rfl rfl) ?_
                                    refine rl_vg (met_on rfl rfl rfl rfl) rfl rfl (by exact sat_cells hw (by (repeat first | with_reducible exact xH | apply xT); first | done | fail) ⟨rfl, rfl, rfl, trivial⟩) (v_loadAgg (vs := [_, _, _]) T.agg_57_3 rfl rfl) ?_
                                    refine rl_vg (met_on rfl rfl rfl rfl) rfl rfl (S := fun _ => True) trivial (v_neqAgg T.cmp_57_iis rfl rfl rfl rfl (by exact eq_Raw _ _)) ?_
                                    refine xV rfl rfl rfl (v_pick_true rfl rfl) ?_
                                    refine rl_nil (g_le (xK (xS rfl (xS rfl (xS rfl (xS rfl (xS rfl (xS rfl (xS rfl (xS rfl (xS rfl (xS rfl (xS rfl (xS rfl (xS rfl (Fr.le_refl _))))))))))))))) ?_)
                                    refine g_cond rfl (fun h8 => ?_) (fun h8 => ?_)
                                    · try with_reducible exact ft_elim h8
                                      all_goals
                                        try replace h8 := of_decide_eq_true h8
                                        simp at h8
                                    · try with_reducible exact tf_elim h8
                                      all_goals
                                        try replace h8 := of_decide_eq_false h8
                                        refine g_skip (g_inBlock ?_)
                                        refine g_endR ?_
                                        exact Sat.unflat (X := [_, _, _, _]) ((by rw [show (((j + 1 : Nat) : Int)) = (j : Int) + 1 by omega]; exact hw.xQ) : Sat (envOf W) _ ([pt bk19_0 (.cells [Value.int .i64 ((j + 1 : Nat) : Int)].toArray 3 (0, 0)), pt bk8_0 (.cells [Value.int .i64 ((md2.past.length : Nat) : Int)].toArray 3 (0, 0)), pt bk13_8 (.cells [Value.int .i64 r.1].toArray 36 (0, 0)), pt bk11_3 (.cells [Value.int .i64 x.seg, .int .i64 x.at_, .string x.bytes].toArray 57 (0, 0))] ++ (pt l (.loop { rec with state := .busy }) :: M')))
                                · try with_reducible exact tf_elim g23_7
                                  all_goals
                                    try replace g23_7 := of_decide_eq_false g23_7
                                    refine rl_off (met_off rfl rfl rfl rfl rfl) rfl rfl ?_
                                    refine rl_off (met_off rfl rfl rfl rfl rfl) rfl rfl ?_
                                    refine rl_off (met_off rfl rfl rfl rfl rfl) rfl rfl ?_
                                    refine xV rfl rfl rfl (v_pick_false rfl rfl) ?_
                                    refine rl_nil (g_le (xK (xS rfl (xS rfl (xS rfl (xS rfl (xS rfl (xS rfl (xS rfl (xS rfl (xS rfl (xS rfl (xS rfl (xS rfl (xS rfl (Fr.le_refl _))))))))))))))) ?_)
                                    refine g_cond_false rfl ?_
                                    refine g_skip (g_inBlock ?_)
                                    refine g_endR ?_
                                    exact Sat.unflat (X := [_, _, _, _]) ((by rw [show (((j + 1 : Nat) : Int)) = (j : Int) + 1 by omega]; exact hw.xQ) : Sat (envOf W) _ ([pt bk19_0 (.cells [Value.int .i64 ((j + 1 : Nat) : Int)].toArray 3 (0, 0)), pt bk8_0 (.cells [Value.int .i64 ((md2.past.length : Nat) : Int)].toArray 3 (0, 0)), pt bk13_8 (.cells [Value.int .i64 r.1].toArray 36 (0, 0)), pt bk11_3 (.cells [Value.int .i64 x.seg, .int .i64 x.at_, .string x.bytes].toArray 57 (0, 0))] ++ (pt l (.loop { rec with state := .busy }) :: M')))
                            · try with_reducible exact tf_elim g23_3
                              all_goals
                                try replace g23_3 := of_decide_eq_false g23_3
                                refine rl_off (met_off rfl rfl rfl rfl rfl) rfl rfl ?_
                                refine rl_off (met_off rfl rfl rfl rfl rfl) rfl rfl ?_
                                refine xV rfl rfl rfl (v_pick_false rfl rfl) ?_
                                refine xV rfl rfl rfl (v_move rfl) ?_
                                refine rl_off (met_off rfl rfl rfl rfl rfl) rfl rfl ?_
                                refine rl_off (met_off rfl rfl rfl rfl rfl) rfl rfl ?_
                                refine rl_off (met_off rfl rfl rfl rfl rfl) rfl rfl ?_
                                refine xV rfl rfl rfl (v_pick_false rfl rfl) ?_
                                refine rl_nil (g_le (xK (xS rfl (xS rfl (xS rfl (xS rfl (xS rfl (xS rfl (xS rfl (xS rfl (xS rfl (xS rfl (xS rfl (xS rfl (Fr.le_refl _)))))))))))))) ?_)
                                refine g_cond_false rfl ?_
                                refine g_skip (g_inBlock ?_)
                                refine g_endR ?_
                                exact Sat.unflat (X := [_, _, _, _]) ((by rw [show (((j + 1 : Nat) : Int)) = (j : Int) + 1 by omega]; exact hw.xQ) : Sat (envOf W) _ ([pt bk19_0 (.cells [Value.int .i64 ((j + 1 : Nat) : Int)].toArray 3 (0, 0)), pt bk8_0 (.cells [Value.int .i64 ((md2.past.length : Nat) : Int)].toArray 3 (0, 0)), pt bk13_8 (.cells [Value.int .i64 r.1].toArray 36 (0, 0)), pt bk11_3 (.cells [Value.int .i64 x.seg, .int .i64 x.at_, .string x.bytes].toArray 57 (0, 0))] ++ (pt l (.loop { rec with state := .busy }) :: M')))
                          · skip
                            rintro bf w hw
                            have hw := Sat.flat (X := [_, _, _, _]) hw
                            dsimp only [List.append, List.cons_append, List.nil_append] at hw
                            have hw := Sat.flat (X := [_, _]) (hw.xP (A := stars [pt q (.cells [Value.pointer (some ⟨m, 0, none⟩)].toArray 42 (0, 0)), MdAt m p md2]))
                            dsimp only [List.append, List.cons_append, List.nil_append] at hw
                            rw [List.length_map] at hw
                            have hw := marks_add (hw.xQ : Sat (envOf W) w (pt bf (.deferred (some [])) :: marks bs :: MdAt m p md2 :: PwAt p (pwN md2) :: pt bk19_0 (.cells [Value.int .i64 ((md2.past.length : Nat) : Int)].toArray 3 (0, 0)) :: pt bk8_0 (.cells [Value.int .i64 ((md2.past.length : Nat) : Int)].toArray 3 (0, 0)) :: pt bk0_0 (.cells [Value.bool false].toArray 4 (0, 0)) :: [RO (hpOf W)]))
                            refine g_inBlock (g_seq ?_)
                            refine g_drawR ord_f6_r25_M12C (by kernel_rfl) T.mixed hw (fun w hw => ?_)
                            refine rs_v 0 rfl rfl rfl rfl (OpV.mono (v_load T.scal_3 rfl) (fun w hw => by exact sat_cell hw (by (repeat first | with_reducible exact xH | apply xT); first | done | fail) rfl)) (by exact hw) ?_
                            refine rs_kv 1 rfl rfl rfl rfl (by exact sat_cell hw (by (repeat first | with_reducible exact xH | apply xT); first | done | fail) rfl) (v_load T.scal_3 rfl) ?_
                            refine rs_kv 2 rfl rfl rfl rfl (S' := fun _ => True) trivial (v_neqF rfl rfl (by omega)) ?_
                            refine rs_kv 3 rfl rfl rfl rfl (S' := fun _ => True) trivial (v_move rfl) ?_
                            refine rs_split (s := 98) rfl (fun g25_3 => ?_) (fun g25_3 => ?_)
                            · try with_reducible exact ft_elim g25_3
                              all_goals
                                try replace g25_3 := of_decide_eq_true g25_3
                                simp at g25_3
                            · try with_reducible exact tf_elim g25_3
                              all_goals
                                try replace g25_3 := of_decide_eq_false g25_3
                                refine rs_ag 4 rfl (met_on rfl rfl rfl rfl) rfl rfl (v_move rfl) ?_
                                refine rs_vg 6 rfl (met_on rfl rfl rfl rfl) rfl rfl (OpV.mono (v_load T.scal_3 rfl) (fun w hw => by exact sat_cell hw (by (repeat first | with_reducible exact xH | apply xT); first | done | fail) rfl)) (by exact hw) ?_
                                refine rs_kg 5 rfl (met_on rfl rfl rfl rfl) (k_callf Try.func28 rfl rfl rfl rfl ?_)
                                refine Calls.mono (mcount_calls m p md2 (hw.xP (A := MdAt m p md2))) ?_
                                rintro _ w ⟨rfl, hw⟩
                                refine ⟨_, rfl, ?_⟩
                                refine ⟨fun _ => (by exact Sat.sub hw (by (repeat (first | with_reducible exact Sub.refl _ | exact Sub.nil _ | (apply Sub.cons; focus ((repeat (first | with_reducible exact Pick.here _ | apply Pick.there)); (first | done | fail))) | with_reducible apply Sub.drop)); first | done | fail)), ?_⟩
                                refine rs_kvg 7 rfl (met_on rfl rfl rfl rfl) rfl rfl (S' := fun _ => True) trivial (v_neqF rfl rfl (by omega)) ?_
                                refine rs_kv 8 rfl rfl rfl rfl (S' := fun _ => True) trivial (v_pick_false rfl rfl) ?_
                                refine rs_kv 9 rfl rfl rfl rfl (S' := fun _ => True) trivial (v_move rfl) ?_
                                refine rs_split (s := 104) rfl (fun g25_9 => ?_) (fun g25_9 => ?_)
                                · try with_reducible exact ft_elim g25_9
                                  all_goals
                                    try replace g25_9 := of_decide_eq_true g25_9
                                    simp at g25_9
                                · try with_reducible exact tf_elim g25_9
                                  all_goals
                                    try replace g25_9 := of_decide_eq_false g25_9
                                    refine rs_ag 10 rfl (met_on rfl rfl rfl rfl) rfl rfl (v_move rfl) ?_
                                    refine rs_ag 12 rfl (met_on rfl rfl rfl rfl) rfl rfl (v_move rfl) ?_
                                    refine rs_kg 11 rfl (met_on rfl rfl rfl rfl) (k_callf Try.func31 rfl rfl rfl rfl ?_)
                                    refine Calls.mono (bytes_calls m p md2 (hw.xP (A := MdAt m p md2))) ?_
                                    rintro _ w ⟨rfl, hw⟩
                                    refine ⟨_, rfl, ?_⟩
                                    refine ⟨fun _ => (by exact Sat.sub hw (by (repeat (first | with_reducible exact Sub.refl _ | exact Sub.nil _ | (apply Sub.cons; focus ((repeat (first | with_reducible exact Pick.here _ | apply Pick.there)); (first | done | fail))) | with_reducible apply Sub.drop)); first | done | fail)), ?_⟩
                                    refine rs_kvg 13 rfl (met_on rfl rfl rfl rfl) rfl rfl (S' := fun _ => True) trivial (v_neqF rfl rfl (by omega)) ?_
                                    refine rs_kv 14 rfl rfl rfl rfl (S' := fun _ => True) trivial (v_pick_false rfl rfl) ?_
                                    refine rs_kv 15 rfl rfl rfl rfl (S' := fun _ => True) trivial (v_move rfl) ?_
                                    refine rs_split (s := 110) rfl (fun g25_15 => ?_) (fun g25_15 => ?_)
                                    · try with_reducible exact ft_elim g25_15
                                      all_goals
                                        try replace g25_15 := of_decide_eq_true g25_15
                                        simp at g25_15
                                    · try with_reducible exact tf_elim g25_15
                                      all_goals
                                        try replace g25_15 := of_decide_eq_false g25_15
                                        refine rs_ag 16 rfl (met_on rfl rfl rfl rfl) rfl rfl (v_move rfl) ?_
                                        refine rs_ag 17 rfl (met_on rfl rfl rfl rfl) rfl rfl (v_nilCheck rfl) ?_
                                        refine rs_ag 18 rfl (met_on rfl rfl rfl rfl) rfl rfl (v_fieldAddr0 T.fld_48_0_0 rfl) ?_
                                        refine rs_vg 19 rfl (met_on rfl rfl rfl rfl) rfl rfl (OpV.mono (v_load T.scal_24 rfl) (fun w hw => by exact md_ptr12 (hw.xP (A := MdAt m p md2)))) (by exact Sat.sub hw (by (repeat (first | with_reducible exact Sub.refl _ | exact Sub.nil _ | (apply Sub.cons; focus ((repeat (first | with_reducible exact Pick.here _ | apply Pick.there)); (first | done | fail))) | with_reducible apply Sub.drop)); first | done | fail)) ?_
                                        refine rs_vg 21 rfl (met_on rfl rfl rfl rfl) rfl rfl (OpV.mono (v_load T.scal_3 rfl) (fun w hw => by exact sat_cell hw (by (repeat first | with_reducible exact xH | apply xT); first | done | fail) rfl)) (by exact Sat.sub hw (by (repeat (first | with_reducible exact Sub.refl _ | exact Sub.nil _ | (apply Sub.cons; focus ((repeat (first | with_reducible exact Pick.here _ | apply Pick.there)); (first | done | fail))) | with_reducible apply Sub.drop)); first | done | fail)) ?_
                                        refine rs_kg 20 rfl (met_on rfl rfl rfl rfl) (k_callf Try.func17 rfl rfl rfl rfl ?_)
                                        refine Calls.mono (writes_calls p (pwN md2) (hw.xP (A := PwAt p (pwN md2)))) ?_
                                        rintro _ w ⟨rfl, hw⟩
                                        refine ⟨_, rfl, ?_⟩
                                        refine ⟨fun _ => (by exact Sat.sub hw (by (repeat (first | with_reducible exact Sub.refl _ | exact Sub.nil _ | (apply Sub.cons; focus ((repeat (first | with_reducible exact Pick.here _ | apply Pick.there)); (first | done | fail))) | with_reducible apply Sub.drop)); first | done | fail)), ?_⟩
                                        refine rs_kvg 22 rfl (met_on rfl rfl rfl rfl) rfl rfl (S' := fun _ => True) trivial (v_neqF rfl rfl (by rfl)) ?_
                                        refine rs_kv 23 rfl rfl rfl rfl (S' := fun _ => True) trivial (v_pick_false rfl rfl) ?_
                                        refine rs_done (g_le (xK (xK (xK (xK (xK (xK (xK (xK (xK (xK (xK (xK (xK (xK (xK (xK (xK (xK (xK (xK (xK (xK (xK (xK (xK (xK (xK (Fr.le_refl _)))))))))))))))))))))))))))) ?_)
                                        refine g_cond_false rfl ?_
                                        refine g_skip (g_inBlock ?_)
                                        refine g_region ?_
                                        refine xV rfl rfl rfl (v_add rfl rfl (by omega)) ?_
                                        refine xV rfl rfl rfl (v_move rfl) ?_
                                        refine rl_nil (g_le (xK (xK (Fr.le_refl _))) ?_)
                                        exact g_le (by repeat (first | exact Fr.le_nil _ | refine Fr.le_cons rfl ?_)) (ih (i + 1, md2, bf :: bs) w ⟨by simp only; omega, by simp only; omega, by simp only; omega, by simp only; omega, by simp only; omega, hmz2, hw.xQ⟩ (by simp only; omega))
                      · intro joinc6
                        refine g_cond rfl (fun h6 => ?_) (fun h6 => ?_)
                        · try with_reducible exact ft_elim h6
                          all_goals
                            try replace h6 := of_decide_eq_true h6
                            have hz := hw
                            clear hw
                            rcases hwr with ⟨e, he, rfl⟩ | ⟨rfl, his, ha0, ha1, hv1, hby⟩
                            · exact absurd h6 he
                            have hus := put_used (v := x.bytes) his ha0 ha1
                            have hpp : (md.put x.seg x.at_ x.bytes).past = md.past ++ [(x.seg, x.at_, x.bytes)] := rfl
                            have hpn : (((md.put x.seg x.at_ x.bytes).past.length : Nat) : Int) = (md.past.length : Int) + 1 := by rw [hpp]; simp
                            have hps : (md.put x.seg x.at_ x.bytes).size = md.size := rfl
                            dsimp only at hz ⊢
                            have hw := hz
                            generalize md.put x.seg x.at_ x.bytes = md2 at *
                            refine g_seq ?_
                            refine g_region ?_
                            refine rl_v rfl rfl rfl (by exact sat_cell hw (by (repeat first | with_reducible exact xH | apply xT); first | done | fail) rfl) (v_load T.scal_3 rfl) ?_
                            refine xV rfl rfl rfl (v_add rfl rfl (by omega)) ?_
                            refine rl_k rfl (k_store hw T.scal_3 rfl rfl rfl (by (repeat first | with_reducible exact xH | apply xT); first | done | fail) rfl (by simp only [List.set, Int.reduceToNat, Nat.reduceMul, Nat.reduceAdd]; rfl) (fun w hw => ?_))
                            refine rl_nil (g_le (xK (xK (Fr.le_refl _))) ?_)
                            refine g_seq ?_
                            refine g_region ?_
                            refine xV rfl rfl rfl (v_move rfl) ?_
                            refine xV rfl rfl rfl (v_fieldAddr0 T.fld_57_2_2 rfl) ?_
                            refine rl_v rfl rfl rfl (by exact sat_cell hw (by (repeat first | with_reducible exact xH | apply xT); first | done | fail) rfl) (v_load T.scal_9 rfl) ?_
                            refine xV rfl rfl rfl (v_lenStr T.str_9 rfl) ?_
                            refine xV rfl rfl rfl (v_add rfl rfl (by omega)) ?_
                            refine xV rfl rfl rfl (v_assign rfl) ?_
                            refine rl_nil (g_le (xK (xK (xK (xK (xK (xK (Fr.le_refl _))))))) ?_)
                            refine g_seq ?_
                            refine g_drawR ord_f6_r17_M12C (by kernel_rfl) T.mixed hw (fun w hw => ?_)
                            refine rs_a 0 rfl rfl rfl rfl (v_move rfl) ?_
                            refine rs_a 1 rfl rfl rfl rfl (v_fieldAddr0 T.fld_57_0_0 rfl) ?_
                            refine rs_a 4 rfl rfl rfl rfl (v_fieldAddr0 T.fld_57_1_1 rfl) ?_
                            refine rs_a 6 rfl rfl rfl rfl (v_fieldAddr0 T.fld_57_2_2 rfl) ?_
                            refine rs_v 2 rfl rfl rfl rfl (OpV.mono (v_load T.scal_3 rfl) (fun w hw => by exact sat_cell hw (by (repeat first | with_reducible exact xH | apply xT); first | done | fail) rfl)) (by exact hw) ?_
                            refine rs_v 5 rfl rfl rfl rfl (OpV.mono (v_load T.scal_3 rfl) (fun w hw => by exact sat_cell hw (by (repeat first | with_reducible exact xH | apply xT); first | done | fail) rfl)) (by exact hw) ?_
                            refine rs_v 7 rfl rfl rfl rfl (OpV.mono (v_load T.scal_9 rfl) (fun w hw => by exact sat_cell hw (by (repeat first | with_reducible exact xH | apply xT); first | done | fail) rfl)) (by exact hw) ?_
                            refine rs_a 8 rfl rfl rfl rfl (v_lenStr T.str_9 rfl) ?_
                            refine rs_a 9 rfl rfl rfl rfl (v_add rfl rfl (by omega)) ?_
                            refine rs_k 3 rfl rfl (k_callf Try.func26 rfl rfl rfl rfl ?_)
                            refine Calls.mono (mused_calls m p md2 x.seg (hw.xP (A := MdAt m p md2))) ?_
                            rw [hus]
                            rintro _ w ⟨rfl, hw⟩
                            refine ⟨_, rfl, ?_⟩
                            refine ⟨fun _ => (by exact Sat.sub hw (by (repeat (first | with_reducible exact Sub.refl _ | exact Sub.nil _ | (apply Sub.cons; focus ((repeat (first | with_reducible exact Pick.here _ | apply Pick.there)); (first | done | fail))) | with_reducible apply Sub.drop)); first | done | fail)), ?_⟩
                            refine rs_kv 10 rfl rfl rfl rfl (S' := fun _ => True) trivial (v_neqF rfl rfl (by omega)) ?_
                            refine rs_done (g_le (xK (xK (xK (xK (xK (xK (xK (xK (xK (xK (xK (Fr.le_refl _)))))))))))) ?_)
                            refine g_cond_false rfl ?_
                            refine g_skip ?_
                            rw [← hpn] at hw
                            rw [← hby]
                            refine joinc6 md2 _ _ (by repeat (first | exact Fr.le_nil _ | refine Fr.le_cons rfl ?_)) ⟨by omega, by omega, by omega, by omega, fun _ => ?_, hw.xQ⟩
                            rw [hpp, List.length_append, List.length_singleton, Nat.add_sub_cancel, List.getElem?_append_right (by omega), Nat.sub_self]; rfl
                        · try with_reducible exact tf_elim h6
                          all_goals
                            try replace h6 := of_decide_eq_false h6
                            refine g_skip ?_
                            rcases hwr with ⟨e, he, rfl⟩ | ⟨rfl, _⟩
                            · exact joinc6 md _ _ (by repeat (first | exact Fr.le_nil _ | refine Fr.le_cons rfl ?_)) ⟨by omega, by omega, by omega, hmz, fun h => absurd h he, hw.xQ⟩
                            · exact absurd rfl h6
              · try with_reducible exact tf_elim h4
                all_goals
                  try replace h4 := of_decide_eq_false h4
                  refine g_exit rfl (g_seq ?_)
                  refine g_region ?_
                  refine rl_k rfl (k_store hw T.scal_4 rfl rfl rfl (by (repeat first | with_reducible exact xH | apply xT); first | done | fail) rfl (by simp only [List.set, Int.reduceToNat, Nat.reduceMul, Nat.reduceAdd]; rfl) (fun w hw => ?_))
                  refine rl_nil (g_le (Fr.le_refl _) ?_)
                  refine g_retMC (bs := bs) Try.func6 rfl hw (by (repeat first | with_reducible exact xH | apply xT); first | done | fail) rfl (fun w hw => holds_scal T.scal_4 (by exact sat_cell hw (by (repeat first | with_reducible exact xH | apply xT); first | done | fail) rfl)) (fun w hw => ?_)
                  exact ⟨rfl, hw.xQ⟩
      · intro joinr3
        refine g_region ?_
        refine xV rfl rfl rfl (v_move rfl) ?_
        refine xV rfl rfl rfl (v_lss rfl rfl) ?_
        refine xV rfl rfl rfl (v_move rfl) ?_
        refine rl_split (s := 24) rfl (fun g3_2 => ?_) (fun g3_2 => ?_)
        · try with_reducible exact ft_elim g3_2
          all_goals
            try replace g3_2 := of_decide_eq_true g3_2
            refine rl_off (met_off rfl rfl rfl rfl rfl) rfl rfl ?_
            refine rl_off (met_off rfl rfl rfl rfl rfl) rfl rfl ?_
            refine xV rfl rfl rfl (v_pick_true rfl rfl) ?_
            refine rl_nil (g_le (xK (xS rfl (xS rfl (xS rfl (xS rfl (xS rfl (xS rfl (Fr.le_refl _)))))))) ?_)
            refine g_cond_true rfl ?_
            refine g_region ?_
            refine xV rfl rfl rfl (v_assign rfl) ?_
            refine rl_nil (g_le (xK (Fr.le_refl _)) ?_)
            exact joinr3 _ _ _ (by repeat (first | exact Fr.le_nil _ | refine Fr.le_cons rfl ?_)) ⟨by omega, by omega, hw⟩
        · try with_reducible exact tf_elim g3_2
          all_goals
            try replace g3_2 := of_decide_eq_false g3_2
            refine rl_vg (met_on rfl rfl rfl rfl) rfl rfl (S := fun _ => True) trivial (v_move rfl) ?_
            refine rl_vg (met_on rfl rfl rfl rfl) rfl rfl (S := fun _ => True) trivial (v_gtr rfl rfl) ?_
            refine xV rfl rfl rfl (v_pick_false rfl rfl) ?_
            refine rl_nil (g_le (xK (xS rfl (xS rfl (xS rfl (xS rfl (xS rfl (xS rfl (Fr.le_refl _)))))))) ?_)
            refine g_cond rfl (fun h2 => ?_) (fun h2 => ?_)
            · try with_reducible exact ft_elim h2
              all_goals
                try replace h2 := of_decide_eq_true h2
                refine g_region ?_
                refine xV rfl rfl rfl (v_assign rfl) ?_
                refine rl_nil (g_le (xK (Fr.le_refl _)) ?_)
                exact joinr3 _ _ _ (by repeat (first | exact Fr.le_nil _ | refine Fr.le_cons rfl ?_)) ⟨by omega, by omega, hw⟩
            · try with_reducible exact tf_elim h2
              all_goals
                try replace h2 := of_decide_eq_false h2
                refine g_skip ?_
                exact joinr3 _ _ _ (by repeat (first | exact Fr.le_nil _ | refine Fr.le_cons rfl ?_)) ⟨by omega, by omega, hw⟩
  · intro joinr1
    refine g_region ?_
    refine xV rfl rfl rfl (v_move rfl) ?_
    refine xV rfl rfl rfl (v_lss rfl rfl) ?_
    refine xV rfl rfl rfl (v_move rfl) ?_
    refine rl_split (s := 18) rfl (fun g1_2 => ?_) (fun g1_2 => ?_)
    · try with_reducible exact ft_elim g1_2
      all_goals
        try replace g1_2 := of_decide_eq_true g1_2
        refine rl_off (met_off rfl rfl rfl rfl rfl) rfl rfl ?_
        refine rl_off (met_off rfl rfl rfl rfl rfl) rfl rfl ?_
        refine xV rfl rfl rfl (v_pick_true rfl rfl) ?_
        refine rl_nil (g_le (xK (xS rfl (xS rfl (xS rfl (xS rfl (xS rfl (xS rfl (Fr.le_refl _)))))))) ?_)
        refine g_cond_true rfl ?_
        refine g_region ?_
        refine xV rfl rfl rfl (v_assign rfl) ?_
        refine rl_nil (g_le (xK (Fr.le_refl _)) ?_)
        exact joinr1 _ _ _ (by repeat (first | exact Fr.le_nil _ | refine Fr.le_cons rfl ?_)) ⟨by omega, by omega, hw⟩
    · try with_reducible exact tf_elim g1_2
      all_goals
        try replace g1_2 := of_decide_eq_false g1_2
        refine rl_vg (met_on rfl rfl rfl rfl) rfl rfl (S := fun _ => True) trivial (v_move rfl) ?_
        refine rl_vg (met_on rfl rfl rfl rfl) rfl rfl (S := fun _ => True) trivial (v_gtr rfl rfl) ?_
        refine xV rfl rfl rfl (v_pick_false rfl rfl) ?_
        refine rl_nil (g_le (xK (xS rfl (xS rfl (xS rfl (xS rfl (xS rfl (xS rfl (Fr.le_refl _)))))))) ?_)
        refine g_cond rfl (fun h1 => ?_) (fun h1 => ?_)
        · try with_reducible exact ft_elim h1
          all_goals
            try replace h1 := of_decide_eq_true h1
            refine g_region ?_
            refine xV rfl rfl rfl (v_assign rfl) ?_
            refine rl_nil (g_le (xK (Fr.le_refl _)) ?_)
            exact joinr1 _ _ _ (by repeat (first | exact Fr.le_nil _ | refine Fr.le_cons rfl ?_)) ⟨by omega, by omega, hw⟩
        · try with_reducible exact tf_elim h1
          all_goals
            try replace h1 := of_decide_eq_false h1
            refine g_skip ?_
            exact joinr1 _ _ _ (by repeat (first | exact Fr.le_nil _ | refine Fr.le_cons rfl ?_)) ⟨by omega, by omega, hw⟩

set_option maxRecDepth 100000 in
theorem MediumCounts_lifted (os : Os) (started : os.Started) (H : Type) (enc : TypeId × Value → H) :
    ReturnsInHanded {} Try.checked os 6 .any (Rows.mediumCountsSpec.pre6 enc Try.prog Try.f6 Rows.mediumCountsRow.domain false) (Rows.mediumCountsSpec.post enc Try.prog Try.f6 false true false false) := by
  refine returnsInHanded_of_change_sized (C := Try.checked) T.own started (by kernel_rfl) Try.func6
    (ChangeSpec.witness6 (enc := enc) (C := Try.checked) false ⟨#[], #[(.int .i64 0), (.int .i64 0), (.slice none 0 0)], []⟩ 8 (by kernel_rfl) (by kernel_rfl) (by kernel_rfl) (by kernel_rfl)) ?_
  intro W base args ds gs before hval0 hW hcnd hsz0 _
  have hval : ∀ (j : Nat) t v, Try.f6.params[j]? = some t → args[j]? = some v → Value.okWide Try.prog W .any base t v := hval0
  have hW' := hW
  obtain ⟨p, q, hA0, hV, rfl, hfz, hnd⟩ := hW
  have hA : DataW.TrodAll enc Try.prog W 0 (fun _ => true) true Try.f6.params.toList args.toList ds p := hA0
  obtain ⟨rfl, rfl⟩ := trodVars_none hV
  have hsz : (DataW.weightsEach Try.prog (Try.f6.params.toList ++ []) (ds ++ [])).all (· ≤ reachBytes) = true := hsz0
  rw [List.append_nil, List.append_nil] at hsz
  rw [Try.params6] at hA hval hsz
  obtain ⟨v0, vs0, d0, ds0, p0, q0, hargs, rfl, rfl, h0, r0⟩ := trodAll_cons hA
  obtain ⟨v1, vs1, d1, ds1, p1, q1, rfl, rfl, rfl, h1, r1⟩ := trodAll_cons r0
  obtain ⟨v2, vs2, d2, ds2, p2, q2, rfl, rfl, rfl, h2, r2⟩ := trodAll_cons r1
  obtain ⟨rfl, rfl, rfl⟩ := trodAll_nil r2
  obtain rfl : args = #[v0, v1, v2] := by cases args; simp_all
  have lt0 : ∀ x ∈ p0, x.block < W.heap.size := by obtain ⟨m, hm⟩ := h0; exact DataW.trod_lt m _ _ _ hm
  obtain ⟨x0, w0⟩ := arg_of (j := 0) (reads_int T.int_3_i64) h0 hsz rfl rfl
  have lt1 : ∀ x ∈ p1, x.block < W.heap.size := by obtain ⟨m, hm⟩ := h1; exact DataW.trod_lt m _ _ _ hm
  obtain ⟨x1, w1⟩ := arg_of (j := 1) (reads_int T.int_3_i64) h1 hsz rfl rfl
  have lt2 : ∀ x ∈ p2, x.block < W.heap.size := by obtain ⟨m, hm⟩ := h2; exact DataW.trod_lt m _ _ _ hm
  obtain ⟨x2, w2⟩ := arg_of (j := 2) (reads_sl T.sl_46_57_3 T.bytes_57_32 (by decide) reads_Raw) h2 hsz rfl rfl
  obtain ⟨n0, rfl⟩ := okWide_int Try.underlying3 (hval 0 3 v0 rfl rfl)
  obtain ⟨n1, rfl⟩ := okWide_int Try.underlying3 (hval 1 3 v1 rfl rfl)
  obtain ⟨a2, l2, c2, rfl⟩ := okWide_slice Try.underlying46 (hval 2 46 v2 rfl rfl)
  obtain ⟨hc0, hr0⟩ := w0
  cases hc0
  obtain ⟨hc1, hr1⟩ := w1
  cases hc1
  refine (MediumCounts_law hr0 hr1 w2).mono fun e W' ⟨he, hb⟩ => ?_
  have bel := hb.below
  subst he
  exact ⟨_, rfl, _, _, _, [], _, [], hW', trodAll_mk1 (shut_bool Try.underlying4 _), (trodAll_cons_mk (Below.trod T.laidOut (by kernel_rfl) (of_decide_eq_true (by kernel_rfl)) h0 bel lt0) (trodAll_cons_mk (Below.trod T.laidOut (by kernel_rfl) (of_decide_eq_true (by kernel_rfl)) h1 bel lt1) (trodAll_cons_mk (Below.trod T.laidOut (by kernel_rfl) (of_decide_eq_true (by kernel_rfl)) h2 bel lt2) trodAll_mk0))), rfl, bel.frame _, fun h => by cases h⟩
theorem MediumCounts_holds : Rows.MediumCountsSaid :=
  OpenClaim.holds_of_wide 6 Try.f6 rfl rfl rfl rfl rfl rfl rfl ⟨rfl, rfl, rfl, rfl, rfl⟩ rfl rfl rfl rfl rfl (by kernel_rfl) Try.func6 (by kernel_rfl)
    (of_decide_eq_true (by kernel_rfl)) (by unfold Func.isWrapper; rw [if_neg (of_decide_eq_false (by kernel_rfl))]; exact ⟨rfl, rfl⟩)
    (fun os started H enc _ => MediumCounts_lifted os started H enc)
#print axioms MediumCounts_holds
end Go.Proofs.Ytdebodbkggbjeaa
