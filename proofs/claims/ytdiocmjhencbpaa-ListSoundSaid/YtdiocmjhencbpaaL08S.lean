/-
  ListSound: a tree that was made of secrets that may be is as it must be.
-/
import Derived.Test.YtdiocmjhencbpaaL17
import Derived.Test.YtdiocmjhencbpaaL14
import Derived.Test.YtdiocmjhencbpaaRows
namespace Go.Proofs.Ytdiocmjhencbpaa
set_option maxRecDepth 8000
set_option linter.unusedSimpArgs false
set_option linter.unusedVariables false
open Go Xe Go.Lib Go.RowKit Go.ChangeShapes Go.WideShapes Go.ChangeAt
structure Quota where
  secrets : Int
  name : Int
  value : Int
  note : Int
  versions : Int
  batch : Int
  cache : Int
instance : DecidableEq Quota := fun a b => decidable_of_iff (a.secrets = b.secrets ∧ a.name = b.name ∧ a.value = b.value ∧ a.note = b.note ∧ a.versions = b.versions ∧ a.batch = b.batch ∧ a.cache = b.cache) (by cases a; cases b; simp)
@[reducible] def Quota.cells (x : Quota) : List Value := [.int .i64 x.secrets, .int .i64 x.name, .int .i64 x.value, .int .i64 x.note, .int .i64 x.versions, .int .i64 x.batch, .int .i64 x.cache]
def Quota.ok (x : Quota) : Prop := (Lit.int .i64 x.secrets).wf = true ∧ (Lit.int .i64 x.name).wf = true ∧ (Lit.int .i64 x.value).wf = true ∧ (Lit.int .i64 x.note).wf = true ∧ (Lit.int .i64 x.versions).wf = true ∧ (Lit.int .i64 x.batch).wf = true ∧ (Lit.int .i64 x.cache).wf = true
def rdQuota : Rd Quota := fun _ cs x => cs = x.cells ∧ x.ok
theorem mono_Quota : Rd.Mono rdQuota := fun _ _ _ h => h
theorem one_Quota : Rd.One rdQuota := fun h => by rw [h.1]; simp [Value.oneCell']
theorem eq_Quota (x y : Quota) : cellsEq x.cells y.cells = some (decide (x = y)) := by
  simp only [cellsEq, cellEq, if_true, Bool.and_true, Option.some.injEq]
  by_cases h : x = y
  · subst h; simp
  · rw [decide_eq_false h]
    refine Bool.eq_false_iff.2 fun h2 => h ?_
    simp only [Bool.and_eq_true, decide_eq_true_eq, beq_iff_eq] at h2
    obtain ⟨_, _, _, _, _, _, _⟩ := x
    obtain ⟨_, _, _, _, _, _, _⟩ := y
    simp_all
theorem reads_Quota {H : Type} {enc : TypeId × Value → H} : Reads enc Try.prog 23 rdQuota := fun w fuel cs d ps h hz => by
  have hl := reads_length T.agg_23_7 (by kernel_rfl) h hz
  obtain ⟨c0, c1, c2, c3, c4, c5, c6, rfl⟩ : ∃ c0 c1 c2 c3 c4 c5 c6, cs = [c0, c1, c2, c3, c4, c5, c6] := by
    match cs, hl with
    | [c0, c1, c2, c3, c4, c5, c6], _ => exact ⟨_, _, _, _, _, _, _, rfl⟩
  obtain ⟨x0, h0⟩ := reads_field (i := 0) (off := 0) (k := 1) (ft := 3) (by kernel_rfl) h hz (reads_int T.int_3_i64)
  obtain ⟨x1, h1⟩ := reads_field (i := 1) (off := 1) (k := 1) (ft := 3) (by kernel_rfl) h hz (reads_int T.int_3_i64)
  obtain ⟨x2, h2⟩ := reads_field (i := 2) (off := 2) (k := 1) (ft := 3) (by kernel_rfl) h hz (reads_int T.int_3_i64)
  obtain ⟨x3, h3⟩ := reads_field (i := 3) (off := 3) (k := 1) (ft := 3) (by kernel_rfl) h hz (reads_int T.int_3_i64)
  obtain ⟨x4, h4⟩ := reads_field (i := 4) (off := 4) (k := 1) (ft := 3) (by kernel_rfl) h hz (reads_int T.int_3_i64)
  obtain ⟨x5, h5⟩ := reads_field (i := 5) (off := 5) (k := 1) (ft := 3) (by kernel_rfl) h hz (reads_int T.int_3_i64)
  obtain ⟨x6, h6⟩ := reads_field (i := 6) (off := 6) (k := 1) (ft := 3) (by kernel_rfl) h hz (reads_int T.int_3_i64)
  obtain ⟨e0, k0⟩ := h0
  obtain ⟨e1, k1⟩ := h1
  obtain ⟨e2, k2⟩ := h2
  obtain ⟨e3, k3⟩ := h3
  obtain ⟨e4, k4⟩ := h4
  obtain ⟨e5, k5⟩ := h5
  obtain ⟨e6, k6⟩ := h6
  simp only [List.drop_zero, List.drop_succ_cons, List.take_succ_cons, List.take_zero, List.cons.injEq, and_true] at e0 e1 e2 e3 e4 e5 e6
  obtain rfl := e0
  obtain rfl := e1
  obtain rfl := e2
  obtain rfl := e3
  obtain rfl := e4
  obtain rfl := e5
  obtain rfl := e6
  exact ⟨⟨x0, x1, x2, x3, x4, x5, x6⟩, rfl, k0, k1, k2, k3, k4, k5, k6⟩
theorem qt_of {w : World} {cs : Array Value} {x : Quota} (hr : rdArg rdQuota w (.agg cs) x) : ∃ q : Qt, cs = q.cells.toArray :=
  ⟨⟨x.secrets, x.name, x.value, x.note, x.versions, x.batch, x.cache⟩, by apply Array.ext'; exact hr.1⟩
theorem lshape2_calls {E : Env} {w : World} {L : List As} {g : Hp} {h : Nat} {s : List Nd} {A : As} {root : Rf} {hh : Nat} {u : Un hh} (t : TreeAt s root hh u) (h8 : hh < 7) (hr : root.ok) (hI : HeapI h g s A) (q : Qt) (hs : s.length ≤ 1000) (hrt : ∀ e ∈ entsU hh u, rightE q e = 0) (hsec : q.ok → ((entsU hh u).length : Int) ≤ q.s) (hw : Sat E w (A :: RO g :: L)) :
    Calls Try.prog 15 #[q.v, .iface 27 (.pointer (some ⟨h, 0, none⟩)), .agg root.cells.toArray] w fun v w' => ∃ g' A' l p n b e, g.le g' ∧ v = .returned (.tuple #[.agg #[.int .i64 l, .int .i64 p, .int .i64 n, .int .i64 b], .int .i64 e]) ∧
      (q.ok → 1 ≤ l ∧ l ≤ q.levels ∧ 1 ≤ p ∧ p ≤ q.livePages ∧ n = (entsU hh u).length ∧ b = p ∧ e = 0) ∧ (¬ q.ok → l = 0 ∧ p = 0 ∧ n = 0 ∧ b = 0 ∧ e = 40) ∧ Sat E w' (A' :: RO g' :: L) := by
  by_cases hq : q.ok
  · refine Calls.mono (lshape_calls t h8 hr hI q hq hs hrt (hsec hq) hw) ?_
    rintro v w' ⟨g', A', hg, _, rfl, hw⟩
    have hsec := hsec hq
    have hq0 : q.s ≤ 64 := hq.1.2
    have h2 := Qt.leaves_bounds hq
    have hlv : (hh : Int) + 1 ≤ q.levels := by
      have h1 := ents_many hh u t.ok
      unfold Qt.levels
      rw [if_pos hq]
      refine lev_many (n := (entsU hh u).length) h8 (t.two.imp id fun h2 => ?_) (by omega) (by unfold Qt.leaves; omega) h2.1 h2.2
      exact Nat.le_trans (Nat.mul_le_mul_right _ h2) h1
    have hpg : ((seenU hh 1 root u).length : Int) ≤ q.livePages := by
      rw [seen_len]
      unfold Qt.livePages
      rw [if_pos hq]
      rcases t.two with h0 | h0
      · subst h0
        show ((0 + 1 : Nat) : Int) ≤ _
        omega
      · have h3 := pages_half hh u t.ok h0
        unfold Qt.leaves
        omega
    have hp1 : 1 ≤ (seenU hh 1 root u).length := by rw [seen_len]; omega
    exact ⟨g', A', _, _, _, _, _, hg, rfl, fun _ => ⟨by omega, hlv, by omega, hpg, rfl, rfl, rfl⟩, fun h => absurd hq h, hw⟩
  · refine Calls.mono (shapeBad_calls (heapPg h) (s := s) q root hr hI (fun h => absurd h hq) hw) ?_
    rintro v w' ⟨g', A', s', hg, _, _, _, rfl, hw⟩
    rw [if_neg hq]
    exact ⟨g', A', _, _, _, _, _, hg, rfl, fun h => absurd h hq, fun _ => ⟨rfl, rfl, rfl, rfl, rfl⟩, hw⟩
theorem ord_f8_r14_L08S : orderOfB Try.f8 14 [] (.k 0 (.k 1 (.k 2 (.a 3 (.a 5 (.a 6 (.k 4 (.k 7 (.k 8 (.k 9 (.k 10 (.k 11 (.k 12 (.k 13 (.k 14 (.a 15 (.v 16 (.k 17 (.k 18 (.k 19 (.k 20 (.k 21 (.k 22 (.k 23 (.k 24 (.k 25 (.k 26 (.a 27 (.v 28 (.k 29 (.k 30 (.k 31 (.k 32 (.k 33 (.a 34 (.a 36 (.v 35 (.k 37 (.k 38 (.k 39 (.k 40 .done))))))))))))))))))))))))))))))))))))))))) = true := by kernel_rfl
set_option maxHeartbeats 4000000 in
theorem ListSound_law {w : World} {qcs : Array Value} {xq : Quota} {a : Option Addr} {len cap : Nat} {xs : List En} (hq : rdArg rdQuota w (.agg qcs) xq) (hr : rdArg (rdSl 40 2 rdEn) w (.slice a len cap) xs) :
    Law Try.prog 8 [.agg qcs, .slice a len cap] w := by
  unfold Law
  have hw := Sat.old w
  obtain ⟨q, rfl⟩ := qt_of hq
  clear hq
  generalize w = W at hr hw ⊢
  have hr : (rdSl 40 2 rdEn) (hpOf W) [.slice a len cap] xs := hr
  obtain ⟨rfl, hnb, _, _, gx⟩ := rdSl_get hr
  simp only [reachBytes] at hnb
  have hrq := right_iff q
  refine calls_of_g (n := 101) Try.func8 rfl rfl rfl ?_
  change G _ _ _ _ _ [(0, _), (1, _)] _
  refine g_seq ?_
  refine g_region ?_
  refine rl_k rfl (k_box hw rfl rfl rfl (fun bk0_0 w hw => ?_))
  refine xV rfl rfl rfl (v_assign rfl) ?_
  refine rl_nil (g_le (xK (xK (Fr.le_refl _))) ?_)
  refine g_seq ?_
  refine g_region ?_
  refine xV rfl rfl rfl (v_assign rfl) ?_
  refine rl_nil (g_le (xK (Fr.le_refl _)) ?_)
  refine g_seq (g_seq ?_)
  refine g_region ?_
  refine xV rfl rfl rfl (v_move rfl) ?_
  refine xV rfl rfl rfl (v_lenSlice T.sl_33_40_2 rfl) ?_
  refine xV rfl rfl rfl (v_move rfl) ?_
  refine rl_nil (g_le (xK (xK (xK (Fr.le_refl _)))) ?_)
  refine g_block ?_
  refine g_loopC (σ := Nat × Value × List Value × List En) (fun C x => (15, .int .i64 (x.1 : Nat)) :: (5, x.2.1) :: C) [(2, _), (4, _), (13, _), (14, _)] (by repeat (first | exact Fr.le_nil _ | refine Fr.le_cons rfl ?_)) (fun z w => z.1 ≤ xs.length ∧ z.2.2.2.length ≤ z.1 ∧ (∀ e ∈ z.2.2.2, rightE q e = 0) ∧ (0 < z.2.2.2.length → (z.2.2.2.length : Int) ≤ q.s) ∧ Els rdEn 2 (hpOf W) z.2.2.1 z.2.2.2 ∧ Sat (envOf W) w (OwnSl 40 2 z.2.1 z.2.2.2.length z.2.2.1 :: QtAt bk0_0 q :: RO (hpOf W) :: [])) (fun z => xs.length - z.1) ?_ (0, .slice none 0 0, [], []) (by repeat (first | exact Fr.le_nil _ | refine Fr.le_cons rfl ?_)) ⟨by simp, by simp, by simp, by simp, Els.nil, (hw.xQ : Sat (envOf W) w (QtAt bk0_0 q :: RO (hpOf W) :: [])).own_nil 40 2⟩
  rintro ⟨k, ov, ocs, own⟩ w ⟨hk1, hol, hown, hos, hels, hw⟩ ih
  dsimp only at hk1 hol hown hos hels hw ih ⊢
  refine g_seq ?_
  refine g_region ?_
  refine xV rfl rfl rfl (v_lss rfl rfl) ?_
  refine rl_nil (g_le (xK (Fr.le_refl _)) ?_)
  refine g_seq ?_
  refine g_cond rfl (fun h1 => ?_) (fun h1 => ?_)
  · try with_reducible exact ft_elim h1
    all_goals
      try replace h1 := of_decide_eq_true h1
      refine g_skip (g_seq (g_block (g_seq ?_)))
      have hz := hw
      clear hw
      obtain ⟨b6, o6, e, ecs, rfl, he, hat6, hl6, hrde⟩ := gx (k : Nat) (by omega) (by omega)
      rw [Int.toNat_natCast] at he hat6
      obtain ⟨va, vn, vc, rfl, hrde⟩ := en_told hrde
      obtain ⟨oa, oc, rfl, _, _, _⟩ := hz.own_shape
      have hlen := hels.len
      have hone := hels.ones one_En
      have hw := hz
      refine g_region ?_
      refine xV rfl rfl rfl (v_indexAddr T.sl_33_40_2 rfl rfl (by omega) (by omega)) ?_
      refine rl_v rfl rfl rfl (by exact ro_ats hw (by (repeat first | with_reducible exact xH | apply xT); first | done | fail) (by assumption)) (v_loadAgg (vs := [_, _]) T.agg_40_2 rfl rfl) ?_
      refine rl_k rfl (k_alloc hw T.zero_40 rfl rfl (fun bk4_2 w hw => ?_))
      refine rl_k rfl (k_storeWhole hw T.agg_40_2 rfl rfl (by simp [Value.oneCell']) rfl (by (repeat first | with_reducible exact xH | apply xT); first | done | fail) rfl (fun w hw => ?_))
      refine rl_nil (g_le (xK (xK (xK (Fr.le_refl _)))) ?_)
      refine g_seq ?_
      refine g_region ?_
      refine rl_v rfl rfl rfl (by exact sat_cells hw (by (repeat first | with_reducible exact xH | apply xT); first | done | fail) ⟨rfl, rfl, rfl, rfl, rfl, rfl, rfl, trivial⟩) (v_loadAgg (vs := [_, _, _, _, _, _, _]) T.agg_23_7 rfl rfl) ?_
      refine rl_v rfl rfl rfl (by exact sat_cells hw (by (repeat first | with_reducible exact xH | apply xT); first | done | fail) ⟨rfl, rfl, trivial⟩) (v_loadAgg (vs := [_, _]) T.agg_40_2 rfl rfl) ?_
      refine rl_k rfl (k_callf Try.func26 rfl rfl rfl rfl ?_)
      refine Calls.mono (rrightE_calls q hrde (hw.xQ)) ?_
      rintro _ w ⟨rfl, hw⟩
      refine ⟨_, rfl, ?_⟩
      refine xV rfl rfl rfl (v_eql rfl rfl) ?_
      refine xV rfl rfl rfl (v_move rfl) ?_
      refine rl_split (s := 23) rfl (fun g5_4 => ?_) (fun g5_4 => ?_)
      · try with_reducible exact ft_elim g5_4
        all_goals
          try replace g5_4 := of_decide_eq_true g5_4
          refine rl_vg (met_on rfl rfl rfl rfl) rfl rfl (S := fun _ => True) trivial (v_move rfl) ?_
          refine rl_vg (met_on rfl rfl rfl rfl) rfl rfl (S := fun _ => True) trivial (v_lenSlice T.sl_33_40_2 rfl) ?_
          refine rl_vg (met_on rfl rfl rfl rfl) rfl rfl (S := fun _ => True) trivial (v_fieldAddr0 T.fld_23_0_0 rfl) ?_
          refine rl_vg (met_on rfl rfl rfl rfl) rfl rfl (by exact sat_cell hw (by (repeat first | with_reducible exact xH | apply xT); first | done | fail) rfl) (v_load T.scal_3 rfl) ?_
          refine rl_vg (met_on rfl rfl rfl rfl) rfl rfl (S := fun _ => True) trivial (v_lss rfl rfl) ?_
          refine xV rfl rfl rfl (v_pick_true rfl rfl) ?_
          refine rl_nil (g_le (xK (xK (xK (xK (xK (xK (xK (xK (xK (xK (xK (xK (Fr.le_refl _))))))))))))) ?_)
          refine g_cond rfl (fun h2 => ?_) (fun h2 => ?_)
          · try with_reducible exact ft_elim h2
            all_goals
              try replace h2 := of_decide_eq_true h2
              refine g_region ?_
              refine xV rfl rfl rfl (v_move rfl) ?_
              refine rl_v rfl rfl rfl (by exact sat_cells hw (by (repeat first | with_reducible exact xH | apply xT); first | done | fail) ⟨rfl, rfl, trivial⟩) (v_loadAgg (vs := [_, _]) T.agg_40_2 rfl rfl) ?_
              refine rl_k rfl (k_buildSlice (cells := [_, _]) hw T.sl_33_40_2 T.zero_40 rfl rfl rfl rfl rfl rfl (fun bk6_2 w hw => ?_))
              refine rl_k rfl (k_append (news := [_, _]) hw T.sl_33_40_2 T.zero_40 T.bytes_40_40 rfl (by decide) rfl rfl (by (repeat first | with_reducible exact xH | apply xT); first | done | fail) rfl (by exact sat_cells hw (by (repeat first | with_reducible exact xH | apply xT); first | done | fail) ⟨rfl, rfl, trivial⟩) (by simp [Value.oneCell']) (by omega) (by simp only [maxLen]; omega) rfl (fun vv6_3 w hw hnil => ?_))
              refine xV rfl rfl rfl (v_assign rfl) ?_
              refine rl_nil (g_le (xK (xK (xK (xK (xK (Fr.le_refl _)))))) ?_)
              refine g_inBlock ?_
              refine g_region ?_
              refine xV rfl rfl rfl (v_add rfl rfl (by omega)) ?_
              refine xV rfl rfl rfl (v_move rfl) ?_
              refine rl_nil (g_le (xK (xK (Fr.le_refl _))) ?_)
              exact g_le (by repeat (first | exact Fr.le_nil _ | refine Fr.le_cons rfl ?_)) (ih (k + 1, vv6_3, _, own ++ [e]) w ⟨by simp only; omega, by simp; omega, fun x hx => (List.mem_append.1 hx).elim (hown x) (fun h => by rw [List.mem_singleton.1 h]; omega), fun _ => by simp only [List.length_append, List.length_singleton]; omega, hels.snoc rfl hrde, by dsimp only; rw [List.length_append, List.length_singleton]; exact hw.xQ⟩ (by simp only; omega))
          · try with_reducible exact tf_elim h2
            all_goals
              try replace h2 := of_decide_eq_false h2
              refine g_skip (g_inBlock ?_)
              refine g_region ?_
              refine xV rfl rfl rfl (v_add rfl rfl (by omega)) ?_
              refine xV rfl rfl rfl (v_move rfl) ?_
              refine rl_nil (g_le (xK (xK (Fr.le_refl _))) ?_)
              exact g_le (by repeat (first | exact Fr.le_nil _ | refine Fr.le_cons rfl ?_)) (ih (k + 1, _, ocs, own) w ⟨by simp only; omega, by simp only; omega, hown, hos, hels, hw.xQ⟩ (by simp only; omega))
      · try with_reducible exact tf_elim g5_4
        all_goals
          try replace g5_4 := of_decide_eq_false g5_4
          refine rl_off (met_off rfl rfl rfl rfl rfl) rfl rfl ?_
          refine rl_off (met_off rfl rfl rfl rfl rfl) rfl rfl ?_
          refine rl_off (met_off rfl rfl rfl rfl rfl) rfl rfl ?_
          refine rl_off (met_off rfl rfl rfl rfl rfl) rfl rfl ?_
          refine rl_off (met_off rfl rfl rfl rfl rfl) rfl rfl ?_
          refine xV rfl rfl rfl (v_pick_false rfl rfl) ?_
          refine rl_nil (g_le (xK (xK (xK (xK (xK (xK (xK (xK (xK (xK (xK (xK (Fr.le_refl _))))))))))))) ?_)
          refine g_cond_false rfl ?_
          refine g_skip (g_inBlock ?_)
          refine g_region ?_
          refine xV rfl rfl rfl (v_add rfl rfl (by omega)) ?_
          refine xV rfl rfl rfl (v_move rfl) ?_
          refine rl_nil (g_le (xK (xK (Fr.le_refl _))) ?_)
          exact g_le (by repeat (first | exact Fr.le_nil _ | refine Fr.le_cons rfl ?_)) (ih (k + 1, _, ocs, own) w ⟨by simp only; omega, by simp only; omega, hown, hos, hels, hw.xQ⟩ (by simp only; omega))
  · try with_reducible exact tf_elim h1
    all_goals
      try replace h1 := of_decide_eq_false h1
      refine g_exit rfl (g_seq ?_)
      obtain ⟨oa, oc, rfl, hoc, _, _⟩ := hw.own_shape
      obtain ⟨g2, hg2, hres, hw⟩ := (hw.xQ : Sat (envOf W) w (RO (hpOf W) :: OwnSl 40 2 (.slice oa own.length oc) own.length ocs :: QtAt bk0_0 q :: [])).freeze_sl (bytes := 40) mono_En hels rfl (by simp only [reachBytes]; omega)
      refine g_region ?_
      refine xV rfl rfl rfl (v_move rfl) ?_
      refine rl_k rfl (k_callf Try.func17 rfl rfl rfl rfl ?_)
      refine Calls.mono (grown_calls hres (hw.xQ)) ?_
      rintro _ w ⟨g3, h, A3, st, root, hh, u, la, ln, lc, hg3, hI3, hok, ht, hent, hel, h7, hs, rfl, hall, hw⟩
      refine ⟨_, rfl, ?_⟩
      refine xV rfl rfl rfl (v_move rfl) ?_
      refine xV rfl rfl rfl (v_extract rfl rfl) ?_
      refine xV rfl rfl rfl (v_extract rfl rfl) ?_
      refine xV rfl rfl rfl (v_extract rfl rfl) ?_
      refine rl_k rfl (k_alloc hw T.zero_26 rfl rfl (fun bk8_6 w hw => ?_))
      refine xV rfl rfl rfl (v_assign rfl) ?_
      refine rl_k rfl (k_storeWhole hw T.agg_26_4 rfl rfl (by simp [Value.oneCell']) rfl (by (repeat first | with_reducible exact xH | apply xT); first | done | fail) rfl (fun w hw => ?_))
      refine xV rfl rfl rfl (v_assign rfl) ?_
      refine rl_nil (g_le (xK (xK (xK (xS rfl (xS rfl (xS rfl (xS rfl (xS rfl (xS rfl (Fr.le_refl _)))))))))) ?_)
      refine g_seq (g_seq ?_)
      refine g_region ?_
      refine xV rfl rfl rfl (v_move rfl) ?_
      refine xV rfl rfl rfl (v_eqlNil T.ptr_27 rfl rfl) ?_
      refine rl_nil (g_le (xK (xS rfl (Fr.le_refl _))) ?_)
      refine g_cond_false rfl ?_
      refine g_skip (g_seq ?_)
      have hrt : ∀ e ∈ entsU hh u, rightE q e = 0 := fun e he => by rw [hent] at he; exact hown e (List.mem_of_mem_take (growE_mem he))
      have hsec : q.ok → ((entsU hh u).length : Int) ≤ q.s := by
        intro hqo
        have h1 := growE_len (own.take 50)
        rw [← hent, List.length_take] at h1
        have h2 : 1 ≤ q.s := hqo.1.1
        rcases Nat.eq_zero_or_pos own.length with h0 | h0
        · omega
        · have := hos h0; omega
      obtain ⟨hln, _⟩ := rdSl_get hall
      refine g_region ?_
      refine rl_v rfl rfl rfl (by exact sat_cells hw (by (repeat first | with_reducible exact xH | apply xT); first | done | fail) ⟨rfl, rfl, rfl, rfl, rfl, rfl, rfl, trivial⟩) (v_loadAgg (vs := [_, _, _, _, _, _, _]) T.agg_23_7 rfl rfl) ?_
      refine xV rfl rfl rfl (v_move rfl) ?_
      refine xV rfl rfl rfl (v_mkIface T.ptr_27 rfl) ?_
      refine rl_v rfl rfl rfl (by exact sat_cells hw (by (repeat first | with_reducible exact xH | apply xT); first | done | fail) ⟨rfl, rfl, rfl, rfl, trivial⟩) (v_loadAgg (vs := [_, _, _, _]) T.agg_26_4 rfl rfl) ?_
      refine rl_k rfl (k_callf Try.func15 rfl rfl rfl rfl ?_)
      refine Calls.mono (lshape2_calls ht h7 hok hI3 q hs hrt hsec (hw.xQ)) ?_
      rintro _ w ⟨g4, A4, lv, pg, se, by_, e4, hg4, rfl, hyes, hno, hw⟩
      refine ⟨_, rfl, ?_⟩
      refine xV rfl rfl rfl (v_move rfl) ?_
      refine xV rfl rfl rfl (v_extract rfl rfl) ?_
      refine xV rfl rfl rfl (v_extract rfl rfl) ?_
      refine rl_k rfl (k_alloc hw T.zero_45 rfl rfl (fun bk11_8 w hw => ?_))
      refine rl_k rfl (k_storeWhole hw T.agg_45_4 rfl rfl (by simp [Value.oneCell']) rfl (by (repeat first | with_reducible exact xH | apply xT); first | done | fail) rfl (fun w hw => ?_))
      refine xV rfl rfl rfl (v_assign rfl) ?_
      refine rl_nil (g_le (xK (xK (xS rfl (xS rfl (xS rfl (xS rfl (xS rfl (xS rfl (xS rfl (xS rfl (Fr.le_refl _))))))))))) ?_)
      refine g_seq (g_seq ?_)
      refine g_region ?_
      refine rl_v rfl rfl rfl (by exact sat_cells hw (by (repeat first | with_reducible exact xH | apply xT); first | done | fail) ⟨rfl, rfl, rfl, rfl, rfl, rfl, rfl, trivial⟩) (v_loadAgg (vs := [_, _, _, _, _, _, _]) T.agg_23_7 rfl rfl) ?_
      refine rl_k rfl (k_callf Try.func16 rfl rfl rfl rfl ?_)
      refine Calls.mono (right_calls q (hw.xQ)) ?_
      rintro _ w ⟨rfl, hw⟩
      refine ⟨_, rfl, ?_⟩
      refine xV rfl rfl rfl (v_neq rfl rfl) ?_
      refine rl_nil (g_le (xK (xS rfl (xS rfl (Fr.le_refl _)))) ?_)
      refine g_cond rfl (fun h4 => ?_) (fun h4 => ?_)
      · try with_reducible exact ft_elim h4
        all_goals
          try replace h4 := of_decide_eq_true h4
          have hz := hw
          clear hw
          obtain ⟨rfl, rfl, rfl, rfl, rfl⟩ := hno (hrq.1 h4)
          have hw := hz
          refine g_seq ?_
          refine g_region ?_
          refine xV rfl rfl rfl (v_move rfl) ?_
          refine xV rfl rfl rfl (v_eqlT rfl rfl (by omega)) ?_
          refine xV rfl rfl rfl (v_move rfl) ?_
          refine rl_split (s := 56) rfl (fun g13_2 => ?_) (fun g13_2 => ?_)
          · try with_reducible exact ft_elim g13_2
            all_goals
              try replace g13_2 := of_decide_eq_true g13_2
              refine rl_vg (met_on rfl rfl rfl rfl) rfl rfl (by exact sat_cells hw (by (repeat first | with_reducible exact xH | apply xT); first | done | fail) ⟨rfl, rfl, rfl, rfl, trivial⟩) (v_loadAgg (vs := [_, _, _, _]) T.agg_45_4 rfl rfl) ?_
              refine rl_vg (met_on rfl rfl rfl rfl) rfl rfl (S := fun _ => True) trivial (v_build rfl (T.build_45 ..)) ?_
              refine rl_vg (met_on rfl rfl rfl rfl) rfl rfl (S := fun _ => True) trivial (v_eqlAgg T.cmp_45_iiii rfl rfl rfl rfl (by first | rfl)) ?_
              refine xV rfl rfl rfl (v_pick_true rfl rfl) ?_
              refine xV rfl rfl rfl (v_assign rfl) ?_
              refine rl_nil (g_le (xK (xS rfl (xS rfl (xS rfl (xS rfl (xS rfl (xS rfl (xS rfl (xS rfl (Fr.le_refl _)))))))))) ?_)
              refine g_ret1 Try.func8 rfl rfl ?_
              exact ⟨rfl, (hw.xQ : Sat (envOf W) w [RO g4]).shrink (hg2.trans (hg3.trans hg4))⟩
          · try with_reducible exact tf_elim g13_2
            all_goals
              try replace g13_2 := of_decide_eq_false g13_2
              simp at g13_2
      · try with_reducible exact tf_elim h4
        all_goals
          try replace h4 := of_decide_eq_false h4
          have hqo : q.ok := by rw [hrq] at h4; exact Classical.not_not.1 h4
          have hz := hw
          clear hw
          obtain ⟨hl1, hl2, hp1, hp2, hse, rfl, rfl⟩ := hyes hqo
          have hw := hz
          refine g_skip (g_seq ?_)
          refine g_drawR ord_f8_r14_L08S (by kernel_rfl) T.mixed hw (fun w hw => ?_)
          refine rs_kv 0 rfl rfl rfl rfl (S' := fun _ => True) trivial (v_move rfl) ?_
          refine rs_kv 1 rfl rfl rfl rfl (S' := fun _ => True) trivial (v_eqlT rfl rfl (by omega)) ?_
          refine rs_kv 2 rfl rfl rfl rfl (S' := fun _ => True) trivial (v_move rfl) ?_
          refine rs_split (s := 63) rfl (fun g14_2 => ?_) (fun g14_2 => ?_)
          · try with_reducible exact ft_elim g14_2
            all_goals
              try replace g14_2 := of_decide_eq_true g14_2
              refine rs_ag 3 rfl (met_on rfl rfl rfl rfl) rfl rfl (v_fieldAddr0 T.fld_45_2_2 rfl) ?_
              refine rs_ag 5 rfl (met_on rfl rfl rfl rfl) rfl rfl (v_move rfl) ?_
              refine rs_ag 6 rfl (met_on rfl rfl rfl rfl) rfl rfl (v_lenSlice T.sl_33_40_2 rfl) ?_
              refine rs_kvg 4 rfl (met_on rfl rfl rfl rfl) rfl rfl (by exact sat_cell hw (by (repeat first | with_reducible exact xH | apply xT); first | done | fail) rfl) (v_load T.scal_3 rfl) ?_
              refine rs_kvg 7 rfl (met_on rfl rfl rfl rfl) rfl rfl (S' := fun _ => True) trivial (v_eqlT rfl rfl (by omega)) ?_
              refine rs_kv 8 rfl rfl rfl rfl (S' := fun _ => True) trivial (v_pick_true rfl rfl) ?_
              refine rs_kv 9 rfl rfl rfl rfl (S' := fun _ => True) trivial (v_move rfl) ?_
              refine rs_split (s := 70) rfl (fun g14_9 => ?_) (fun g14_9 => ?_)
              · try with_reducible exact ft_elim g14_9
                all_goals
                  try replace g14_9 := of_decide_eq_true g14_9
                  refine rs_kvg 10 rfl (met_on rfl rfl rfl rfl) rfl rfl (S' := fun _ => True) trivial (v_fieldAddr0 T.fld_45_0_0 rfl) ?_
                  refine rs_kvg 11 rfl (met_on rfl rfl rfl rfl) rfl rfl (by exact sat_cell hw (by (repeat first | with_reducible exact xH | apply xT); first | done | fail) rfl) (v_load T.scal_3 rfl) ?_
                  refine rs_kvg 12 rfl (met_on rfl rfl rfl rfl) rfl rfl (S' := fun _ => True) trivial (v_geqT rfl rfl (by omega)) ?_
                  refine rs_kv 13 rfl rfl rfl rfl (S' := fun _ => True) trivial (v_pick_true rfl rfl) ?_
                  refine rs_kv 14 rfl rfl rfl rfl (S' := fun _ => True) trivial (v_move rfl) ?_
                  refine rs_split (s := 75) rfl (fun g14_14 => ?_) (fun g14_14 => ?_)
                  · try with_reducible exact ft_elim g14_14
                    all_goals
                      try replace g14_14 := of_decide_eq_true g14_14
                      refine rs_ag 15 rfl (met_on rfl rfl rfl rfl) rfl rfl (v_fieldAddr0 T.fld_45_0_0 rfl) ?_
                      refine rs_vg 16 rfl (met_on rfl rfl rfl rfl) rfl rfl (OpV.mono (v_load T.scal_3 rfl) (fun w hw => by exact sat_cell hw (by (repeat first | with_reducible exact xH | apply xT); first | done | fail) rfl)) (by exact hw) ?_
                      refine rs_kvg 17 rfl (met_on rfl rfl rfl rfl) rfl rfl (by exact sat_cells hw (by (repeat first | with_reducible exact xH | apply xT); first | done | fail) ⟨rfl, rfl, rfl, rfl, rfl, rfl, rfl, trivial⟩) (v_loadAgg (vs := [_, _, _, _, _, _, _]) T.agg_23_7 rfl rfl) ?_
                      refine rs_kg 18 rfl (met_on rfl rfl rfl rfl) (k_callf Try.func27 rfl rfl rfl rfl ?_)
                      refine Calls.mono (levels_calls q (hw.xQ)) ?_
                      rintro _ w ⟨rfl, hw⟩
                      refine ⟨_, rfl, ?_⟩
                      refine ⟨fun _ => (by exact hw), ?_⟩
                      refine rs_kvg 19 rfl (met_on rfl rfl rfl rfl) rfl rfl (S' := fun _ => True) trivial (v_leqT rfl rfl (by omega)) ?_
                      refine rs_kv 20 rfl rfl rfl rfl (S' := fun _ => True) trivial (v_pick_true rfl rfl) ?_
                      refine rs_kv 21 rfl rfl rfl rfl (S' := fun _ => True) trivial (v_move rfl) ?_
                      refine rs_split (s := 82) rfl (fun g14_21 => ?_) (fun g14_21 => ?_)
                      · try with_reducible exact ft_elim g14_21
                        all_goals
                          try replace g14_21 := of_decide_eq_true g14_21
                          refine rs_kvg 22 rfl (met_on rfl rfl rfl rfl) rfl rfl (S' := fun _ => True) trivial (v_fieldAddr0 T.fld_45_1_1 rfl) ?_
                          refine rs_kvg 23 rfl (met_on rfl rfl rfl rfl) rfl rfl (by exact sat_cell hw (by (repeat first | with_reducible exact xH | apply xT); first | done | fail) rfl) (v_load T.scal_3 rfl) ?_
                          refine rs_kvg 24 rfl (met_on rfl rfl rfl rfl) rfl rfl (S' := fun _ => True) trivial (v_geqT rfl rfl (by omega)) ?_
                          refine rs_kv 25 rfl rfl rfl rfl (S' := fun _ => True) trivial (v_pick_true rfl rfl) ?_
                          refine rs_kv 26 rfl rfl rfl rfl (S' := fun _ => True) trivial (v_move rfl) ?_
                          refine rs_split (s := 87) rfl (fun g14_26 => ?_) (fun g14_26 => ?_)
                          · try with_reducible exact ft_elim g14_26
                            all_goals
                              try replace g14_26 := of_decide_eq_true g14_26
                              refine rs_ag 27 rfl (met_on rfl rfl rfl rfl) rfl rfl (v_fieldAddr0 T.fld_45_1_1 rfl) ?_
                              refine rs_vg 28 rfl (met_on rfl rfl rfl rfl) rfl rfl (OpV.mono (v_load T.scal_3 rfl) (fun w hw => by exact sat_cell hw (by (repeat first | with_reducible exact xH | apply xT); first | done | fail) rfl)) (by exact hw) ?_
                              refine rs_kvg 29 rfl (met_on rfl rfl rfl rfl) rfl rfl (by exact sat_cells hw (by (repeat first | with_reducible exact xH | apply xT); first | done | fail) ⟨rfl, rfl, rfl, rfl, rfl, rfl, rfl, trivial⟩) (v_loadAgg (vs := [_, _, _, _, _, _, _]) T.agg_23_7 rfl rfl) ?_
                              refine rs_kg 30 rfl (met_on rfl rfl rfl rfl) (k_callf Try.func28 rfl rfl rfl rfl ?_)
                              refine Calls.mono (livePages_calls q (hw.xQ)) ?_
                              rintro _ w ⟨rfl, hw⟩
                              refine ⟨_, rfl, ?_⟩
                              refine ⟨fun _ => (by exact hw), ?_⟩
                              refine rs_kvg 31 rfl (met_on rfl rfl rfl rfl) rfl rfl (S' := fun _ => True) trivial (v_leqT rfl rfl (by omega)) ?_
                              refine rs_kv 32 rfl rfl rfl rfl (S' := fun _ => True) trivial (v_pick_true rfl rfl) ?_
                              refine rs_kv 33 rfl rfl rfl rfl (S' := fun _ => True) trivial (v_move rfl) ?_
                              refine rs_split (s := 94) rfl (fun g14_33 => ?_) (fun g14_33 => ?_)
                              · try with_reducible exact ft_elim g14_33
                                all_goals
                                  try replace g14_33 := of_decide_eq_true g14_33
                                  refine rs_ag 34 rfl (met_on rfl rfl rfl rfl) rfl rfl (v_fieldAddr0 T.fld_45_3_3 rfl) ?_
                                  refine rs_ag 36 rfl (met_on rfl rfl rfl rfl) rfl rfl (v_fieldAddr0 T.fld_45_1_1 rfl) ?_
                                  refine rs_vg 35 rfl (met_on rfl rfl rfl rfl) rfl rfl (OpV.mono (v_load T.scal_3 rfl) (fun w hw => by exact sat_cell hw (by (repeat first | with_reducible exact xH | apply xT); first | done | fail) rfl)) (by exact hw) ?_
                                  refine rs_kvg 37 rfl (met_on rfl rfl rfl rfl) rfl rfl (by exact sat_cell hw (by (repeat first | with_reducible exact xH | apply xT); first | done | fail) rfl) (v_load T.scal_3 rfl) ?_
                                  refine rs_kvg 38 rfl (met_on rfl rfl rfl rfl) rfl rfl (S' := fun _ => True) trivial (v_eqlT rfl rfl (by omega)) ?_
                                  refine rs_kv 39 rfl rfl rfl rfl (S' := fun _ => True) trivial (v_pick_true rfl rfl) ?_
                                  refine rs_kv 40 rfl rfl rfl rfl (S' := fun _ => True) trivial (v_assign rfl) ?_
                                  refine rs_done (g_le (xK (xS rfl (xS rfl (xS rfl (xS rfl (xS rfl (xS rfl (xS rfl (xS rfl (xS rfl (xS rfl (xS rfl (xS rfl (xS rfl (xS rfl (xS rfl (xS rfl (xS rfl (xS rfl (xS rfl (xS rfl (xS rfl (xS rfl (xS rfl (xS rfl (xS rfl (xS rfl (xS rfl (xS rfl (xS rfl (xS rfl (xS rfl (xS rfl (xS rfl (xS rfl (xS rfl (xS rfl (xS rfl (xS rfl (xS rfl (xS rfl (xS rfl (xS rfl (xS rfl (xS rfl (xS rfl (xS rfl (Fr.le_refl _)))))))))))))))))))))))))))))))))))))))))))))))) ?_)
                                  refine g_ret1 Try.func8 rfl rfl ?_
                                  exact ⟨by simp, (hw.xQ : Sat (envOf W) w [RO g4]).shrink (hg2.trans (hg3.trans hg4))⟩
                              · try with_reducible exact tf_elim g14_33
                                all_goals
                                  try replace g14_33 := of_decide_eq_false g14_33
                                  first | omega | simp at g14_33
                          · try with_reducible exact tf_elim g14_26
                            all_goals
                              try replace g14_26 := of_decide_eq_false g14_26
                              first | omega | simp at g14_26
                      · try with_reducible exact tf_elim g14_21
                        all_goals
                          try replace g14_21 := of_decide_eq_false g14_21
                          first | omega | simp at g14_21
                  · try with_reducible exact tf_elim g14_14
                    all_goals
                      try replace g14_14 := of_decide_eq_false g14_14
                      first | omega | simp at g14_14
              · try with_reducible exact tf_elim g14_9
                all_goals
                  try replace g14_9 := of_decide_eq_false g14_9
                  first | omega | simp at g14_9
          · try with_reducible exact tf_elim g14_2
            all_goals
              try replace g14_2 := of_decide_eq_false g14_2
              first | omega | simp at g14_2

set_option maxRecDepth 100000 in
theorem ListSound_lifted (os : Os) (started : os.Started) (H : Type) (enc : TypeId × Value → H) :
    ReturnsInHanded {} Try.checked os 8 .any (Rows.listSoundSpec.pre6 enc Try.prog Try.f8 Rows.listSoundRow.domain false) (Rows.listSoundSpec.post enc Try.prog Try.f8 false true false false) := by
  refine returnsInHanded_of_change_sized (C := Try.checked) T.own started (by kernel_rfl) Try.func8
    (ChangeSpec.witness6 (enc := enc) (C := Try.checked) false ⟨#[], #[(.agg #[(.int .i64 0), (.int .i64 0), (.int .i64 0), (.int .i64 0), (.int .i64 0), (.int .i64 0), (.int .i64 0)]), (.slice none 0 0)], []⟩ 8 (by kernel_rfl) (by kernel_rfl) (by kernel_rfl) (by kernel_rfl)) ?_
  intro W base args ds gs before hval0 hW hcnd hsz0 _
  have hval : ∀ (j : Nat) t v, Try.f8.params[j]? = some t → args[j]? = some v → Value.okWide Try.prog W .any base t v := hval0
  have hW' := hW
  obtain ⟨p, q, hA0, hV, rfl, hfz, hnd⟩ := hW
  have hA : DataW.TrodAll enc Try.prog W 0 (fun _ => true) true Try.f8.params.toList args.toList ds p := hA0
  obtain ⟨rfl, rfl⟩ := trodVars_none hV
  have hsz : (DataW.weightsEach Try.prog (Try.f8.params.toList ++ []) (ds ++ [])).all (· ≤ reachBytes) = true := hsz0
  rw [List.append_nil, List.append_nil] at hsz
  rw [Try.params8] at hA hval hsz
  obtain ⟨v0, vs0, d0, ds0, p0, q0, hargs, rfl, rfl, h0, r0⟩ := trodAll_cons hA
  obtain ⟨v1, vs1, d1, ds1, p1, q1, rfl, rfl, rfl, h1, r1⟩ := trodAll_cons r0
  obtain ⟨rfl, rfl, rfl⟩ := trodAll_nil r1
  obtain rfl : args = #[v0, v1] := by cases args; simp_all
  have lt0 : ∀ x ∈ p0, x.block < W.heap.size := by obtain ⟨m, hm⟩ := h0; exact DataW.trod_lt m _ _ _ hm
  obtain ⟨x0, w0⟩ := arg_of (j := 0) reads_Quota h0 hsz rfl rfl
  have lt1 : ∀ x ∈ p1, x.block < W.heap.size := by obtain ⟨m, hm⟩ := h1; exact DataW.trod_lt m _ _ _ hm
  obtain ⟨x1, w1⟩ := arg_of (j := 1) (reads_sl T.sl_33_40_2 T.bytes_40_40 (by decide) reads_En) h1 hsz rfl rfl
  obtain ⟨cs0, rfl⟩ := okWide_agg T.agg_23_7 (hval 0 23 v0 rfl rfl)
  obtain ⟨a1, l1, c1, rfl⟩ := okWide_slice Try.underlying33 (hval 1 33 v1 rfl rfl)
  refine (ListSound_law w0 w1).mono fun e W' ⟨he, hb⟩ => ?_
  have bel := hb.below
  subst he
  exact ⟨_, rfl, _, _, _, [], _, [], hW', trodAll_mk1 (shut_bool Try.underlying4 _), (trodAll_cons_mk (Below.trod T.laidOut (by kernel_rfl) (of_decide_eq_true (by kernel_rfl)) h0 bel lt0) (trodAll_cons_mk (Below.trod T.laidOut (by kernel_rfl) (of_decide_eq_true (by kernel_rfl)) h1 bel lt1) trodAll_mk0)), rfl, bel.frame _, fun h => by cases h⟩
theorem ListSound_holds : Rows.ListSoundSaid :=
  OpenClaim.holds_of_wide 8 Try.f8 rfl rfl rfl rfl rfl rfl rfl ⟨rfl, rfl, rfl, rfl, rfl⟩ rfl rfl rfl rfl rfl (by kernel_rfl) Try.func8 (by kernel_rfl)
    (of_decide_eq_true (by kernel_rfl)) (by unfold Func.isWrapper; rw [if_neg (of_decide_eq_false (by kernel_rfl))]; exact ⟨rfl, rfl⟩)
    (fun os started H enc _ => ListSound_lifted os started H enc)
#print axioms ListSound_holds
end Go.Proofs.Ytdiocmjhencbpaa
