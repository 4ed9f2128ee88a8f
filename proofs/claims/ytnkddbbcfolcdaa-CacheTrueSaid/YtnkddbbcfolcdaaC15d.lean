/-
  The cache (layer 15): Drop, Holds; references of the statements.
-/
import Derived.Test.YtnkddbbcfolcdaaC15c
namespace Go.Proofs.Ytnkddbbcfolcdaa
set_option linter.unusedSimpArgs false
set_option linter.unusedVariables false
open Go Xe
def Ch.drop1 (p : Ch × Int) (r : Rf) : Ch × Int := if p.1.pl r < 0 then p else (⟨p.1.room, p.1.l.eraseIdx (p.1.pl r).toNat, p.1.hits, p.1.misses⟩, p.2 + 1)
theorem drop1_no {s : Ch} {n : Int} {r : Rf} (h : s.pl r < 0) : Ch.drop1 (s, n) r = (s, n) := if_pos h
theorem drop1_yes {s : Ch} {n : Int} {r : Rf} {i : Nat} (h : s.pl r = i) : Ch.drop1 (s, n) r = (⟨s.room, s.l.eraseIdx i, s.hits, s.misses⟩, n + 1) := by
  unfold Ch.drop1; rw [h, if_neg (by omega), Int.toNat_natCast]
theorem cdrop_calls {E : Env} {w : World} {L : List As} {g : Hp} {c : Nat} {s : Ch} {lv : Value} {cells : List Value} {a : Option Addr} {m k : Nat} {rs : List Rf} (hrs : (rdSl 32 4 rdRf) g [.slice a m k] rs) (hels : Els rdHd 8 g cells s.l) (hb : s.l.length ≤ 100000) (hw : Sat E w (pt c (.cells [Value.int .i64 (s : Ch).room, lv, .int .i64 (s : Ch).hits, .int .i64 (s : Ch).misses].toArray 70 (0, 0)) :: OwnSl 42 8 lv (s : Ch).l.length cells :: RO g :: L)) :
    Calls Try.prog 19 #[.pointer (some ⟨c, 0, none⟩), .slice a m k] w fun e w' => ∃ lv' cells', e = .returned (.int .i64 (rs.foldl Ch.drop1 (s, 0)).2) ∧ Els rdHd 8 g cells' (rs.foldl Ch.drop1 (s, 0)).1.l ∧ Sat E w' (pt c (.cells [Value.int .i64 ((rs.foldl Ch.drop1 (s, 0)).1 : Ch).room, lv', .int .i64 ((rs.foldl Ch.drop1 (s, 0)).1 : Ch).hits, .int .i64 ((rs.foldl Ch.drop1 (s, 0)).1 : Ch).misses].toArray 70 (0, 0)) :: OwnSl 42 8 lv' ((rs.foldl Ch.drop1 (s, 0)).1 : Ch).l.length cells' :: RO g :: L) := by
  obtain ⟨rfl, hb1, hc1, hm1, g1⟩ := rdSl_get hrs
  simp only [reachBytes] at hb1
  refine calls_of_g (n := 27) Try.func19 rfl rfl rfl ?_
  change G _ _ _ _ _ [(0, _), (1, _)] _
  refine g_seq ?_
  refine g_region ?_
  refine rl_v rfl rfl rfl (S := fun _ => True) trivial (v_assign rfl) ?_
  refine rl_nil (g_le (Fr.le_keep (Fr.le_refl _)) ?_)
  refine g_seq ?_
  refine g_region ?_
  refine rl_v rfl rfl rfl (S := fun _ => True) trivial (v_assign rfl) ?_
  refine rl_nil (g_le (Fr.le_keep (Fr.le_refl _)) ?_)
  refine g_seq (g_seq ?_)
  refine g_region ?_
  refine rl_v rfl rfl rfl (S := fun _ => True) trivial (v_move rfl) ?_
  refine rl_v rfl rfl rfl (S := fun _ => True) trivial (v_lenSlice T.sl_53_34_4 rfl) ?_
  refine rl_v rfl rfl rfl (S := fun _ => True) trivial (v_move rfl) ?_
  refine rl_nil (g_le (Fr.le_keep (Fr.le_keep (Fr.le_keep (Fr.le_refl _)))) ?_)
  refine g_block ?_
  refine g_loopC (σ := Int × Ch × Int × Value × List Value) (fun C x => (11, .int .i64 x.1) :: (5, .int .i64 x.2.2.1) :: C) [(0, _), (4, _), (9, _), (10, _)] (by repeat (first | exact Fr.le_nil _ | refine Fr.le_cons rfl ?_)) (fun z w => 0 ≤ z.1 ∧ z.1 ≤ rs.length ∧ (rs.take z.1.toNat).foldl Ch.drop1 (s, 0) = (z.2.1, z.2.2.1) ∧ 0 ≤ z.2.2.1 ∧ z.2.2.1 ≤ z.1 ∧ z.2.1.l.length ≤ 100000 ∧ Els rdHd 8 g z.2.2.2.2 z.2.1.l ∧ Sat E w (pt c (.cells [Value.int .i64 (z.2.1 : Ch).room, z.2.2.2.1, .int .i64 (z.2.1 : Ch).hits, .int .i64 (z.2.1 : Ch).misses].toArray 70 (0, 0)) :: OwnSl 42 8 z.2.2.2.1 (z.2.1 : Ch).l.length z.2.2.2.2 :: RO g :: L)) (fun z => (rs.length - z.1).toNat) ?_ (0, s, 0, lv, cells) (by repeat (first | exact Fr.le_nil _ | refine Fr.le_cons rfl ?_)) ⟨by simp, by simp, by simp, by simp, by simp, hb, hels, hw.sub (by (repeat (first | with_reducible exact Sub.refl _ | exact Sub.nil _ | (apply Sub.cons; focus ((repeat (first | with_reducible exact Pick.here _ | apply Pick.there)); (first | done | fail))) | with_reducible apply Sub.drop)); first | done | fail)⟩
  rintro ⟨i, s', n, lv', cells'⟩ w ⟨hi0, hi1, hf, hn0, hn1, hb', hels', hw⟩ ih
  dsimp only at hi0 hi1 hf hn0 hn1 hb' hels' hw ⊢
  refine g_seq ?_
  refine g_region ?_
  first | (refine rl_v rfl rfl rfl (S := fun _ => True) trivial (v_lssT rfl rfl (by omega)) ?_) | (refine rl_v rfl rfl rfl (S := fun _ => True) trivial (v_lssF rfl rfl (by omega)) ?_) | (refine rl_v rfl rfl rfl (S := fun _ => True) trivial (v_lss rfl rfl) ?_)
  refine rl_nil (g_le (Fr.le_keep (Fr.le_refl _)) ?_)
  refine g_seq ?_
  refine g_cond rfl (fun h1 => ?_) (fun h1 => ?_)
  · try with_reducible exact ft_elim h1
    all_goals
      try replace h1 := of_decide_eq_true h1
      refine g_skip (g_seq (g_block (g_seq ?_)))
      have hz := hw
      clear hw
      obtain ⟨b4, o1, r, ecs, rfl, hx, hat1, hl1, rfl, hrok⟩ := g1 i hi0 (by omega)
      have hw := hz
      have htk : (rs.take (i + 1).toNat).foldl Ch.drop1 (s, 0) = Ch.drop1 (s', n) r := by rw [show (i + 1).toNat = i.toNat + 1 by omega, List.take_add_one, hx, List.foldl_append, hf]; rfl
      have hpb := s'.pl_bound r
      obtain ⟨m, hm⟩ : ∃ m, s'.pl r = m := ⟨_, rfl⟩
      rw [hm] at hpb
      refine g_region ?_
      refine rl_v rfl rfl rfl (S := fun _ => True) trivial (v_indexAddr T.sl_53_34_4 rfl rfl (by omega) (by omega)) ?_
      refine rl_v rfl rfl rfl (by first | exact sat_cells hw (by (repeat (first | with_reducible exact Pick.here _ | apply Pick.there)); first | done | fail) ⟨rfl, rfl, rfl, rfl, trivial⟩ | exact ro_ats hw (by (repeat (first | with_reducible exact Pick.here _ | apply Pick.there)); first | done | fail) (by assumption) | exact own_cells hw (by (repeat (first | with_reducible exact Pick.here _ | apply Pick.there)); first | done | fail) (by assumption) | exact old_cells hw (by (repeat (first | with_reducible exact Pick.here _ | apply Pick.there)); first | done | fail) (by assumption)) (v_loadAgg (vs := [_, _, _, _]) T.agg_34_4 rfl rfl) ?_
      refine rl_k rfl (k_alloc hw T.zero_34 rfl rfl (fun bk4_2 w hw => ?_))
      first | (refine rl_k rfl (k_storeWhole hw T.agg_34_4 rfl rfl (by simp [Value.oneCell']) rfl (by (repeat (first | with_reducible exact Pick.here _ | apply Pick.there)); first | done | fail) rfl (fun w hw => ?_))) | (refine rl_k rfl (k_storeAgg hw T.agg_34_4 rfl rfl (by simp [Value.oneCell']) rfl (by (repeat (first | with_reducible exact Pick.here _ | apply Pick.there)); first | done | fail) rfl rfl (fun w hw => ?_))) | (refine rl_k rfl (k_storeOwnAgg hw T.agg_34_4 rfl rfl (by simp [Value.oneCell']) rfl (by (repeat (first | with_reducible exact Pick.here _ | apply Pick.there)); first | done | fail) (by assumption) (by omega) (fun w hw => ?_)))
      refine rl_nil (g_le (Fr.le_keep (Fr.le_keep (Fr.le_keep (Fr.le_refl _)))) ?_)
      refine g_seq ?_
      refine g_region ?_
      refine rl_v rfl rfl rfl (S := fun _ => True) trivial (v_move rfl) ?_
      refine rl_v rfl rfl rfl (by first | exact sat_cells hw (by (repeat (first | with_reducible exact Pick.here _ | apply Pick.there)); first | done | fail) ⟨rfl, rfl, rfl, rfl, trivial⟩ | exact ro_ats hw (by (repeat (first | with_reducible exact Pick.here _ | apply Pick.there)); first | done | fail) (by assumption) | exact own_cells hw (by (repeat (first | with_reducible exact Pick.here _ | apply Pick.there)); first | done | fail) (by assumption) | exact old_cells hw (by (repeat (first | with_reducible exact Pick.here _ | apply Pick.there)); first | done | fail) (by assumption)) (v_loadAgg (vs := [_, _, _, _]) T.agg_34_4 rfl rfl) ?_
      refine rl_k rfl (k_callf Try.func35 rfl rfl rfl rfl ?_)
      refine Calls.mono (catm_calls r m hm hels' hb' (hw.sub (by (repeat (first | with_reducible exact Sub.refl _ | exact Sub.nil _ | (apply Sub.cons; focus ((repeat (first | with_reducible exact Pick.here _ | apply Pick.there)); (first | done | fail))) | with_reducible apply Sub.drop)); first | done | fail))) ?_
      rintro _ w ⟨rfl, hw⟩
      refine ⟨_, rfl, ?_⟩
      refine rl_v rfl rfl rfl (S := fun _ => True) trivial (v_assign rfl) ?_
      refine rl_nil (g_le (Fr.le_keep (Fr.le_keep (Fr.le_keep (Fr.le_keep (Fr.le_refl _))))) ?_)
      refine g_seq ?_
      refine g_region ?_
      refine rl_v rfl rfl rfl (S := fun _ => True) trivial (v_move rfl) ?_
      first | (refine rl_v rfl rfl rfl (S := fun _ => True) trivial (v_geqT rfl rfl (by omega)) ?_) | (refine rl_v rfl rfl rfl (S := fun _ => True) trivial (v_geqF rfl rfl (by omega)) ?_) | (refine rl_v rfl rfl rfl (S := fun _ => True) trivial (v_geq rfl rfl) ?_)
      refine rl_nil (g_le (Fr.le_keep (Fr.le_keep (Fr.le_refl _))) ?_)
      refine g_cond rfl (fun h2 => ?_) (fun h2 => ?_)
      · try with_reducible exact ft_elim h2
        all_goals
          try replace h2 := of_decide_eq_true h2
          obtain ⟨q, rfl⟩ : ∃ q : Nat, m = q := ⟨m.toNat, by omega⟩
          have hlt : q < s'.l.length := by omega
          have hxx : s'.l[q]? = some s'.l[q] := List.getElem?_eq_getElem hlt
          have hel : (s'.l.eraseIdx q).length + 1 = s'.l.length := by rw [List.length_eraseIdx_of_lt hlt]; omega
          rw [drop1_yes hm] at htk
          refine g_seq ?_
          refine g_region ?_
          refine rl_v rfl rfl rfl (S := fun _ => True) trivial (v_move rfl) ?_
          refine rl_v rfl rfl rfl (S := fun _ => True) trivial (v_move rfl) ?_
          refine rl_k rfl (k_callf Try.func36 rfl rfl rfl rfl ?_)
          refine Calls.mono (wipe_calls q hels' hb' hxx (hw.sub (by (repeat (first | with_reducible exact Sub.refl _ | exact Sub.nil _ | (apply Sub.cons; focus ((repeat (first | with_reducible exact Pick.here _ | apply Pick.there)); (first | done | fail))) | with_reducible apply Sub.drop)); first | done | fail))) ?_
          rintro _ w ⟨lv2, cells2, ea, en, ec, ka, kn, kc, rfl, hrd, hels2, hw⟩
          refine ⟨_, rfl, ?_⟩
          refine rl_nil (g_le (Fr.le_skip rfl (Fr.le_keep (Fr.le_keep (Fr.le_refl _)))) ?_)
          refine g_region ?_
          refine rl_v rfl rfl rfl (S := fun _ => True) trivial (v_move rfl) ?_
          first | (refine rl_v rfl rfl rfl (S := fun _ => True) trivial (v_add rfl rfl (by omega)) ?_) | (refine rl_v rfl rfl rfl (S := fun _ => True) trivial (v_addW rfl rfl) ?_)
          refine rl_v rfl rfl rfl (S := fun _ => True) trivial (v_assign rfl) ?_
          refine rl_nil (g_le (Fr.le_keep (Fr.le_keep (Fr.le_keep (Fr.le_refl _)))) ?_)
          refine g_inBlock ?_
          refine g_region ?_
          first | (refine rl_v rfl rfl rfl (S := fun _ => True) trivial (v_add rfl rfl (by omega)) ?_) | (refine rl_v rfl rfl rfl (S := fun _ => True) trivial (v_addW rfl rfl) ?_)
          refine rl_v rfl rfl rfl (S := fun _ => True) trivial (v_move rfl) ?_
          refine rl_nil (g_le (Fr.le_keep (Fr.le_keep (Fr.le_refl _))) ?_)
          first | exact g_le (by repeat (first | exact Fr.le_nil _ | refine Fr.le_cons rfl ?_)) (ih (i + 1, ⟨s'.room, s'.l.eraseIdx q, s'.hits, s'.misses⟩, n + 1, lv2, cells2) w ⟨by simp only; omega, by simp only; omega, htk, by simp only; omega, by simp only; omega, by simp only; omega, hels2, hw.sub (by (repeat (first | with_reducible exact Sub.refl _ | exact Sub.nil _ | (apply Sub.cons; focus ((repeat (first | with_reducible exact Pick.here _ | apply Pick.there)); (first | done | fail))) | with_reducible apply Sub.drop)); first | done | fail)⟩ (by simp only; omega)) | exact g_le (by repeat (first | exact Fr.le_nil _ | refine Fr.le_cons rfl ?_)) (ih (i + 1, s', n, lv', cells') w ⟨by simp only; omega, by simp only; omega, htk, by simp only; omega, by simp only; omega, by simp only; omega, hels', hw.sub (by (repeat (first | with_reducible exact Sub.refl _ | exact Sub.nil _ | (apply Sub.cons; focus ((repeat (first | with_reducible exact Pick.here _ | apply Pick.there)); (first | done | fail))) | with_reducible apply Sub.drop)); first | done | fail)⟩ (by simp only; omega))
      · try with_reducible exact tf_elim h2
        all_goals
          try replace h2 := of_decide_eq_false h2
          rw [drop1_no (by omega)] at htk
          refine g_skip (g_inBlock ?_)
          refine g_region ?_
          first | (refine rl_v rfl rfl rfl (S := fun _ => True) trivial (v_add rfl rfl (by omega)) ?_) | (refine rl_v rfl rfl rfl (S := fun _ => True) trivial (v_addW rfl rfl) ?_)
          refine rl_v rfl rfl rfl (S := fun _ => True) trivial (v_move rfl) ?_
          refine rl_nil (g_le (Fr.le_keep (Fr.le_keep (Fr.le_refl _))) ?_)
          first | exact g_le (by repeat (first | exact Fr.le_nil _ | refine Fr.le_cons rfl ?_)) (ih (i + 1, ⟨s'.room, s'.l.eraseIdx q, s'.hits, s'.misses⟩, n + 1, lv2, cells2) w ⟨by simp only; omega, by simp only; omega, htk, by simp only; omega, by simp only; omega, by simp only; omega, hels2, hw.sub (by (repeat (first | with_reducible exact Sub.refl _ | exact Sub.nil _ | (apply Sub.cons; focus ((repeat (first | with_reducible exact Pick.here _ | apply Pick.there)); (first | done | fail))) | with_reducible apply Sub.drop)); first | done | fail)⟩ (by simp only; omega)) | exact g_le (by repeat (first | exact Fr.le_nil _ | refine Fr.le_cons rfl ?_)) (ih (i + 1, s', n, lv', cells') w ⟨by simp only; omega, by simp only; omega, htk, by simp only; omega, by simp only; omega, by simp only; omega, hels', hw.sub (by (repeat (first | with_reducible exact Sub.refl _ | exact Sub.nil _ | (apply Sub.cons; focus ((repeat (first | with_reducible exact Pick.here _ | apply Pick.there)); (first | done | fail))) | with_reducible apply Sub.drop)); first | done | fail)⟩ (by simp only; omega))
  · try with_reducible exact tf_elim h1
    all_goals
      try replace h1 := of_decide_eq_false h1
      refine g_exit rfl (g_seq ?_)
      refine g_region ?_
      refine rl_v rfl rfl rfl (S := fun _ => True) trivial (v_move rfl) ?_
      refine rl_v rfl rfl rfl (S := fun _ => True) trivial (v_assign rfl) ?_
      refine rl_nil (g_le (Fr.le_keep (Fr.le_skip rfl (Fr.le_refl _))) ?_)
      refine g_ret1 Try.func19 rfl rfl ?_
      rw [show i.toNat = rs.length by omega, List.take_length] at hf
      rw [hf]
      exact ⟨lv', cells', rfl, hels', hw.sub (by (repeat (first | with_reducible exact Sub.refl _ | exact Sub.nil _ | (apply Sub.cons; focus ((repeat (first | with_reducible exact Pick.here _ | apply Pick.there)); (first | done | fail))) | with_reducible apply Sub.drop)); first | done | fail)⟩
def kOf (n : Int) : Int := if n.tmod 40 < 0 then -(n.tmod 40) else n.tmod 40
def ofR (n : Int) : Rf := ⟨kOf n % 7, kOf n % 3, kOf n, 1⟩
theorem tmod40 (n : Int) : -40 < n.tmod 40 ∧ n.tmod 40 < 40 := by
  have h1 := Int.tmod_lt_of_pos n (by omega : (0 : Int) < 40)
  have h2 := Int.tmod_lt_of_pos (-n) (by omega : (0 : Int) < 40)
  rw [Int.neg_tmod] at h2
  omega
theorem kOf_bound (n : Int) : 0 ≤ kOf n ∧ kOf n < 40 := by have := tmod40 n; unfold kOf; split <;> omega
theorem ofR_ok (n : Int) : (ofR n).ok := by
  have := kOf_bound n
  have e1 : IntKind.i64.min = -9223372036854775808 := rfl
  have e2 : IntKind.i64.max = 9223372036854775807 := rfl
  have e3 : IntKind.u64.min = 0 := rfl
  have e4 : IntKind.u64.max = 18446744073709551615 := rfl
  simp only [Rf.ok, ofR, Lit.wf, e1, e2, e3, e4, Bool.and_eq_true, decide_eq_true_eq]
  omega
theorem of_calls {E : Env} {w : World} {L : List As} (n : Int) (hw : Sat E w L) :
    Calls Try.prog 11 #[.int .i64 n] w fun e w' => e = .returned (.agg (ofR n).cells.toArray) ∧ Sat E w' L := by
  have hb := tmod40 n
  refine calls_of_g (n := 17) Try.func11 rfl rfl rfl ?_
  change G _ _ _ _ _ [(0, _)] _
  refine g_seq ?_
  refine g_region ?_
  refine rl_k rfl (k_alloc hw T.zero_34 rfl rfl (fun bk0_0 w hw => ?_))
  refine rl_nil (g_le (Fr.le_keep (Fr.le_refl _)) ?_)
  refine g_seq ?_
  refine g_region ?_
  refine rl_v rfl rfl rfl (S := fun _ => True) trivial (v_move rfl) ?_
  first | (refine rl_v rfl rfl rfl (S := fun _ => True) trivial (v_remP rfl rfl (by omega) (by omega)) ?_) | (refine rl_v rfl rfl rfl (S := fun _ => True) trivial (v_rem rfl rfl (by omega)) ?_)
  refine rl_v rfl rfl rfl (S := fun _ => True) trivial (v_assign rfl) ?_
  refine rl_nil (g_le (Fr.le_keep (Fr.le_skip rfl (Fr.le_skip rfl (Fr.le_refl _)))) ?_)
  refine g_seq (g_seq ?_)
  refine g_region ?_
  refine rl_v rfl rfl rfl (S := fun _ => True) trivial (v_move rfl) ?_
  first | (refine rl_v rfl rfl rfl (S := fun _ => True) trivial (v_lssT rfl rfl (by omega)) ?_) | (refine rl_v rfl rfl rfl (S := fun _ => True) trivial (v_lssF rfl rfl (by omega)) ?_) | (refine rl_v rfl rfl rfl (S := fun _ => True) trivial (v_lss rfl rfl) ?_)
  refine rl_nil (g_le (Fr.le_keep (Fr.le_skip rfl (Fr.le_refl _))) ?_)
  refine g_cond rfl (fun h1 => ?_) (fun h1 => ?_)
  · try with_reducible exact ft_elim h1
    all_goals
      try replace h1 := of_decide_eq_true h1
      have hk : -(n.tmod 40) = kOf n := (if_pos h1).symm
      have hkb := kOf_bound n
      refine g_region ?_
      refine rl_v rfl rfl rfl (S := fun _ => True) trivial (v_move rfl) ?_
      refine rl_v rfl rfl rfl (S := fun _ => True) trivial (v_neg rfl (by omega) (by omega)) ?_
      refine rl_v rfl rfl rfl (S := fun _ => True) trivial (v_assign rfl) ?_
      refine rl_nil (g_le (Fr.le_keep (Fr.le_skip rfl (Fr.le_skip rfl (Fr.le_refl _)))) ?_)
      rw [hk]
      refine g_seq ?_
      refine g_region ?_
      refine rl_v rfl rfl rfl (S := fun _ => True) trivial (v_move rfl) ?_
      first | (refine rl_v rfl rfl rfl (S := fun _ => True) trivial (v_remP rfl rfl (by omega) (by omega)) ?_) | (refine rl_v rfl rfl rfl (S := fun _ => True) trivial (v_rem rfl rfl (by omega)) ?_)
      first | (refine rl_v rfl rfl rfl (S := fun _ => True) trivial (v_convU T.int_32_u64 T.int_3_i64 rfl (by omega) (by omega)) ?_) | (refine rl_v rfl rfl rfl (S := fun _ => True) trivial (v_convInt T.int_32_u64 T.int_3_i64 rfl) ?_)
      refine rl_v rfl rfl rfl (S := fun _ => True) trivial (v_move rfl) ?_
      first | (refine rl_v rfl rfl rfl (S := fun _ => True) trivial (v_remP rfl rfl (by omega) (by omega)) ?_) | (refine rl_v rfl rfl rfl (S := fun _ => True) trivial (v_rem rfl rfl (by omega)) ?_)
      refine rl_v rfl rfl rfl (S := fun _ => True) trivial (v_move rfl) ?_
      refine rl_v rfl rfl rfl (S := fun _ => True) trivial (v_build rfl (T.build_34_0_1_2_3 ..)) ?_
      first | (refine rl_k rfl (k_storeWhole hw T.agg_34_4 rfl rfl (by simp [Value.oneCell']) rfl (by (repeat (first | with_reducible exact Pick.here _ | apply Pick.there)); first | done | fail) rfl (fun w hw => ?_))) | (refine rl_k rfl (k_storeAgg hw T.agg_34_4 rfl rfl (by simp [Value.oneCell']) rfl (by (repeat (first | with_reducible exact Pick.here _ | apply Pick.there)); first | done | fail) rfl rfl (fun w hw => ?_))) | (refine rl_k rfl (k_storeOwnAgg hw T.agg_34_4 rfl rfl (by simp [Value.oneCell']) rfl (by (repeat (first | with_reducible exact Pick.here _ | apply Pick.there)); first | done | fail) (by assumption) (by omega) (fun w hw => ?_)))
      refine rl_nil (g_le (Fr.le_skip rfl (Fr.le_skip rfl (Fr.le_skip rfl (Fr.le_skip rfl (Fr.le_skip rfl (Fr.le_skip rfl (Fr.le_skip rfl (Fr.le_refl _)))))))) ?_)
      refine g_resC Try.func11 rfl ⟨_, rfl, holds_agg (vs := [_, _, _, _]) T.agg_34_4 rfl (by first | exact sat_cells hw (by (repeat (first | with_reducible exact Pick.here _ | apply Pick.there)); first | done | fail) ⟨rfl, rfl, rfl, rfl, trivial⟩ | exact ro_ats hw (by (repeat (first | with_reducible exact Pick.here _ | apply Pick.there)); first | done | fail) (by assumption) | exact own_cells hw (by (repeat (first | with_reducible exact Pick.here _ | apply Pick.there)); first | done | fail) (by assumption) | exact old_cells hw (by (repeat (first | with_reducible exact Pick.here _ | apply Pick.there)); first | done | fail) (by assumption))⟩ ?_
      exact ⟨rfl, hw.sub (by (repeat (first | with_reducible exact Sub.refl _ | exact Sub.nil _ | (apply Sub.cons; focus ((repeat (first | with_reducible exact Pick.here _ | apply Pick.there)); (first | done | fail))) | with_reducible apply Sub.drop)); first | done | fail)⟩
  · try with_reducible exact tf_elim h1
    all_goals
      try replace h1 := of_decide_eq_false h1
      have hk : n.tmod 40 = kOf n := (if_neg h1).symm
      have hkb := kOf_bound n
      rw [hk]
      refine g_skip (g_seq ?_)
      refine g_region ?_
      refine rl_v rfl rfl rfl (S := fun _ => True) trivial (v_move rfl) ?_
      first | (refine rl_v rfl rfl rfl (S := fun _ => True) trivial (v_remP rfl rfl (by omega) (by omega)) ?_) | (refine rl_v rfl rfl rfl (S := fun _ => True) trivial (v_rem rfl rfl (by omega)) ?_)
      first | (refine rl_v rfl rfl rfl (S := fun _ => True) trivial (v_convU T.int_32_u64 T.int_3_i64 rfl (by omega) (by omega)) ?_) | (refine rl_v rfl rfl rfl (S := fun _ => True) trivial (v_convInt T.int_32_u64 T.int_3_i64 rfl) ?_)
      refine rl_v rfl rfl rfl (S := fun _ => True) trivial (v_move rfl) ?_
      first | (refine rl_v rfl rfl rfl (S := fun _ => True) trivial (v_remP rfl rfl (by omega) (by omega)) ?_) | (refine rl_v rfl rfl rfl (S := fun _ => True) trivial (v_rem rfl rfl (by omega)) ?_)
      refine rl_v rfl rfl rfl (S := fun _ => True) trivial (v_move rfl) ?_
      refine rl_v rfl rfl rfl (S := fun _ => True) trivial (v_build rfl (T.build_34_0_1_2_3 ..)) ?_
      first | (refine rl_k rfl (k_storeWhole hw T.agg_34_4 rfl rfl (by simp [Value.oneCell']) rfl (by (repeat (first | with_reducible exact Pick.here _ | apply Pick.there)); first | done | fail) rfl (fun w hw => ?_))) | (refine rl_k rfl (k_storeAgg hw T.agg_34_4 rfl rfl (by simp [Value.oneCell']) rfl (by (repeat (first | with_reducible exact Pick.here _ | apply Pick.there)); first | done | fail) rfl rfl (fun w hw => ?_))) | (refine rl_k rfl (k_storeOwnAgg hw T.agg_34_4 rfl rfl (by simp [Value.oneCell']) rfl (by (repeat (first | with_reducible exact Pick.here _ | apply Pick.there)); first | done | fail) (by assumption) (by omega) (fun w hw => ?_)))
      refine rl_nil (g_le (Fr.le_skip rfl (Fr.le_skip rfl (Fr.le_skip rfl (Fr.le_skip rfl (Fr.le_skip rfl (Fr.le_skip rfl (Fr.le_skip rfl (Fr.le_refl _)))))))) ?_)
      refine g_resC Try.func11 rfl ⟨_, rfl, holds_agg (vs := [_, _, _, _]) T.agg_34_4 rfl (by first | exact sat_cells hw (by (repeat (first | with_reducible exact Pick.here _ | apply Pick.there)); first | done | fail) ⟨rfl, rfl, rfl, rfl, trivial⟩ | exact ro_ats hw (by (repeat (first | with_reducible exact Pick.here _ | apply Pick.there)); first | done | fail) (by assumption) | exact own_cells hw (by (repeat (first | with_reducible exact Pick.here _ | apply Pick.there)); first | done | fail) (by assumption) | exact old_cells hw (by (repeat (first | with_reducible exact Pick.here _ | apply Pick.there)); first | done | fail) (by assumption))⟩ ?_
      exact ⟨rfl, hw.sub (by (repeat (first | with_reducible exact Sub.refl _ | exact Sub.nil _ | (apply Sub.cons; focus ((repeat (first | with_reducible exact Pick.here _ | apply Pick.there)); (first | done | fail))) | with_reducible apply Sub.drop)); first | done | fail)⟩
theorem short_calls {E : Env} {w : World} {L : List As} (a : Option Addr) (n c : Nat) (m : Int) (h0 : 0 ≤ m) (hc : n ≤ c) (hw : Sat E w L) :
    Calls Try.prog 16 #[.slice a n c, .int .i64 m] w fun e w' => e = .returned (.slice a (min n m.toNat) c) ∧ Sat E w' L := by
  refine calls_of_g (n := 13) Try.func16 rfl rfl rfl ?_
  change G _ _ _ _ _ [(0, _), (1, _)] _
  refine g_seq ?_
  refine g_region ?_
  refine rl_v rfl rfl rfl (S := fun _ => True) trivial (v_assign rfl) ?_
  refine rl_nil (g_le (Fr.le_keep (Fr.le_refl _)) ?_)
  refine g_seq (g_seq ?_)
  refine g_region ?_
  refine rl_v rfl rfl rfl (S := fun _ => True) trivial (v_move rfl) ?_
  refine rl_v rfl rfl rfl (S := fun _ => True) trivial (v_lenSlice T.sl_45_49_6 rfl) ?_
  refine rl_v rfl rfl rfl (S := fun _ => True) trivial (v_move rfl) ?_
  first | (refine rl_v rfl rfl rfl (S := fun _ => True) trivial (v_gtrT rfl rfl (by omega)) ?_) | (refine rl_v rfl rfl rfl (S := fun _ => True) trivial (v_gtrF rfl rfl (by omega)) ?_) | (refine rl_v rfl rfl rfl (S := fun _ => True) trivial (v_gtr rfl rfl) ?_)
  refine rl_nil (g_le (Fr.le_keep (Fr.le_skip rfl (Fr.le_skip rfl (Fr.le_skip rfl (Fr.le_refl _))))) ?_)
  refine g_cond rfl (fun h1 => ?_) (fun h1 => ?_)
  · try with_reducible exact ft_elim h1
    all_goals
      try replace h1 := of_decide_eq_true h1
      refine g_seq ?_
      refine g_region ?_
      refine rl_v rfl rfl rfl (S := fun _ => True) trivial (v_move rfl) ?_
      refine rl_v rfl rfl rfl (S := fun _ => True) trivial (v_move rfl) ?_
      refine rl_v rfl rfl rfl (S := fun _ => True) trivial (v_sliceTo T.sl_45_49_6 rfl rfl (by omega) (by omega)) ?_
      refine rl_v rfl rfl rfl (S := fun _ => True) trivial (v_assign rfl) ?_
      refine rl_nil (g_le (Fr.le_keep (Fr.le_skip rfl (Fr.le_skip rfl (Fr.le_skip rfl (Fr.le_refl _))))) ?_)
      refine g_ret1 Try.func16 rfl rfl ?_
      exact ⟨by rw [Nat.min_eq_right (by omega)], hw⟩
  · try with_reducible exact tf_elim h1
    all_goals
      try replace h1 := of_decide_eq_false h1
      refine g_skip (g_seq ?_)
      refine g_region ?_
      refine rl_v rfl rfl rfl (S := fun _ => True) trivial (v_move rfl) ?_
      refine rl_v rfl rfl rfl (S := fun _ => True) trivial (v_assign rfl) ?_
      refine rl_nil (g_le (Fr.le_keep (Fr.le_skip rfl (Fr.le_refl _))) ?_)
      refine g_ret1 Try.func16 rfl rfl ?_
      exact ⟨by rw [Nat.min_eq_left (by omega)], hw⟩
def refsOf (l : List Int) : List Rf := (l.take 40).map ofR
theorem refsOf_len (l : List Int) : (refsOf l).length ≤ 40 := by simp [refsOf]; omega
theorem refsOf_more {l : List Int} {i : Nat} {r : Int} (hx : l[i]? = some r) (hi : i < 40) : refsOf (l.take (i + 1)) = refsOf (l.take i) ++ [ofR r] := by
  unfold refsOf
  rw [List.take_take, List.take_take, Nat.min_eq_right (by omega), Nat.min_eq_right (by omega), List.take_add_one, hx]
  simp
theorem refsOf_same {l : List Int} {i : Nat} (hi : 40 ≤ i) : refsOf (l.take (i + 1)) = refsOf (l.take i) := by
  unfold refsOf
  rw [List.take_take, List.take_take, Nat.min_eq_left (by omega), Nat.min_eq_left hi]
/-- The references of a list of numbers: in memory that stands. -/
theorem refs_calls {E : Env} {w : World} {L : List As} {g : Hp} {a : Option Addr} {n c : Nat} {l : List Int} (hl : (rdSl 8 1 (rdInt .i64)) g [.slice a n c] l) (hw : Sat E w (RO g :: L)) :
    Calls Try.prog 20 #[.slice a n c] w fun e w' => ∃ g' a' m k, g.le g' ∧ e = .returned (.slice a' m k) ∧ (rdSl 32 4 rdRf) g' [.slice a' m k] (refsOf l) ∧ Sat E w' (RO g' :: L) := by
  obtain ⟨rfl, hb1, hc1, hm1, g1⟩ := rdSl_get hl
  simp only [reachBytes] at hb1
  refine calls_of_g (n := 22) Try.func20 rfl rfl rfl ?_
  change G _ _ _ _ _ [(0, _)] _
  refine g_seq ?_
  refine g_region ?_
  refine rl_v rfl rfl rfl (S := fun _ => True) trivial (v_assign rfl) ?_
  refine rl_nil (g_le (Fr.le_keep (Fr.le_refl _)) ?_)
  refine g_seq ?_
  refine g_region ?_
  refine rl_v rfl rfl rfl (S := fun _ => True) trivial (v_assign rfl) ?_
  refine rl_nil (g_le (Fr.le_keep (Fr.le_refl _)) ?_)
  refine g_seq (g_seq ?_)
  refine g_region ?_
  refine rl_v rfl rfl rfl (S := fun _ => True) trivial (v_move rfl) ?_
  refine rl_v rfl rfl rfl (S := fun _ => True) trivial (v_lenSlice T.sl_46_3_1 rfl) ?_
  refine rl_v rfl rfl rfl (S := fun _ => True) trivial (v_move rfl) ?_
  refine rl_nil (g_le (Fr.le_keep (Fr.le_keep (Fr.le_keep (Fr.le_refl _)))) ?_)
  refine g_block ?_
  refine g_loopC (σ := Int × Value) (fun C x => (8, .int .i64 x.1) :: (3, x.2) :: C) [(2, _), (6, _), (7, _)] (by repeat (first | exact Fr.le_nil _ | refine Fr.le_cons rfl ?_)) (fun z w => 0 ≤ z.1 ∧ z.1 ≤ l.length ∧ Sat E w (OwnSl 34 4 z.2 (refsOf (l.take z.1.toNat)).length ((refsOf (l.take z.1.toNat)).flatMap Rf.cells) :: RO g :: L)) (fun z => (l.length - z.1).toNat) ?_ (0, .slice none 0 0) (by repeat (first | exact Fr.le_nil _ | refine Fr.le_cons rfl ?_)) ⟨by simp, by simp, hw.own_nil _ _⟩
  rintro ⟨i, v⟩ w ⟨hi0, hi1, hw⟩ ih
  dsimp only at hi0 hi1 hw ⊢
  refine g_seq ?_
  refine g_region ?_
  first | (refine rl_v rfl rfl rfl (S := fun _ => True) trivial (v_lssT rfl rfl (by omega)) ?_) | (refine rl_v rfl rfl rfl (S := fun _ => True) trivial (v_lssF rfl rfl (by omega)) ?_) | (refine rl_v rfl rfl rfl (S := fun _ => True) trivial (v_lss rfl rfl) ?_)
  refine rl_nil (g_le (Fr.le_keep (Fr.le_refl _)) ?_)
  refine g_seq ?_
  refine g_cond rfl (fun h1 => ?_) (fun h1 => ?_)
  · try with_reducible exact ft_elim h1
    all_goals
      try replace h1 := of_decide_eq_true h1
      refine g_skip (g_seq (g_block (g_seq ?_)))
      have hz := hw
      clear hw
      obtain ⟨b4, o1, r, ecs, rfl, hx, hat1, hl1, hrr, hrok⟩ := g1 i hi0 (by omega)
      subst hrr
      have hw := hz
      obtain ⟨va, vc, rfl, _, _, _⟩ := hw.own_shape
      have hrl := refsOf_len (l.take i.toNat)
      refine g_region ?_
      refine rl_v rfl rfl rfl (S := fun _ => True) trivial (v_move rfl) ?_
      refine rl_v rfl rfl rfl (S := fun _ => True) trivial (v_indexAddr T.sl_46_3_1 rfl rfl (by omega) (by omega)) ?_
      refine rl_v rfl rfl rfl (by first | exact sat_cell hw (by (repeat (first | with_reducible exact Pick.here _ | apply Pick.there)); first | done | fail) rfl | exact own_cell hw (by (repeat (first | with_reducible exact Pick.here _ | apply Pick.there)); first | done | fail) (by first | rfl | assumption) | exact ro_at0 hw (by (repeat (first | with_reducible exact Pick.here _ | apply Pick.there)); first | done | fail) (by assumption) rfl | exact ro_at hw (by (repeat (first | with_reducible exact Pick.here _ | apply Pick.there)); first | done | fail) (by assumption) rfl | exact own_at0 hw (by (repeat (first | with_reducible exact Pick.here _ | apply Pick.there)); first | done | fail) (by assumption) rfl | exact own_at hw (by (repeat (first | with_reducible exact Pick.here _ | apply Pick.there)); first | done | fail) (by assumption) rfl | exact old_cell hw (by (repeat (first | with_reducible exact Pick.here _ | apply Pick.there)); first | done | fail) (by assumption) | assumption) (v_load T.scal_3 rfl) ?_
      refine rl_v rfl rfl rfl (S := fun _ => True) trivial (v_assign rfl) ?_
      refine rl_v rfl rfl rfl (S := fun _ => True) trivial (v_assign rfl) ?_
      refine rl_nil (g_le (Fr.le_keep (Fr.le_keep (Fr.le_keep (Fr.le_keep (Fr.le_keep (Fr.le_refl _)))))) ?_)
      refine g_seq ?_
      refine g_region ?_
      refine rl_v rfl rfl rfl (S := fun _ => True) trivial (v_move rfl) ?_
      first | (refine rl_v rfl rfl rfl (S := fun _ => True) trivial (v_lssT rfl rfl (by omega)) ?_) | (refine rl_v rfl rfl rfl (S := fun _ => True) trivial (v_lssF rfl rfl (by omega)) ?_) | (refine rl_v rfl rfl rfl (S := fun _ => True) trivial (v_lss rfl rfl) ?_)
      refine rl_nil (g_le (Fr.le_keep (Fr.le_keep (Fr.le_refl _))) ?_)
      refine g_cond rfl (fun h2 => ?_) (fun h2 => ?_)
      · try with_reducible exact ft_elim h2
        all_goals
          try replace h2 := of_decide_eq_true h2
          have hre : refsOf (l.take (i + 1).toNat) = refsOf (l.take i.toNat) ++ [ofR r] := by rw [show (i + 1).toNat = i.toNat + 1 by omega]; exact refsOf_more hx (by omega)
          refine g_region ?_
          refine rl_v rfl rfl rfl (S := fun _ => True) trivial (v_move rfl) ?_
          refine rl_v rfl rfl rfl (S := fun _ => True) trivial (v_move rfl) ?_
          refine rl_k rfl (k_callf Try.func11 rfl rfl rfl rfl ?_)
          refine Calls.mono (of_calls r hw) ?_
          rintro _ w ⟨rfl, hw⟩
          refine ⟨_, rfl, ?_⟩
          refine rl_k rfl (k_buildSlice (cells := [_, _, _, _]) hw T.sl_53_34_4 T.zero_34 rfl rfl rfl rfl rfl rfl (fun bk6_3 w hw => ?_))
          refine rl_k rfl (k_append (news := [_, _, _, _]) hw T.sl_53_34_4 T.zero_34 T.bytes_34_32 rfl (by decide) rfl rfl (by (repeat (first | with_reducible exact Pick.here _ | apply Pick.there)); first | done | fail) rfl (by first | exact sat_cells hw (by (repeat (first | with_reducible exact Pick.here _ | apply Pick.there)); first | done | fail) ⟨rfl, rfl, rfl, rfl, trivial⟩ | exact old_cells hw (by (repeat (first | with_reducible exact Pick.here _ | apply Pick.there)); first | done | fail) (by assumption)) (by simp [Value.oneCell']) (by omega) (by simp only [maxLen]; omega) rfl (fun vv6_4 w hw hnil => ?_))
          refine rl_v rfl rfl rfl (S := fun _ => True) trivial (v_assign rfl) ?_
          refine rl_nil (g_le (Fr.le_keep (Fr.le_keep (Fr.le_keep (Fr.le_keep (Fr.le_keep (Fr.le_keep (Fr.le_refl _))))))) ?_)
          refine g_inBlock ?_
          refine g_region ?_
          first | (refine rl_v rfl rfl rfl (S := fun _ => True) trivial (v_add rfl rfl (by omega)) ?_) | (refine rl_v rfl rfl rfl (S := fun _ => True) trivial (v_addW rfl rfl) ?_)
          refine rl_v rfl rfl rfl (S := fun _ => True) trivial (v_move rfl) ?_
          refine rl_nil (g_le (Fr.le_keep (Fr.le_keep (Fr.le_refl _))) ?_)
          first | exact g_le (by repeat (first | exact Fr.le_nil _ | refine Fr.le_cons rfl ?_)) (ih (i + 1, vv6_4) w ⟨by simp only; omega, by simp only; omega, by dsimp only; rw [hre, List.length_append, List.flatMap_append]; simpa using hw.sub (by (repeat (first | with_reducible exact Sub.refl _ | exact Sub.nil _ | (apply Sub.cons; focus ((repeat (first | with_reducible exact Pick.here _ | apply Pick.there)); (first | done | fail))) | with_reducible apply Sub.drop)); first | done | fail)⟩ (by simp only; omega)) | exact g_le (by repeat (first | exact Fr.le_nil _ | refine Fr.le_cons rfl ?_)) (ih (i + 1, .slice va (refsOf (l.take i.toNat)).length vc) w ⟨by simp only; omega, by simp only; omega, by dsimp only; rw [hre]; exact hw⟩ (by simp only; omega))
      · try with_reducible exact tf_elim h2
        all_goals
          try replace h2 := of_decide_eq_false h2
          have hre : refsOf (l.take (i + 1).toNat) = refsOf (l.take i.toNat) := by rw [show (i + 1).toNat = i.toNat + 1 by omega]; exact refsOf_same (by omega)
          refine g_skip (g_inBlock ?_)
          refine g_region ?_
          first | (refine rl_v rfl rfl rfl (S := fun _ => True) trivial (v_add rfl rfl (by omega)) ?_) | (refine rl_v rfl rfl rfl (S := fun _ => True) trivial (v_addW rfl rfl) ?_)
          refine rl_v rfl rfl rfl (S := fun _ => True) trivial (v_move rfl) ?_
          refine rl_nil (g_le (Fr.le_keep (Fr.le_keep (Fr.le_refl _))) ?_)
          first | exact g_le (by repeat (first | exact Fr.le_nil _ | refine Fr.le_cons rfl ?_)) (ih (i + 1, vv6_4) w ⟨by simp only; omega, by simp only; omega, by dsimp only; rw [hre, List.length_append, List.flatMap_append]; simpa using hw.sub (by (repeat (first | with_reducible exact Sub.refl _ | exact Sub.nil _ | (apply Sub.cons; focus ((repeat (first | with_reducible exact Pick.here _ | apply Pick.there)); (first | done | fail))) | with_reducible apply Sub.drop)); first | done | fail)⟩ (by simp only; omega)) | exact g_le (by repeat (first | exact Fr.le_nil _ | refine Fr.le_cons rfl ?_)) (ih (i + 1, .slice va (refsOf (l.take i.toNat)).length vc) w ⟨by simp only; omega, by simp only; omega, by dsimp only; rw [hre]; exact hw⟩ (by simp only; omega))
  · try with_reducible exact tf_elim h1
    all_goals
      try replace h1 := of_decide_eq_false h1
      refine g_exit rfl (g_seq ?_)
      obtain ⟨va, vc, rfl, _, _, _⟩ := hw.own_shape
      refine g_region ?_
      refine rl_v rfl rfl rfl (S := fun _ => True) trivial (v_move rfl) ?_
      refine rl_v rfl rfl rfl (S := fun _ => True) trivial (v_assign rfl) ?_
      refine rl_nil (g_le (Fr.le_keep (Fr.le_skip rfl (Fr.le_refl _))) ?_)
      refine g_ret1 Try.func20 rfl rfl ?_
      rw [show i.toNat = l.length by omega, List.take_length] at hw
      rw [show i.toNat = l.length by omega, List.take_length]
      have hlen := refsOf_len l
      obtain ⟨g', hg', hrd, hw⟩ := (hw.pick .at1).freeze_sl (bytes := 32) mono_Rf (els_of (f := Rf.cells) (R := rdRf) (fun x => rfl) (fun x hx => by obtain ⟨y, _, rfl⟩ := List.mem_map.1 hx; exact ⟨rfl, ofR_ok y⟩)) rfl (by simp only [reachBytes]; omega)
      exact ⟨g', _, _, _, hg', rfl, hrd, hw⟩
end Go.Proofs.Ytnkddbbcfolcdaa
