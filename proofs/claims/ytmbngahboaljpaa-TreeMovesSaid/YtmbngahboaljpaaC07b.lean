/-
  Parts of the search tree: rows copied and put together, halves.
-/
import Derived.Test.YtmbngahboaljpaaC07
namespace Go.Proofs.Ytmbngahboaljpaa
set_option maxRecDepth 8000
set_option linter.unusedSimpArgs false
set_option linter.unusedVariables false
open Go Xe
def Nd.small (x : Nd) : Prop := x.entries.length ≤ 4 ∧ x.kids.length ≤ 4 ∧ (x.leaf = true → x.kids = []) ∧ (x.leaf = false → x.entries = [])
def Nd.mid (x : Nd) : Prop := x.entries.length ≤ 8 ∧ x.kids.length ≤ 8
theorem Nd.small.mid {x : Nd} (h : x.small) : x.mid := ⟨Nat.le_trans h.1 (by omega), Nat.le_trans h.2.1 (by omega)⟩
theorem cloneEn_calls {E : Env} {w : World} {L : List As} {g : Hp} {v : Value} {xs : List En} (hv1 : (rdSl 40 2 rdEn) g [v] xs) (hw : Sat E w (RO g :: L)) :
    Calls Try.prog 87 #[v] w fun e w' => ∃ v cells, e = .returned v ∧ Els rdEn 2 g cells xs ∧ Sat E w' (OwnSl 49 2 v xs.length cells :: RO g :: L) := by
  obtain ⟨a1, n1, k1, rfl⟩ := rdSl_shape hv1
  obtain ⟨rfl, hle, hm, hb, cells, hels, hsrc⟩ := rdSl_cells hv1
  have hlen := hels.len
  have hone := hels.ones one_En
  simp only [reachBytes] at hb
  simp only [maxLen] at hm
  refine calls_of_g (n := 8) Try.func87 rfl rfl rfl ?_
  change G _ _ _ _ _ [(0, _)] _
  refine g_seq ?_
  refine g_region ?_
  refine xV rfl rfl rfl (v_assign rfl) ?_
  refine rl_nil (g_le (xK (Fr.le_refl _)) ?_)
  refine g_seq (g_seq ?_)
  refine g_region ?_
  refine xV rfl rfl rfl (v_move rfl) ?_
  refine xV rfl rfl rfl (v_eqlSlNil T.sl_29_49_2 rfl rfl) ?_
  refine rl_nil (g_le (xK (xS rfl (Fr.le_refl _))) ?_)
  refine g_cond rfl (fun h1 => ?_) (fun h1 => ?_)
  · try with_reducible exact ft_elim h1
    all_goals
      try replace h1 := of_decide_eq_true h1
      have h0 : xs.length = 0 := by (rcases hsrc with h | ⟨b, o, h, _⟩ <;> first | exact h | (subst h; cases h1))
      refine g_seq ?_
      refine g_region ?_
      refine xV rfl rfl rfl (v_assign rfl) ?_
      refine rl_nil (g_le (xK (Fr.le_refl _)) ?_)
      refine g_ret1 Try.func87 rfl rfl ?_
      refine ⟨_, [], rfl, ?_⟩
      have hx := List.eq_nil_of_length_eq_zero h0
      subst hx
      exact ⟨.nil, hw.own_nil _ _⟩
  · try with_reducible exact tf_elim h1
    all_goals
      try replace h1 := of_decide_eq_false h1
      refine g_skip (g_seq ?_)
      refine g_region ?_
      refine rl_k rfl (k_buildSlice0 hw T.sl_29_49_2 T.zero_49 rfl (fun bk3_0 w hw => ?_))
      refine xV rfl rfl rfl (v_move rfl) ?_
      refine rl_k rfl (k_appendS hw T.sl_29_49_2 T.zero_49 T.bytes_49_40 rfl (by decide) rfl rfl (by (repeat first | with_reducible exact xH | apply xT); first | done | fail) (by assumption) (by exact ro_src hw (by (repeat first | with_reducible exact xH | apply xT); first | done | fail) (by assumption) (by assumption)) (by assumption) (by omega) (by simp only [maxLen] at *; omega) rfl (fun vv3_2 w hw hnil => ?_))
      rw [Nat.zero_add, List.nil_append] at hw
      refine xV rfl rfl rfl (v_assign rfl) ?_
      refine rl_nil (g_le (xK (xS rfl (xS rfl (xS rfl (Fr.le_refl _))))) ?_)
      refine g_ret1 Try.func87 rfl rfl ?_
      exact ⟨_, cells, rfl, hels, hw.xQ⟩
theorem growEn_calls {E : Env} {w : World} {L : List As} (n : Nat) (hb : n ≤ 1000000) (hw : Sat E w L) :
    Calls Try.prog 99 #[.slice none 0 0, .int .i64 n] w fun e w' => ∃ v, e = .returned v ∧ Sat E w' (OwnSl 49 2 v 0 [] :: L) := by
  have hw := hw.own_nil 49 2
  refine calls_of_g (n := 27) Try.func99 rfl rfl rfl ?_
  change G _ _ _ _ _ [(0, _), (1, _)] _
  refine g_seq ?_
  refine g_region ?_
  refine xV rfl rfl rfl (v_assign rfl) ?_
  refine rl_nil (g_le (xK (Fr.le_refl _)) ?_)
  refine g_seq (g_seq ?_)
  refine g_region ?_
  refine xV rfl rfl rfl (v_move rfl) ?_
  refine xV rfl rfl rfl (v_lssF rfl rfl (by omega)) ?_
  refine rl_nil (g_le (xK (xS rfl (Fr.le_refl _))) ?_)
  refine g_cond_false rfl ?_
  refine g_skip (g_seq (g_seq ?_))
  refine g_region ?_
  refine xV rfl rfl rfl (v_move rfl) ?_
  refine xV rfl rfl rfl (v_move rfl) ?_
  refine xV rfl rfl rfl (v_capSlice T.sl_29_49_2 rfl) ?_
  refine xV rfl rfl rfl (v_move rfl) ?_
  refine xV rfl rfl rfl (v_lenSlice T.sl_29_49_2 rfl) ?_
  refine xV rfl rfl rfl (v_sub rfl rfl (by omega)) ?_
  refine xV rfl rfl rfl (v_sub rfl rfl (by omega)) ?_
  refine xV rfl rfl rfl (v_assign rfl) ?_
  refine rl_nil (g_le (xK (xS rfl (xS rfl (xS rfl (xS rfl (xS rfl (xS rfl (xS rfl (Fr.le_refl _))))))))) ?_)
  refine g_seq ?_
  refine g_region ?_
  refine xV rfl rfl rfl (v_move rfl) ?_
  refine xV rfl rfl rfl (v_gtr rfl rfl) ?_
  refine rl_nil (g_le (xK (xS rfl (Fr.le_refl _))) ?_)
  refine g_cond rfl (fun h2 => ?_) (fun h2 => ?_)
  · try with_reducible exact ft_elim h2
    all_goals
      try replace h2 := of_decide_eq_true h2
      refine g_region ?_
      refine xV rfl rfl rfl (v_move rfl) ?_
      refine xV rfl rfl rfl (v_move rfl) ?_
      refine xV rfl rfl rfl (v_capSlice T.sl_29_49_2 rfl) ?_
      refine xV rfl rfl rfl (v_sliceTo T.sl_29_49_2 rfl rfl (by omega) (by omega)) ?_
      refine xV rfl rfl rfl (v_move rfl) ?_
      refine rl_k rfl (k_appendZ (k := n) (m := 0) (n' := 0) (xs := []) hw T.sl_29_49_2 T.int_3_i64 T.zero_49 T.bytes_49_40 rfl (by decide) rfl rfl (by omega) (by (repeat first | with_reducible exact xH | apply xT); first | done | fail) (by omega) (by omega) (by omega) (by omega) (by simp only [maxLen]; omega) rfl (fun bk5_5 cc5_5 zz5_5 w hzl hw => ?_))
      refine xV rfl rfl rfl (v_move rfl) ?_
      refine xV rfl rfl rfl (v_lenSlice T.sl_29_49_2 rfl) ?_
      refine xV rfl rfl rfl (v_sliceTo T.sl_29_49_2 rfl rfl (by omega) (by omega)) ?_
      refine xV rfl rfl rfl (v_assign rfl) ?_
      refine rl_nil (g_le (xK (xS rfl (xS rfl (xS rfl (xS rfl (xS rfl (xS rfl (xS rfl (xS rfl (xS rfl (Fr.le_refl _))))))))))) ?_)
      refine g_seq ?_
      refine g_region ?_
      refine xV rfl rfl rfl (v_move rfl) ?_
      refine xV rfl rfl rfl (v_assign rfl) ?_
      refine rl_nil (g_le (xK (xS rfl (Fr.le_refl _))) ?_)
      refine g_ret1 Try.func99 rfl rfl ?_
      refine ⟨_, rfl, ?_⟩
      have h9 := hw.own_take (j := 0) (by omega); simp only [Nat.zero_mul, List.take_zero] at h9; rw [show (((0 : Nat) : Int)).toNat = 0 from rfl]; exact h9.xQ
  · try with_reducible exact tf_elim h2
    all_goals
      try replace h2 := of_decide_eq_false h2
      refine g_skip (g_seq ?_)
      refine g_region ?_
      refine xV rfl rfl rfl (v_move rfl) ?_
      refine xV rfl rfl rfl (v_assign rfl) ?_
      refine rl_nil (g_le (xK (xS rfl (Fr.le_refl _))) ?_)
      refine g_ret1 Try.func99 rfl rfl ?_
      refine ⟨_, rfl, ?_⟩
      exact hw.xQ
theorem concatEn_calls {E : Env} {w : World} {L : List As} {g : Hp} {b m c : Nat} {vs : List Value} {xss : List (List En)} (hl : vs.length = xss.length) (hm : m = vs.length) (hb : m ≤ 1000) (hs : ∀ xs ∈ xss, xs.length ≤ 1000) (hr : ∀ (i : Nat) v xs, vs[i]? = some v → xss[i]? = some xs → (rdSl 40 2 rdEn) g [v] xs)
    (hw : Sat E w (OwnSl 29 1 (.slice (some ⟨b, 0, none⟩) m c) m vs :: RO g :: L)) :
    Calls Try.prog 95 #[.slice (some ⟨b, 0, none⟩) m c] w fun e w' => ∃ v cells, e = .returned v ∧ Els rdEn 2 g cells xss.flatten ∧ Sat E w' (OwnSl 49 2 v xss.flatten.length cells :: RO g :: L) := by
  have hfl : ∀ k, (xss.take k).flatten.length ≤ k * 1000 := by
    intro k
    induction k with
    | zero => simp
    | succ k ih =>
      rw [List.take_add_one, List.flatten_append, List.length_append]
      cases hx : xss[k]? with
      | none => simp only [Option.toList_none, List.flatten_nil, List.length_nil]; omega
      | some xs =>
        have := hs xs (List.mem_of_getElem? hx)
        simp only [Option.toList_some, List.flatten_cons, List.flatten_nil, List.append_nil]; omega
  have hnx : ∀ (i : Nat) xs, xss[i]? = some xs → (xss.take (i + 1)).flatten = (xss.take i).flatten ++ xs := by
    intro i xs hx
    rw [List.take_add_one, List.flatten_append, hx]; simp
  refine calls_of_g (n := 36) Try.func95 rfl rfl rfl ?_
  change G _ _ _ _ _ [(0, _)] _
  refine g_seq ?_
  refine g_region ?_
  refine xV rfl rfl rfl (v_assign rfl) ?_
  refine rl_nil (g_le (xK (Fr.le_refl _)) ?_)
  refine g_seq ?_
  refine g_region ?_
  refine xV rfl rfl rfl (v_assign rfl) ?_
  refine rl_nil (g_le (xK (Fr.le_refl _)) ?_)
  refine g_seq (g_seq ?_)
  refine g_region ?_
  refine xV rfl rfl rfl (v_move rfl) ?_
  refine xV rfl rfl rfl (v_lenSlice T.sl_165_29_1 rfl) ?_
  refine xV rfl rfl rfl (v_move rfl) ?_
  refine rl_nil (g_le (xK (xK (xK (Fr.le_refl _)))) ?_)
  refine g_block ?_
  refine g_loopC (σ := Int) (fun C x => (11, .int .i64 x) :: (3, .int .i64 ((xss.take x.toNat).flatten.length : Nat)) :: C) [(0, _), (2, _), (9, _), (10, _)] (by repeat (first | exact Fr.le_nil _ | refine Fr.le_cons rfl ?_)) (fun z w => 0 ≤ z ∧ z ≤ m ∧ Sat E w (OwnSl 29 1 (.slice (some ⟨b, 0, none⟩) m c) m vs :: RO g :: L)) (fun z => (m - z).toNat) ?_ 0 (by repeat (first | exact Fr.le_nil _ | refine Fr.le_cons rfl ?_)) ⟨by omega, by omega, hw⟩
  rintro i w ⟨hi0, hi1, hw⟩ ih
  refine g_seq ?_
  refine g_region ?_
  refine xV rfl rfl rfl (v_lss rfl rfl) ?_
  refine rl_nil (g_le (xK (Fr.le_refl _)) ?_)
  refine g_seq ?_
  refine g_cond rfl (fun h1 => ?_) (fun h1 => ?_)
  · try with_reducible exact ft_elim h1
    all_goals
      try replace h1 := of_decide_eq_true h1
      refine g_skip (g_seq (g_block (g_seq ?_)))
      have hz := hw
      clear hw
      obtain ⟨v, hv⟩ : ∃ v, vs[i.toNat]? = some v := ⟨_, List.getElem?_eq_getElem (by omega)⟩
      obtain ⟨xs, hx⟩ : ∃ xs, xss[i.toNat]? = some xs := ⟨_, List.getElem?_eq_getElem (by omega)⟩
      have hrd := hr _ _ _ hv hx
      obtain ⟨a1, n1, c1, rfl⟩ := rdSl_shape hrd
      obtain ⟨rfl, _, _, _, _⟩ := rdSl_get hrd
      have hv0 : vs[0 + i.toNat * 1]? = some (.slice a1 xs.length c1) := by rw [Nat.zero_add, Nat.mul_one]; exact hv
      have hxl := hs xs (List.mem_of_getElem? hx)
      have hf1 := hfl i.toNat
      have hn1 := hnx _ _ hx
      have hw := hz
      refine g_region ?_
      refine xV rfl rfl rfl (v_indexAddr T.sl_165_29_1 rfl rfl (by omega) (by omega)) ?_
      refine rl_v rfl rfl rfl (by exact own_cell hw (by (repeat first | with_reducible exact xH | apply xT); first | done | fail) (by first | rfl | assumption)) (v_load T.scal_29 rfl) ?_
      refine xV rfl rfl rfl (v_assign rfl) ?_
      refine rl_nil (g_le (xK (xK (xK (Fr.le_refl _)))) ?_)
      refine g_seq ?_
      refine g_region ?_
      refine xV rfl rfl rfl (v_move rfl) ?_
      refine xV rfl rfl rfl (v_move rfl) ?_
      refine xV rfl rfl rfl (v_lenSlice T.sl_29_49_2 rfl) ?_
      refine xV rfl rfl rfl (v_add rfl rfl (by omega)) ?_
      refine xV rfl rfl rfl (v_assign rfl) ?_
      refine rl_nil (g_le (xK (xK (xK (xK (xK (Fr.le_refl _)))))) ?_)
      refine g_seq ?_
      refine g_region ?_
      refine xV rfl rfl rfl (v_move rfl) ?_
      refine xV rfl rfl rfl (v_lssF rfl rfl (by omega)) ?_
      refine rl_nil (g_le (xK (xK (Fr.le_refl _))) ?_)
      refine g_cond_false rfl ?_
      refine g_skip (g_inBlock ?_)
      refine g_region ?_
      refine xV rfl rfl rfl (v_add rfl rfl (by omega)) ?_
      refine xV rfl rfl rfl (v_move rfl) ?_
      refine rl_nil (g_le (xK (xK (Fr.le_refl _))) ?_)
      have e9 : (((xss.take (i + 1).toNat).flatten.length : Nat) : Int) = ((xss.take i.toNat).flatten.length : Nat) + (xs.length : Nat) := by rw [show (i + 1).toNat = i.toNat + 1 by omega, hn1, List.length_append]; omega
      rw [← e9]
      exact g_le (by repeat (first | exact Fr.le_nil _ | refine Fr.le_cons rfl ?_)) (ih (i + 1) w ⟨by omega, by omega, hw⟩ (by omega))
  · try with_reducible exact tf_elim h1
    all_goals
      try replace h1 := of_decide_eq_false h1
      refine g_exit rfl (g_seq ?_)
      have hf2 := hfl i.toNat
      refine g_region ?_
      refine xV rfl rfl rfl (v_move rfl) ?_
      refine rl_k rfl (k_callf Try.func99 rfl rfl rfl rfl ?_)
      refine Calls.mono (growEn_calls _ (by omega) (hw.xQ)) ?_
      rintro _ w ⟨nv, rfl, hw⟩
      refine ⟨_, rfl, ?_⟩
      refine xV rfl rfl rfl (v_assign rfl) ?_
      refine rl_nil (g_le (xK (xS rfl (xS rfl (Fr.le_refl _)))) ?_)
      refine g_seq (g_seq ?_)
      refine g_region ?_
      refine xV rfl rfl rfl (v_move rfl) ?_
      refine xV rfl rfl rfl (v_lenSlice T.sl_165_29_1 rfl) ?_
      refine xV rfl rfl rfl (v_move rfl) ?_
      refine rl_nil (g_le (xK (xK (xK (Fr.le_refl _)))) ?_)
      refine g_block ?_
      refine g_loopC (σ := Int × Value × List Value) (fun C x => (27, .int .i64 x.1) :: (6, x.2.1) :: C) [(2, _), (25, _), (26, _)] (by repeat (first | exact Fr.le_nil _ | refine Fr.le_cons rfl ?_)) (fun z w => 0 ≤ z.1 ∧ z.1 ≤ m ∧ Els rdEn 2 g z.2.2 (xss.take z.1.toNat).flatten ∧ Sat E w (OwnSl 49 2 z.2.1 (xss.take z.1.toNat).flatten.length z.2.2 :: OwnSl 29 1 (.slice (some ⟨b, 0, none⟩) m c) m vs :: RO g :: L)) (fun z => (m - z.1).toNat) ?_ (0, nv, []) (by repeat (first | exact Fr.le_nil _ | refine Fr.le_cons rfl ?_)) ⟨by simp, by simp, by simpa using Els.nil, by simpa using hw⟩
      rintro ⟨j, nv, cells⟩ w ⟨hj0, hj1, hels, hw⟩ ih2
      dsimp only at hj0 hj1 hels hw ⊢
      refine g_seq ?_
      refine g_region ?_
      refine xV rfl rfl rfl (v_lss rfl rfl) ?_
      refine rl_nil (g_le (xK (Fr.le_refl _)) ?_)
      refine g_seq ?_
      refine g_cond rfl (fun h3 => ?_) (fun h3 => ?_)
      · try with_reducible exact ft_elim h3
        all_goals
          try replace h3 := of_decide_eq_true h3
          refine g_skip (g_seq (g_block (g_seq ?_)))
          have hz := hw
          clear hw
          obtain ⟨v, hv⟩ : ∃ v, vs[j.toNat]? = some v := ⟨_, List.getElem?_eq_getElem (by omega)⟩
          obtain ⟨xs, hx⟩ : ∃ xs, xss[j.toNat]? = some xs := ⟨_, List.getElem?_eq_getElem (by omega)⟩
          have hrd := hr _ _ _ hv hx
          obtain ⟨a1, n1, c1, rfl⟩ := rdSl_shape hrd
          obtain ⟨rfl, hle9, hm9, hb9, news, hels9, hsrc9⟩ := rdSl_cells hrd
          have hv0 : vs[0 + j.toNat * 1]? = some (.slice a1 xs.length c1) := by rw [Nat.zero_add, Nat.mul_one]; exact hv
          have hxl := hs xs (List.mem_of_getElem? hx)
          have hf1 := hfl j.toNat
          have hn1 := hnx _ _ hx
          have hlen := hels9.len
          have hone := hels9.ones one_En
          have hw := hz
          refine g_region ?_
          refine xV rfl rfl rfl (v_indexAddr T.sl_165_29_1 rfl rfl (by omega) (by omega)) ?_
          refine rl_v rfl rfl rfl (by exact own_cell hw (by (repeat first | with_reducible exact xH | apply xT); first | done | fail) (by first | rfl | assumption)) (v_load T.scal_29 rfl) ?_
          refine xV rfl rfl rfl (v_assign rfl) ?_
          refine rl_nil (g_le (xK (xK (xK (Fr.le_refl _)))) ?_)
          refine g_region ?_
          refine xV rfl rfl rfl (v_move rfl) ?_
          refine xV rfl rfl rfl (v_move rfl) ?_
          refine rl_k rfl (k_appendS hw T.sl_29_49_2 T.zero_49 T.bytes_49_40 rfl (by decide) rfl rfl (by (repeat first | with_reducible exact xH | apply xT); first | done | fail) (by assumption) (by exact ro_src hw (by (repeat first | with_reducible exact xH | apply xT); first | done | fail) (by assumption) (by assumption)) (by assumption) (by omega) (by simp only [maxLen] at *; omega) rfl (fun vv13_2 w hw hnil => ?_))
          have hw : Sat E w (OwnSl 49 2 vv13_2 (xss.take (j + 1).toNat).flatten.length (cells ++ news) :: OwnSl 29 1 (.slice (some ⟨b, 0, none⟩) m c) m vs :: RO g :: L) := by rw [show (j + 1).toNat = j.toNat + 1 by omega, hn1, List.length_append]; exact hw
          refine xV rfl rfl rfl (v_assign rfl) ?_
          refine rl_nil (g_le (xK (xK (xK (xK (Fr.le_refl _))))) ?_)
          refine g_inBlock ?_
          refine g_region ?_
          refine xV rfl rfl rfl (v_add rfl rfl (by omega)) ?_
          refine xV rfl rfl rfl (v_move rfl) ?_
          refine rl_nil (g_le (xK (xK (Fr.le_refl _))) ?_)
          exact g_le (by repeat (first | exact Fr.le_nil _ | refine Fr.le_cons rfl ?_)) (ih2 (j + 1, vv13_2, cells ++ news) w ⟨by simp only; omega, by simp only; omega, by dsimp only; rw [show (j + 1).toNat = j.toNat + 1 by omega, hn1]; exact hels.append hels9, hw⟩ (by simp only; omega))
      · try with_reducible exact tf_elim h3
        all_goals
          try replace h3 := of_decide_eq_false h3
          refine g_exit rfl (g_seq ?_)
          refine g_region ?_
          refine xV rfl rfl rfl (v_move rfl) ?_
          refine xV rfl rfl rfl (v_assign rfl) ?_
          refine rl_nil (g_le (xK (xS rfl (Fr.le_refl _))) ?_)
          refine g_ret1 Try.func95 rfl rfl ?_
          rw [show j.toNat = xss.length by omega, List.take_length] at hw hels
          exact ⟨nv, cells, rfl, hels, hw.xQ⟩
theorem growKd_calls {E : Env} {w : World} {L : List As} (n : Nat) (hb : n ≤ 1000000) (hw : Sat E w L) :
    Calls Try.prog 100 #[.slice none 0 0, .int .i64 n] w fun e w' => ∃ v, e = .returned v ∧ Sat E w' (OwnSl 70 5 v 0 [] :: L) := by
  have hw := hw.own_nil 70 5
  refine calls_of_g (n := 27) Try.func100 rfl rfl rfl ?_
  change G _ _ _ _ _ [(0, _), (1, _)] _
  refine g_seq ?_
  refine g_region ?_
  refine xV rfl rfl rfl (v_assign rfl) ?_
  refine rl_nil (g_le (xK (Fr.le_refl _)) ?_)
  refine g_seq (g_seq ?_)
  refine g_region ?_
  refine xV rfl rfl rfl (v_move rfl) ?_
  refine xV rfl rfl rfl (v_lssF rfl rfl (by omega)) ?_
  refine rl_nil (g_le (xK (xS rfl (Fr.le_refl _))) ?_)
  refine g_cond_false rfl ?_
  refine g_skip (g_seq (g_seq ?_))
  refine g_region ?_
  refine xV rfl rfl rfl (v_move rfl) ?_
  refine xV rfl rfl rfl (v_move rfl) ?_
  refine xV rfl rfl rfl (v_capSlice T.sl_30_70_5 rfl) ?_
  refine xV rfl rfl rfl (v_move rfl) ?_
  refine xV rfl rfl rfl (v_lenSlice T.sl_30_70_5 rfl) ?_
  refine xV rfl rfl rfl (v_sub rfl rfl (by omega)) ?_
  refine xV rfl rfl rfl (v_sub rfl rfl (by omega)) ?_
  refine xV rfl rfl rfl (v_assign rfl) ?_
  refine rl_nil (g_le (xK (xS rfl (xS rfl (xS rfl (xS rfl (xS rfl (xS rfl (xS rfl (Fr.le_refl _))))))))) ?_)
  refine g_seq ?_
  refine g_region ?_
  refine xV rfl rfl rfl (v_move rfl) ?_
  refine xV rfl rfl rfl (v_gtr rfl rfl) ?_
  refine rl_nil (g_le (xK (xS rfl (Fr.le_refl _))) ?_)
  refine g_cond rfl (fun h2 => ?_) (fun h2 => ?_)
  · try with_reducible exact ft_elim h2
    all_goals
      try replace h2 := of_decide_eq_true h2
      refine g_region ?_
      refine xV rfl rfl rfl (v_move rfl) ?_
      refine xV rfl rfl rfl (v_move rfl) ?_
      refine xV rfl rfl rfl (v_capSlice T.sl_30_70_5 rfl) ?_
      refine xV rfl rfl rfl (v_sliceTo T.sl_30_70_5 rfl rfl (by omega) (by omega)) ?_
      refine xV rfl rfl rfl (v_move rfl) ?_
      refine rl_k rfl (k_appendZ (k := n) (m := 0) (n' := 0) (xs := []) hw T.sl_30_70_5 T.int_3_i64 T.zero_70 T.bytes_70_48 rfl (by decide) rfl rfl (by omega) (by (repeat first | with_reducible exact xH | apply xT); first | done | fail) (by omega) (by omega) (by omega) (by omega) (by simp only [maxLen]; omega) rfl (fun bk5_5 cc5_5 zz5_5 w hzl hw => ?_))
      refine xV rfl rfl rfl (v_move rfl) ?_
      refine xV rfl rfl rfl (v_lenSlice T.sl_30_70_5 rfl) ?_
      refine xV rfl rfl rfl (v_sliceTo T.sl_30_70_5 rfl rfl (by omega) (by omega)) ?_
      refine xV rfl rfl rfl (v_assign rfl) ?_
      refine rl_nil (g_le (xK (xS rfl (xS rfl (xS rfl (xS rfl (xS rfl (xS rfl (xS rfl (xS rfl (xS rfl (Fr.le_refl _))))))))))) ?_)
      refine g_seq ?_
      refine g_region ?_
      refine xV rfl rfl rfl (v_move rfl) ?_
      refine xV rfl rfl rfl (v_assign rfl) ?_
      refine rl_nil (g_le (xK (xS rfl (Fr.le_refl _))) ?_)
      refine g_ret1 Try.func100 rfl rfl ?_
      refine ⟨_, rfl, ?_⟩
      have h9 := hw.own_take (j := 0) (by omega); simp only [Nat.zero_mul, List.take_zero] at h9; rw [show (((0 : Nat) : Int)).toNat = 0 from rfl]; exact h9.xQ
  · try with_reducible exact tf_elim h2
    all_goals
      try replace h2 := of_decide_eq_false h2
      refine g_skip (g_seq ?_)
      refine g_region ?_
      refine xV rfl rfl rfl (v_move rfl) ?_
      refine xV rfl rfl rfl (v_assign rfl) ?_
      refine rl_nil (g_le (xK (xS rfl (Fr.le_refl _))) ?_)
      refine g_ret1 Try.func100 rfl rfl ?_
      refine ⟨_, rfl, ?_⟩
      exact hw.xQ
theorem concatKd_calls {E : Env} {w : World} {L : List As} {g : Hp} {b m c : Nat} {vs : List Value} {xss : List (List Kd)} (hl : vs.length = xss.length) (hm : m = vs.length) (hb : m ≤ 1000) (hs : ∀ xs ∈ xss, xs.length ≤ 1000) (hr : ∀ (i : Nat) v xs, vs[i]? = some v → xss[i]? = some xs → (rdSl 48 5 rdKd) g [v] xs)
    (hw : Sat E w (OwnSl 30 1 (.slice (some ⟨b, 0, none⟩) m c) m vs :: RO g :: L)) :
    Calls Try.prog 96 #[.slice (some ⟨b, 0, none⟩) m c] w fun e w' => ∃ v cells, e = .returned v ∧ Els rdKd 5 g cells xss.flatten ∧ Sat E w' (OwnSl 70 5 v xss.flatten.length cells :: RO g :: L) := by
  have hfl : ∀ k, (xss.take k).flatten.length ≤ k * 1000 := by
    intro k
    induction k with
    | zero => simp
    | succ k ih =>
      rw [List.take_add_one, List.flatten_append, List.length_append]
      cases hx : xss[k]? with
      | none => simp only [Option.toList_none, List.flatten_nil, List.length_nil]; omega
      | some xs =>
        have := hs xs (List.mem_of_getElem? hx)
        simp only [Option.toList_some, List.flatten_cons, List.flatten_nil, List.append_nil]; omega
  have hnx : ∀ (i : Nat) xs, xss[i]? = some xs → (xss.take (i + 1)).flatten = (xss.take i).flatten ++ xs := by
    intro i xs hx
    rw [List.take_add_one, List.flatten_append, hx]; simp
  refine calls_of_g (n := 36) Try.func96 rfl rfl rfl ?_
  change G _ _ _ _ _ [(0, _)] _
  refine g_seq ?_
  refine g_region ?_
  refine xV rfl rfl rfl (v_assign rfl) ?_
  refine rl_nil (g_le (xK (Fr.le_refl _)) ?_)
  refine g_seq ?_
  refine g_region ?_
  refine xV rfl rfl rfl (v_assign rfl) ?_
  refine rl_nil (g_le (xK (Fr.le_refl _)) ?_)
  refine g_seq (g_seq ?_)
  refine g_region ?_
  refine xV rfl rfl rfl (v_move rfl) ?_
  refine xV rfl rfl rfl (v_lenSlice T.sl_167_30_1 rfl) ?_
  refine xV rfl rfl rfl (v_move rfl) ?_
  refine rl_nil (g_le (xK (xK (xK (Fr.le_refl _)))) ?_)
  refine g_block ?_
  refine g_loopC (σ := Int) (fun C x => (11, .int .i64 x) :: (3, .int .i64 ((xss.take x.toNat).flatten.length : Nat)) :: C) [(0, _), (2, _), (9, _), (10, _)] (by repeat (first | exact Fr.le_nil _ | refine Fr.le_cons rfl ?_)) (fun z w => 0 ≤ z ∧ z ≤ m ∧ Sat E w (OwnSl 30 1 (.slice (some ⟨b, 0, none⟩) m c) m vs :: RO g :: L)) (fun z => (m - z).toNat) ?_ 0 (by repeat (first | exact Fr.le_nil _ | refine Fr.le_cons rfl ?_)) ⟨by omega, by omega, hw⟩
  rintro i w ⟨hi0, hi1, hw⟩ ih
  refine g_seq ?_
  refine g_region ?_
  refine xV rfl rfl rfl (v_lss rfl rfl) ?_
  refine rl_nil (g_le (xK (Fr.le_refl _)) ?_)
  refine g_seq ?_
  refine g_cond rfl (fun h1 => ?_) (fun h1 => ?_)
  · try with_reducible exact ft_elim h1
    all_goals
      try replace h1 := of_decide_eq_true h1
      refine g_skip (g_seq (g_block (g_seq ?_)))
      have hz := hw
      clear hw
      obtain ⟨v, hv⟩ : ∃ v, vs[i.toNat]? = some v := ⟨_, List.getElem?_eq_getElem (by omega)⟩
      obtain ⟨xs, hx⟩ : ∃ xs, xss[i.toNat]? = some xs := ⟨_, List.getElem?_eq_getElem (by omega)⟩
      have hrd := hr _ _ _ hv hx
      obtain ⟨a1, n1, c1, rfl⟩ := rdSl_shape hrd
      obtain ⟨rfl, _, _, _, _⟩ := rdSl_get hrd
      have hv0 : vs[0 + i.toNat * 1]? = some (.slice a1 xs.length c1) := by rw [Nat.zero_add, Nat.mul_one]; exact hv
      have hxl := hs xs (List.mem_of_getElem? hx)
      have hf1 := hfl i.toNat
      have hn1 := hnx _ _ hx
      have hw := hz
      refine g_region ?_
      refine xV rfl rfl rfl (v_indexAddr T.sl_167_30_1 rfl rfl (by omega) (by omega)) ?_
      refine rl_v rfl rfl rfl (by exact own_cell hw (by (repeat first | with_reducible exact xH | apply xT); first | done | fail) (by first | rfl | assumption)) (v_load T.scal_30 rfl) ?_
      refine xV rfl rfl rfl (v_assign rfl) ?_
      refine rl_nil (g_le (xK (xK (xK (Fr.le_refl _)))) ?_)
      refine g_seq ?_
      refine g_region ?_
      refine xV rfl rfl rfl (v_move rfl) ?_
      refine xV rfl rfl rfl (v_move rfl) ?_
      refine xV rfl rfl rfl (v_lenSlice T.sl_30_70_5 rfl) ?_
      refine xV rfl rfl rfl (v_add rfl rfl (by omega)) ?_
      refine xV rfl rfl rfl (v_assign rfl) ?_
      refine rl_nil (g_le (xK (xK (xK (xK (xK (Fr.le_refl _)))))) ?_)
      refine g_seq ?_
      refine g_region ?_
      refine xV rfl rfl rfl (v_move rfl) ?_
      refine xV rfl rfl rfl (v_lssF rfl rfl (by omega)) ?_
      refine rl_nil (g_le (xK (xK (Fr.le_refl _))) ?_)
      refine g_cond_false rfl ?_
      refine g_skip (g_inBlock ?_)
      refine g_region ?_
      refine xV rfl rfl rfl (v_add rfl rfl (by omega)) ?_
      refine xV rfl rfl rfl (v_move rfl) ?_
      refine rl_nil (g_le (xK (xK (Fr.le_refl _))) ?_)
      have e9 : (((xss.take (i + 1).toNat).flatten.length : Nat) : Int) = ((xss.take i.toNat).flatten.length : Nat) + (xs.length : Nat) := by rw [show (i + 1).toNat = i.toNat + 1 by omega, hn1, List.length_append]; omega
      rw [← e9]
      exact g_le (by repeat (first | exact Fr.le_nil _ | refine Fr.le_cons rfl ?_)) (ih (i + 1) w ⟨by omega, by omega, hw⟩ (by omega))
  · try with_reducible exact tf_elim h1
    all_goals
      try replace h1 := of_decide_eq_false h1
      refine g_exit rfl (g_seq ?_)
      have hf2 := hfl i.toNat
      refine g_region ?_
      refine xV rfl rfl rfl (v_move rfl) ?_
      refine rl_k rfl (k_callf Try.func100 rfl rfl rfl rfl ?_)
      refine Calls.mono (growKd_calls _ (by omega) (hw.xQ)) ?_
      rintro _ w ⟨nv, rfl, hw⟩
      refine ⟨_, rfl, ?_⟩
      refine xV rfl rfl rfl (v_assign rfl) ?_
      refine rl_nil (g_le (xK (xS rfl (xS rfl (Fr.le_refl _)))) ?_)
      refine g_seq (g_seq ?_)
      refine g_region ?_
      refine xV rfl rfl rfl (v_move rfl) ?_
      refine xV rfl rfl rfl (v_lenSlice T.sl_167_30_1 rfl) ?_
      refine xV rfl rfl rfl (v_move rfl) ?_
      refine rl_nil (g_le (xK (xK (xK (Fr.le_refl _)))) ?_)
      refine g_block ?_
      refine g_loopC (σ := Int × Value × List Value) (fun C x => (27, .int .i64 x.1) :: (6, x.2.1) :: C) [(2, _), (25, _), (26, _)] (by repeat (first | exact Fr.le_nil _ | refine Fr.le_cons rfl ?_)) (fun z w => 0 ≤ z.1 ∧ z.1 ≤ m ∧ Els rdKd 5 g z.2.2 (xss.take z.1.toNat).flatten ∧ Sat E w (OwnSl 70 5 z.2.1 (xss.take z.1.toNat).flatten.length z.2.2 :: OwnSl 30 1 (.slice (some ⟨b, 0, none⟩) m c) m vs :: RO g :: L)) (fun z => (m - z.1).toNat) ?_ (0, nv, []) (by repeat (first | exact Fr.le_nil _ | refine Fr.le_cons rfl ?_)) ⟨by simp, by simp, by simpa using Els.nil, by simpa using hw⟩
      rintro ⟨j, nv, cells⟩ w ⟨hj0, hj1, hels, hw⟩ ih2
      dsimp only at hj0 hj1 hels hw ⊢
      refine g_seq ?_
      refine g_region ?_
      refine xV rfl rfl rfl (v_lss rfl rfl) ?_
      refine rl_nil (g_le (xK (Fr.le_refl _)) ?_)
      refine g_seq ?_
      refine g_cond rfl (fun h3 => ?_) (fun h3 => ?_)
      · try with_reducible exact ft_elim h3
        all_goals
          try replace h3 := of_decide_eq_true h3
          refine g_skip (g_seq (g_block (g_seq ?_)))
          have hz := hw
          clear hw
          obtain ⟨v, hv⟩ : ∃ v, vs[j.toNat]? = some v := ⟨_, List.getElem?_eq_getElem (by omega)⟩
          obtain ⟨xs, hx⟩ : ∃ xs, xss[j.toNat]? = some xs := ⟨_, List.getElem?_eq_getElem (by omega)⟩
          have hrd := hr _ _ _ hv hx
          obtain ⟨a1, n1, c1, rfl⟩ := rdSl_shape hrd
          obtain ⟨rfl, hle9, hm9, hb9, news, hels9, hsrc9⟩ := rdSl_cells hrd
          have hv0 : vs[0 + j.toNat * 1]? = some (.slice a1 xs.length c1) := by rw [Nat.zero_add, Nat.mul_one]; exact hv
          have hxl := hs xs (List.mem_of_getElem? hx)
          have hf1 := hfl j.toNat
          have hn1 := hnx _ _ hx
          have hlen := hels9.len
          have hone := hels9.ones one_Kd
          have hw := hz
          refine g_region ?_
          refine xV rfl rfl rfl (v_indexAddr T.sl_167_30_1 rfl rfl (by omega) (by omega)) ?_
          refine rl_v rfl rfl rfl (by exact own_cell hw (by (repeat first | with_reducible exact xH | apply xT); first | done | fail) (by first | rfl | assumption)) (v_load T.scal_30 rfl) ?_
          refine xV rfl rfl rfl (v_assign rfl) ?_
          refine rl_nil (g_le (xK (xK (xK (Fr.le_refl _)))) ?_)
          refine g_region ?_
          refine xV rfl rfl rfl (v_move rfl) ?_
          refine xV rfl rfl rfl (v_move rfl) ?_
          refine rl_k rfl (k_appendS hw T.sl_30_70_5 T.zero_70 T.bytes_70_48 rfl (by decide) rfl rfl (by (repeat first | with_reducible exact xH | apply xT); first | done | fail) (by assumption) (by exact ro_src hw (by (repeat first | with_reducible exact xH | apply xT); first | done | fail) (by assumption) (by assumption)) (by assumption) (by omega) (by simp only [maxLen] at *; omega) rfl (fun vv13_2 w hw hnil => ?_))
          have hw : Sat E w (OwnSl 70 5 vv13_2 (xss.take (j + 1).toNat).flatten.length (cells ++ news) :: OwnSl 30 1 (.slice (some ⟨b, 0, none⟩) m c) m vs :: RO g :: L) := by rw [show (j + 1).toNat = j.toNat + 1 by omega, hn1, List.length_append]; exact hw
          refine xV rfl rfl rfl (v_assign rfl) ?_
          refine rl_nil (g_le (xK (xK (xK (xK (Fr.le_refl _))))) ?_)
          refine g_inBlock ?_
          refine g_region ?_
          refine xV rfl rfl rfl (v_add rfl rfl (by omega)) ?_
          refine xV rfl rfl rfl (v_move rfl) ?_
          refine rl_nil (g_le (xK (xK (Fr.le_refl _))) ?_)
          exact g_le (by repeat (first | exact Fr.le_nil _ | refine Fr.le_cons rfl ?_)) (ih2 (j + 1, vv13_2, cells ++ news) w ⟨by simp only; omega, by simp only; omega, by dsimp only; rw [show (j + 1).toNat = j.toNat + 1 by omega, hn1]; exact hels.append hels9, hw⟩ (by simp only; omega))
      · try with_reducible exact tf_elim h3
        all_goals
          try replace h3 := of_decide_eq_false h3
          refine g_exit rfl (g_seq ?_)
          refine g_region ?_
          refine xV rfl rfl rfl (v_move rfl) ?_
          refine xV rfl rfl rfl (v_assign rfl) ?_
          refine rl_nil (g_le (xK (xS rfl (Fr.le_refl _))) ?_)
          refine g_ret1 Try.func96 rfl rfl ?_
          rw [show j.toNat = xss.length by omega, List.take_length] at hw hels
          exact ⟨nv, cells, rfl, hels, hw.xQ⟩
theorem els_Kd {ks : List Kd} {g : Hp} (h : ∀ k ∈ ks, k.ok) : Els rdKd 5 g (ks.flatMap Kd.cells) ks := els_of (f := Kd.cells) (R := rdKd) (fun x => rfl) (fun x hx => ⟨rfl, h x hx⟩)
/-- Rows of a node, written no more. -/
theorem nd_stands {E : Env} {w : World} {L : List As} {g : Hp} {x : Nd} {ev kv : Value} {cells : List Value} (hels : Els rdEn 2 g cells x.entries) (hk : ∀ k ∈ x.kids, k.ok) (hs : x.mid)
    (h : Sat E w (RO g :: OwnSl 49 2 ev x.entries.length cells :: OwnSl 70 5 kv x.kids.length (x.kids.flatMap Kd.cells) :: L)) :
    ∃ g', g.le g' ∧ rdNd g' [.bool x.leaf, ev, kv] x ∧ Sat E w (RO g' :: L) := by
  obtain ⟨h1, h2⟩ := hs
  obtain ⟨g1, l1, r1, h3⟩ := h.freeze_sl (bytes := 40) mono_En hels rfl (by simp only [reachBytes]; omega)
  obtain ⟨g2, l2, r2, h4⟩ := h3.freeze_sl (bytes := 48) mono_Kd (els_Kd hk) rfl (by simp only [reachBytes]; omega)
  exact ⟨g2, l1.trans l2, ⟨_, _, _, rfl, rfl, mono_sl mono_En l2 r1, r2⟩, h4⟩
theorem ord_f89_r1_C07b : orderOfB Try.f89 1 [21] (.a 0 (.a 1 (.a 3 (.a 4 (.a 6 (.a 7 (.a 11 (.a 12 (.a 14 (.a 15 (.v 2 (.v 5 (.v 8 (.v 13 (.v 16 (.b2 9 17 (.b2 10 17 (.k 17 (.k 18 (.k 19 (.k 20 (.k 21 .done))))) (.k 10 (.k 18 (.k 19 (.k 20 (.k 21 .done)))))) (.k 9 (.k 10 (.k 18 (.k 19 (.k 20 (.k 21 .done)))))))))))))))))))))) = true := by kernel_rfl
theorem with_calls {E : Env} {w : World} {L : List As} {g : Hp} {xcs ycs : List Value} {x y : Nd} (hx : rdNd g xcs x) (hy : rdNd g ycs y) (hsx : x.small) (hsy : y.small) (hw : Sat E w (RO g :: L)) :
    Calls Try.prog 89 #[.agg xcs.toArray, .agg ycs.toArray] w fun e w' => ∃ ev kv cells, e = .returned (.agg #[.bool (withN x y).leaf, ev, kv]) ∧ Els rdEn 2 g cells (withN x y).entries ∧ (∀ k ∈ (withN x y).kids, k.ok) ∧
      Sat E w' (OwnSl 49 2 ev (withN x y).entries.length cells :: OwnSl 70 5 kv (withN x y).kids.length ((withN x y).kids.flatMap Kd.cells) :: RO g :: L) := by
  have hfx := Nd.fine_of hx
  have hfy := Nd.fine_of hy
  obtain ⟨q0, q1, q2, rfl, qe, qf, qg⟩ := hx
  simp only [rdBool, List.cons.injEq, and_true] at qe
  subst qe
  obtain ⟨r0, r1, r2, rfl, re, rf, rg⟩ := hy
  simp only [rdBool, List.cons.injEq, and_true] at re
  subst re
  obtain ⟨a1, n1, c1, rfl⟩ := rdSl_shape qf
  obtain ⟨a2, n2, c2, rfl⟩ := rdSl_shape qg
  obtain ⟨a3, n3, c3, rfl⟩ := rdSl_shape rf
  obtain ⟨a4, n4, c4, rfl⟩ := rdSl_shape rg
  obtain ⟨rfl, _⟩ := rdSl_get qf
  obtain ⟨rfl, _⟩ := rdSl_get qg
  obtain ⟨rfl, _⟩ := rdSl_get rf
  obtain ⟨rfl, _⟩ := rdSl_get rg
  have two {α : Type} {R : Value → α → Prop} {u v : Value} {p q : α} (h1 : R u p) (h2 : R v q) : ∀ (i : Nat) z k, [u, v][i]? = some z → [p, q][i]? = some k → R z k := by
    intro i z k hz hk
    match i, hz, hk with
    | 0, hz, hk => simp at hz hk; subst hz hk; exact h1
    | 1, hz, hk => simp at hz hk; subst hz hk; exact h2
    | n + 2, hz, hk => simp at hz
  have hkk : ∀ k ∈ (withN x y).kids, k.ok := fun k hk => (List.mem_append.1 hk).elim (hfx.2.2.1 k) (hfy.2.2.1 k)
  refine calls_of_g (n := 26) Try.func89 rfl rfl rfl ?_
  change G _ _ _ _ _ [(0, _), (1, _)] _
  refine g_seq ?_
  refine g_region ?_
  refine rl_k rfl (k_box hw rfl rfl rfl (fun bk0_0 w hw => ?_))
  refine rl_k rfl (k_box hw rfl rfl rfl (fun bk0_1 w hw => ?_))
  refine rl_k rfl (k_alloc hw T.zero_110 rfl rfl (fun bk0_2 w hw => ?_))
  refine rl_nil (g_le (xK (xK (xK (Fr.le_refl _)))) ?_)
  refine g_seq ?_
  refine g_drawR ord_f89_r1_C07b (by kernel_rfl) T.mixed hw (fun w hw => ?_)
  refine rs_a 0 rfl rfl rfl rfl (v_fieldAddr0 T.fld_110_0_0 rfl) ?_
  refine rs_a 1 rfl rfl rfl rfl (v_fieldAddr0 T.fld_32_0_0 rfl) ?_
  refine rs_a 3 rfl rfl rfl rfl (v_fieldAddr0 T.fld_110_0_0 rfl) ?_
  refine rs_a 4 rfl rfl rfl rfl (v_fieldAddr0 T.fld_32_1_1 rfl) ?_
  refine rs_a 6 rfl rfl rfl rfl (v_fieldAddr0 T.fld_110_0_0 rfl) ?_
  refine rs_a 7 rfl rfl rfl rfl (v_fieldAddr0 T.fld_32_1_1 rfl) ?_
  refine rs_a 11 rfl rfl rfl rfl (v_fieldAddr0 T.fld_110_0_0 rfl) ?_
  refine rs_a 12 rfl rfl rfl rfl (v_fieldAddr0 T.fld_32_2_2 rfl) ?_
  refine rs_a 14 rfl rfl rfl rfl (v_fieldAddr0 T.fld_110_0_0 rfl) ?_
  refine rs_a 15 rfl rfl rfl rfl (v_fieldAddr0 T.fld_32_2_2 rfl) ?_
  refine rs_v 2 rfl rfl rfl rfl (OpV.mono (v_load T.scal_4 rfl) (fun w hw => by exact sat_cell hw (by (repeat first | with_reducible exact xH | apply xT); first | done | fail) rfl)) (by exact hw) ?_
  refine rs_v 5 rfl rfl rfl rfl (OpV.mono (v_load T.scal_29 rfl) (fun w hw => by exact sat_cell hw (by (repeat first | with_reducible exact xH | apply xT); first | done | fail) rfl)) (by exact hw) ?_
  refine rs_v 8 rfl rfl rfl rfl (OpV.mono (v_load T.scal_29 rfl) (fun w hw => by exact sat_cell hw (by (repeat first | with_reducible exact xH | apply xT); first | done | fail) rfl)) (by exact hw) ?_
  refine rs_v 13 rfl rfl rfl rfl (OpV.mono (v_load T.scal_30 rfl) (fun w hw => by exact sat_cell hw (by (repeat first | with_reducible exact xH | apply xT); first | done | fail) rfl)) (by exact hw) ?_
  refine rs_v 16 rfl rfl rfl rfl (OpV.mono (v_load T.scal_30 rfl) (fun w hw => by exact sat_cell hw (by (repeat first | with_reducible exact xH | apply xT); first | done | fail) rfl)) (by exact hw) ?_
  refine rs_b2 9 17 rfl rfl rfl rfl ?_ ?_ 
  · skip
    refine (k_buildSlice (cells := [_, _]) hw T.sl_165_29_1 T.zero_29 rfl rfl rfl rfl rfl rfl (fun bk1_9 w hw => ?_))
    refine ⟨fun _ => (by exact Sat.sub hw (by (repeat (first | with_reducible exact Sub.refl _ | exact Sub.nil _ | (apply Sub.cons; focus ((repeat (first | with_reducible exact Pick.here _ | apply Pick.there)); (first | done | fail))) | with_reducible apply Sub.drop)); first | done | fail)), ?_⟩
    refine rs_b2 10 17 rfl rfl rfl rfl ?_ ?_ 
    · skip
      refine (k_callf Try.func95 rfl rfl rfl rfl ?_)
      refine Calls.mono (concatEn_calls (xss := [x.entries, y.entries]) rfl rfl (by simp) (by intro xs hxs; simp only [List.mem_cons, List.not_mem_nil, or_false] at hxs; rcases hxs with rfl | rfl; exact Nat.le_trans hsx.1 (by omega); exact Nat.le_trans hsy.1 (by omega)) (two (R := fun v xs => (rdSl 40 2 rdEn) g [v] xs) qf rf) (((hw.xP (A := pt bk1_9 (.cells [.slice a1 x.entries.length c1, .slice a3 y.entries.length c3].toArray 29 (0, 0)))).lit_own (sz := 1) (n := 2) rfl (by simp [maxLen])).xQ)) ?_
      rintro _ w ⟨ev, ecells, rfl, hels, hw⟩
      obtain ⟨b1, d1, rfl, _, _, _⟩ := hw.own_shape
      refine ⟨_, rfl, ?_⟩
      refine ⟨fun _ => (by exact Sat.sub hw (by (repeat (first | with_reducible exact Sub.refl _ | exact Sub.nil _ | (apply Sub.cons; focus ((repeat (first | with_reducible exact Pick.here _ | apply Pick.there)); (first | done | fail))) | with_reducible apply Sub.drop)); first | done | fail)), ?_⟩
      refine rs_k 17 rfl rfl (k_buildSlice (cells := [_, _]) hw T.sl_167_30_1 T.zero_30 rfl rfl rfl rfl rfl rfl (fun bk1_17 w hw => ?_))
      refine ⟨fun _ => (by exact Sat.sub hw (by (repeat (first | with_reducible exact Sub.refl _ | exact Sub.nil _ | (apply Sub.cons; focus ((repeat (first | with_reducible exact Pick.here _ | apply Pick.there)); (first | done | fail))) | with_reducible apply Sub.drop)); first | done | fail)), ?_⟩
      refine rs_k 18 rfl rfl (k_callf Try.func96 rfl rfl rfl rfl ?_)
      refine Calls.mono (concatKd_calls (xss := [x.kids, y.kids]) rfl rfl (by simp) (by intro xs hxs; simp only [List.mem_cons, List.not_mem_nil, or_false] at hxs; rcases hxs with rfl | rfl; exact Nat.le_trans hsx.2.1 (by omega); exact Nat.le_trans hsy.2.1 (by omega)) (two (R := fun v xs => (rdSl 48 5 rdKd) g [v] xs) qg rg) (((hw.xP (A := pt bk1_17 (.cells [.slice a2 x.kids.length c2, .slice a4 y.kids.length c4].toArray 30 (0, 0)))).lit_own (sz := 1) (n := 2) rfl (by simp [maxLen])).xQ)) ?_
      rintro _ w ⟨kv, kcells, rfl, kels, hw⟩
      obtain ⟨b2, d2, rfl, _, _, _⟩ := hw.own_shape
      refine ⟨_, rfl, ?_⟩
      refine ⟨fun _ => (by exact Sat.sub hw (by (repeat (first | with_reducible exact Sub.refl _ | exact Sub.nil _ | (apply Sub.cons; focus ((repeat (first | with_reducible exact Pick.here _ | apply Pick.there)); (first | done | fail))) | with_reducible apply Sub.drop)); first | done | fail)), ?_⟩
      refine rs_kv 19 rfl rfl rfl rfl (S' := fun _ => True) trivial (v_build rfl (T.build_32_0_1_2 ..)) ?_
      refine rs_kv 20 rfl rfl rfl rfl (S' := fun _ => True) trivial (v_build rfl (T.build_110_0 ..)) ?_
      refine rs_k 21 rfl rfl (k_storeWhole hw T.agg_110_3 rfl rfl (by simp [Value.oneCell']) rfl (by (repeat first | with_reducible exact xH | apply xT); first | done | fail) rfl (fun w hw => ?_))
      refine ⟨fun hn => absurd (by decide) hn, ?_⟩
      refine rs_done (g_le (xS rfl (xS rfl (xS rfl (xS rfl (xS rfl (xS rfl (xS rfl (xS rfl (xS rfl (xS rfl (xS rfl (xS rfl (xS rfl (xS rfl (xS rfl (xS rfl (xS rfl (xS rfl (xS rfl (xS rfl (xS rfl (Fr.le_refl _)))))))))))))))))))))) ?_)
      refine g_resC Try.func89 rfl ⟨_, rfl, holds_agg (vs := [_, _, _]) T.agg_110_3 rfl (by exact sat_cells hw (by (repeat first | with_reducible exact xH | apply xT); first | done | fail) ⟨rfl, rfl, rfl, trivial⟩)⟩ ?_
      have hfl := els_flat flat_Kd kels
      simp only [List.flatten_cons, List.flatten_nil, List.append_nil] at hw hels hfl ⊢
      subst hfl
      exact ⟨_, _, ecells, rfl, hels, hkk, by dsimp only [withN]; exact hw.xQ⟩
    · skip
      refine (k_buildSlice (cells := [_, _]) hw T.sl_167_30_1 T.zero_30 rfl rfl rfl rfl rfl rfl (fun bk1_17 w hw => ?_))
      refine ⟨fun _ => (by exact Sat.sub hw (by (repeat (first | with_reducible exact Sub.refl _ | exact Sub.nil _ | (apply Sub.cons; focus ((repeat (first | with_reducible exact Pick.here _ | apply Pick.there)); (first | done | fail))) | with_reducible apply Sub.drop)); first | done | fail)), ?_⟩
      refine rs_k 10 rfl rfl (k_callf Try.func95 rfl rfl rfl rfl ?_)
      refine Calls.mono (concatEn_calls (xss := [x.entries, y.entries]) rfl rfl (by simp) (by intro xs hxs; simp only [List.mem_cons, List.not_mem_nil, or_false] at hxs; rcases hxs with rfl | rfl; exact Nat.le_trans hsx.1 (by omega); exact Nat.le_trans hsy.1 (by omega)) (two (R := fun v xs => (rdSl 40 2 rdEn) g [v] xs) qf rf) (((hw.xP (A := pt bk1_9 (.cells [.slice a1 x.entries.length c1, .slice a3 y.entries.length c3].toArray 29 (0, 0)))).lit_own (sz := 1) (n := 2) rfl (by simp [maxLen])).xQ)) ?_
      rintro _ w ⟨ev, ecells, rfl, hels, hw⟩
      obtain ⟨b1, d1, rfl, _, _, _⟩ := hw.own_shape
      refine ⟨_, rfl, ?_⟩
      refine ⟨fun _ => (by exact Sat.sub hw (by (repeat (first | with_reducible exact Sub.refl _ | exact Sub.nil _ | (apply Sub.cons; focus ((repeat (first | with_reducible exact Pick.here _ | apply Pick.there)); (first | done | fail))) | with_reducible apply Sub.drop)); first | done | fail)), ?_⟩
      refine rs_k 18 rfl rfl (k_callf Try.func96 rfl rfl rfl rfl ?_)
      refine Calls.mono (concatKd_calls (xss := [x.kids, y.kids]) rfl rfl (by simp) (by intro xs hxs; simp only [List.mem_cons, List.not_mem_nil, or_false] at hxs; rcases hxs with rfl | rfl; exact Nat.le_trans hsx.2.1 (by omega); exact Nat.le_trans hsy.2.1 (by omega)) (two (R := fun v xs => (rdSl 48 5 rdKd) g [v] xs) qg rg) (((hw.xP (A := pt bk1_17 (.cells [.slice a2 x.kids.length c2, .slice a4 y.kids.length c4].toArray 30 (0, 0)))).lit_own (sz := 1) (n := 2) rfl (by simp [maxLen])).xQ)) ?_
      rintro _ w ⟨kv, kcells, rfl, kels, hw⟩
      obtain ⟨b2, d2, rfl, _, _, _⟩ := hw.own_shape
      refine ⟨_, rfl, ?_⟩
      refine ⟨fun _ => (by exact Sat.sub hw (by (repeat (first | with_reducible exact Sub.refl _ | exact Sub.nil _ | (apply Sub.cons; focus ((repeat (first | with_reducible exact Pick.here _ | apply Pick.there)); (first | done | fail))) | with_reducible apply Sub.drop)); first | done | fail)), ?_⟩
      refine rs_kv 19 rfl rfl rfl rfl (S' := fun _ => True) trivial (v_build rfl (T.build_32_0_1_2 ..)) ?_
      refine rs_kv 20 rfl rfl rfl rfl (S' := fun _ => True) trivial (v_build rfl (T.build_110_0 ..)) ?_
      refine rs_k 21 rfl rfl (k_storeWhole hw T.agg_110_3 rfl rfl (by simp [Value.oneCell']) rfl (by (repeat first | with_reducible exact xH | apply xT); first | done | fail) rfl (fun w hw => ?_))
      refine ⟨fun hn => absurd (by decide) hn, ?_⟩
      refine rs_done (g_le (xS rfl (xS rfl (xS rfl (xS rfl (xS rfl (xS rfl (xS rfl (xS rfl (xS rfl (xS rfl (xS rfl (xS rfl (xS rfl (xS rfl (xS rfl (xS rfl (xS rfl (xS rfl (xS rfl (xS rfl (xS rfl (Fr.le_refl _)))))))))))))))))))))) ?_)
      refine g_resC Try.func89 rfl ⟨_, rfl, holds_agg (vs := [_, _, _]) T.agg_110_3 rfl (by exact sat_cells hw (by (repeat first | with_reducible exact xH | apply xT); first | done | fail) ⟨rfl, rfl, rfl, trivial⟩)⟩ ?_
      have hfl := els_flat flat_Kd kels
      simp only [List.flatten_cons, List.flatten_nil, List.append_nil] at hw hels hfl ⊢
      subst hfl
      exact ⟨_, _, ecells, rfl, hels, hkk, by dsimp only [withN]; exact hw.xQ⟩
  · skip
    refine (k_buildSlice (cells := [_, _]) hw T.sl_167_30_1 T.zero_30 rfl rfl rfl rfl rfl rfl (fun bk1_17 w hw => ?_))
    refine ⟨fun _ => (by exact Sat.sub hw (by (repeat (first | with_reducible exact Sub.refl _ | exact Sub.nil _ | (apply Sub.cons; focus ((repeat (first | with_reducible exact Pick.here _ | apply Pick.there)); (first | done | fail))) | with_reducible apply Sub.drop)); first | done | fail)), ?_⟩
    refine rs_k 9 rfl rfl (k_buildSlice (cells := [_, _]) hw T.sl_165_29_1 T.zero_29 rfl rfl rfl rfl rfl rfl (fun bk1_9 w hw => ?_))
    refine ⟨fun _ => (by exact Sat.sub hw (by (repeat (first | with_reducible exact Sub.refl _ | exact Sub.nil _ | (apply Sub.cons; focus ((repeat (first | with_reducible exact Pick.here _ | apply Pick.there)); (first | done | fail))) | with_reducible apply Sub.drop)); first | done | fail)), ?_⟩
    refine rs_k 10 rfl rfl (k_callf Try.func95 rfl rfl rfl rfl ?_)
    refine Calls.mono (concatEn_calls (xss := [x.entries, y.entries]) rfl rfl (by simp) (by intro xs hxs; simp only [List.mem_cons, List.not_mem_nil, or_false] at hxs; rcases hxs with rfl | rfl; exact Nat.le_trans hsx.1 (by omega); exact Nat.le_trans hsy.1 (by omega)) (two (R := fun v xs => (rdSl 40 2 rdEn) g [v] xs) qf rf) (((hw.xP (A := pt bk1_9 (.cells [.slice a1 x.entries.length c1, .slice a3 y.entries.length c3].toArray 29 (0, 0)))).lit_own (sz := 1) (n := 2) rfl (by simp [maxLen])).xQ)) ?_
    rintro _ w ⟨ev, ecells, rfl, hels, hw⟩
    obtain ⟨b1, d1, rfl, _, _, _⟩ := hw.own_shape
    refine ⟨_, rfl, ?_⟩
    refine ⟨fun _ => (by exact Sat.sub hw (by (repeat (first | with_reducible exact Sub.refl _ | exact Sub.nil _ | (apply Sub.cons; focus ((repeat (first | with_reducible exact Pick.here _ | apply Pick.there)); (first | done | fail))) | with_reducible apply Sub.drop)); first | done | fail)), ?_⟩
    refine rs_k 18 rfl rfl (k_callf Try.func96 rfl rfl rfl rfl ?_)
    refine Calls.mono (concatKd_calls (xss := [x.kids, y.kids]) rfl rfl (by simp) (by intro xs hxs; simp only [List.mem_cons, List.not_mem_nil, or_false] at hxs; rcases hxs with rfl | rfl; exact Nat.le_trans hsx.2.1 (by omega); exact Nat.le_trans hsy.2.1 (by omega)) (two (R := fun v xs => (rdSl 48 5 rdKd) g [v] xs) qg rg) (((hw.xP (A := pt bk1_17 (.cells [.slice a2 x.kids.length c2, .slice a4 y.kids.length c4].toArray 30 (0, 0)))).lit_own (sz := 1) (n := 2) rfl (by simp [maxLen])).xQ)) ?_
    rintro _ w ⟨kv, kcells, rfl, kels, hw⟩
    obtain ⟨b2, d2, rfl, _, _, _⟩ := hw.own_shape
    refine ⟨_, rfl, ?_⟩
    refine ⟨fun _ => (by exact Sat.sub hw (by (repeat (first | with_reducible exact Sub.refl _ | exact Sub.nil _ | (apply Sub.cons; focus ((repeat (first | with_reducible exact Pick.here _ | apply Pick.there)); (first | done | fail))) | with_reducible apply Sub.drop)); first | done | fail)), ?_⟩
    refine rs_kv 19 rfl rfl rfl rfl (S' := fun _ => True) trivial (v_build rfl (T.build_32_0_1_2 ..)) ?_
    refine rs_kv 20 rfl rfl rfl rfl (S' := fun _ => True) trivial (v_build rfl (T.build_110_0 ..)) ?_
    refine rs_k 21 rfl rfl (k_storeWhole hw T.agg_110_3 rfl rfl (by simp [Value.oneCell']) rfl (by (repeat first | with_reducible exact xH | apply xT); first | done | fail) rfl (fun w hw => ?_))
    refine ⟨fun hn => absurd (by decide) hn, ?_⟩
    refine rs_done (g_le (xS rfl (xS rfl (xS rfl (xS rfl (xS rfl (xS rfl (xS rfl (xS rfl (xS rfl (xS rfl (xS rfl (xS rfl (xS rfl (xS rfl (xS rfl (xS rfl (xS rfl (xS rfl (xS rfl (xS rfl (xS rfl (Fr.le_refl _)))))))))))))))))))))) ?_)
    refine g_resC Try.func89 rfl ⟨_, rfl, holds_agg (vs := [_, _, _]) T.agg_110_3 rfl (by exact sat_cells hw (by (repeat first | with_reducible exact xH | apply xT); first | done | fail) ⟨rfl, rfl, rfl, trivial⟩)⟩ ?_
    have hfl := els_flat flat_Kd kels
    simp only [List.flatten_cons, List.flatten_nil, List.append_nil] at hw hels hfl ⊢
    subst hfl
    exact ⟨_, _, ecells, rfl, hels, hkk, by dsimp only [withN]; exact hw.xQ⟩
theorem sizeN_le {x : Nd} (h : x.mid) : sizeN x ≤ 8 := by unfold sizeN; split; exact h.1; exact h.2
theorem ord_f66_r2_C07b : orderOfB Try.f66 2 [13] (.a 0 (.a 1 (.a 5 (.a 6 (.v 2 (.a 3 (.a 4 (.v 7 (.a 8 (.a 9 (.b2 10 11 (.k 11 (.k 12 (.k 13 .done))) (.k 10 (.k 12 (.k 13 .done)))))))))))))) = true := by kernel_rfl
theorem ord_f66_r4_C07b : orderOfB Try.f66 4 [11, 14, 17] (.a 0 (.a 1 (.a 3 (.a 6 (.a 7 (.a 9 (.v 2 (.a 4 (.v 8 (.a 10 (.k 5 (.a 12 (.a 13 (.k 11 (.k 14 (.k 15 (.k 16 (.k 17 .done)))))))))))))))))) = true := by kernel_rfl
theorem ord_f66_r5_C07b : orderOfB Try.f66 5 [11, 14, 17] (.a 0 (.a 1 (.a 3 (.a 6 (.a 7 (.a 9 (.v 2 (.a 4 (.v 8 (.a 10 (.k 5 (.a 12 (.a 13 (.k 11 (.k 14 (.k 15 (.k 16 (.k 17 .done)))))))))))))))))) = true := by kernel_rfl
set_option maxHeartbeats 1000000 in
theorem halves_calls {E : Env} {w : World} {L : List As} {g : Hp} {xcs : List Value} {x : Nd} (hx : rdNd g xcs x) (hs : x.mid) (hw : Sat E w (RO g :: L)) :
    Calls Try.prog 66 #[.agg xcs.toArray] w fun e w' => ∃ g' a c, g.le g' ∧ e = .returned (.slice a 2 c) ∧ (rdSl 56 3 rdNd) g' [.slice a 2 c] (halvesN x) ∧ Sat E w' (RO g' :: L) := by
  have hfx := Nd.fine_of hx
  have hsz := sizeN_le hs
  obtain ⟨q0, q1, q2, rfl, qe, qf, qg⟩ := hx
  simp only [rdBool, List.cons.injEq, and_true] at qe
  subst qe
  obtain ⟨a1, n1, c1, rfl⟩ := rdSl_shape qf
  obtain ⟨a2, n2, c2, rfl⟩ := rdSl_shape qg
  obtain ⟨rfl, _, he1, _⟩ := rdSl_get qf
  obtain ⟨rfl, _, hk1, _⟩ := rdSl_get qg
  have hse : (if x.leaf = true then x.entries.length else x.kids.length) = sizeN x := rfl
  obtain ⟨k, hk⟩ : ∃ k : Nat, k = (sizeN x + 1) / 2 := ⟨_, rfl⟩
  refine calls_of_g (n := 58) Try.func66 rfl rfl rfl ?_
  change G _ _ _ _ _ [(0, _)] _
  refine g_seq ?_
  refine g_region ?_
  refine rl_k rfl (k_box hw rfl rfl rfl (fun bk0_0 w hw => ?_))
  refine xV rfl rfl rfl (v_assign rfl) ?_
  refine rl_nil (g_le (xK (xK (Fr.le_refl _))) ?_)
  refine g_seq ?_
  refine g_region ?_
  refine rl_v rfl rfl rfl (by exact sat_cells hw (by (repeat first | with_reducible exact xH | apply xT); first | done | fail) ⟨rfl, rfl, rfl, trivial⟩) (v_loadAgg (vs := [_, _, _]) T.agg_110_3 rfl rfl) ?_
  refine rl_k rfl (k_callf Try.func65 rfl rfl rfl rfl ?_)
  refine Calls.mono (size_calls x.leaf a1 a2 _ c1 _ c2 hw) ?_
  rw [hse]
  rintro _ w ⟨rfl, hw⟩
  refine ⟨_, rfl, ?_⟩
  refine xV rfl rfl rfl (v_add rfl rfl (by omega)) ?_
  refine xV rfl rfl rfl (v_quo rfl rfl (by omega) (by omega) (by omega)) ?_
  refine xV rfl rfl rfl (v_assign rfl) ?_
  refine rl_nil (g_le (xK (xS rfl (xS rfl (xS rfl (xS rfl (Fr.le_refl _)))))) ?_)
  rw [show ((sizeN x : Int) + 1) / 2 = (k : Nat) by omega]
  refine g_seq ?_
  refine g_drawR ord_f66_r2_C07b (by kernel_rfl) T.mixed hw (fun w hw => ?_)
  refine rs_a 0 rfl rfl rfl rfl (v_fieldAddr0 T.fld_110_0_0 rfl) ?_
  refine rs_a 1 rfl rfl rfl rfl (v_fieldAddr0 T.fld_32_0_0 rfl) ?_
  refine rs_a 5 rfl rfl rfl rfl (v_fieldAddr0 T.fld_110_0_0 rfl) ?_
  refine rs_a 6 rfl rfl rfl rfl (v_fieldAddr0 T.fld_32_0_0 rfl) ?_
  refine rs_v 2 rfl rfl rfl rfl (OpV.mono (v_load T.scal_4 rfl) (fun w hw => by exact sat_cell hw (by (repeat first | with_reducible exact xH | apply xT); first | done | fail) rfl)) (by exact hw) ?_
  refine rs_a 3 rfl rfl rfl rfl (v_build rfl (T.build_32_0 ..)) ?_
  refine rs_a 4 rfl rfl rfl rfl (v_build rfl (T.build_110_0 ..)) ?_
  refine rs_v 7 rfl rfl rfl rfl (OpV.mono (v_load T.scal_4 rfl) (fun w hw => by exact sat_cell hw (by (repeat first | with_reducible exact xH | apply xT); first | done | fail) rfl)) (by exact hw) ?_
  refine rs_a 8 rfl rfl rfl rfl (v_build rfl (T.build_32_0 ..)) ?_
  refine rs_a 9 rfl rfl rfl rfl (v_build rfl (T.build_110_0 ..)) ?_
  refine rs_b2 10 11 rfl rfl rfl rfl ?_ ?_ 
  · skip
    refine (k_alloc hw T.zero_110 rfl rfl (fun bk2_10 w hw => ?_))
    refine ⟨fun _ => (by exact Sat.sub hw (by (repeat (first | with_reducible exact Sub.refl _ | exact Sub.nil _ | (apply Sub.cons; focus ((repeat (first | with_reducible exact Pick.here _ | apply Pick.there)); (first | done | fail))) | with_reducible apply Sub.drop)); first | done | fail)), ?_⟩
    refine rs_k 11 rfl rfl (k_alloc hw T.zero_110 rfl rfl (fun bk2_11 w hw => ?_))
    refine ⟨fun _ => (by exact Sat.sub hw (by (repeat (first | with_reducible exact Sub.refl _ | exact Sub.nil _ | (apply Sub.cons; focus ((repeat (first | with_reducible exact Pick.here _ | apply Pick.there)); (first | done | fail))) | with_reducible apply Sub.drop)); first | done | fail)), ?_⟩
    refine rs_k 12 rfl rfl (k_storeWhole hw T.agg_110_3 rfl rfl (by simp [Value.oneCell']) rfl (by (repeat first | with_reducible exact xH | apply xT); first | done | fail) rfl (fun w hw => ?_))
    refine ⟨fun _ => (by exact Sat.sub hw (by (repeat (first | with_reducible exact Sub.refl _ | exact Sub.nil _ | (apply Sub.cons; focus ((repeat (first | with_reducible exact Pick.here _ | apply Pick.there)); (first | done | fail))) | with_reducible apply Sub.drop)); first | done | fail)), ?_⟩
    refine rs_k 13 rfl rfl (k_storeWhole hw T.agg_110_3 rfl rfl (by simp [Value.oneCell']) rfl (by (repeat first | with_reducible exact xH | apply xT); first | done | fail) rfl (fun w hw => ?_))
    refine ⟨fun hn => absurd (by decide) hn, ?_⟩
    refine rs_done (g_le (xK (xK (xS rfl (xS rfl (xS rfl (xS rfl (xS rfl (xS rfl (xS rfl (xS rfl (xS rfl (xS rfl (Fr.le_refl _))))))))))))) ?_)
    refine g_seq (g_seq ?_)
    refine g_region ?_
    refine xV rfl rfl rfl (v_fieldAddr0 T.fld_110_0_0 rfl) ?_
    refine xV rfl rfl rfl (v_fieldAddr0 T.fld_32_0_0 rfl) ?_
    refine rl_v rfl rfl rfl (by exact sat_cell hw (by (repeat first | with_reducible exact xH | apply xT); first | done | fail) rfl) (v_load T.scal_4 rfl) ?_
    refine rl_nil (g_le (xK (xS rfl (xS rfl (Fr.le_refl _)))) ?_)
    refine g_cond rfl (fun h1 => ?_) (fun h1 => ?_)
    · try with_reducible exact ft_elim h1
      all_goals
        try replace h1 := of_decide_eq_true h1
        have hN : sizeN x = x.entries.length := if_pos h1
        refine g_drawR ord_f66_r4_C07b (by kernel_rfl) T.mixed hw (fun w hw => ?_)
        refine rs_a 0 rfl rfl rfl rfl (v_fieldAddr0 T.fld_110_0_0 rfl) ?_
        refine rs_a 1 rfl rfl rfl rfl (v_fieldAddr0 T.fld_32_1_1 rfl) ?_
        refine rs_a 3 rfl rfl rfl rfl (v_move rfl) ?_
        refine rs_a 6 rfl rfl rfl rfl (v_fieldAddr0 T.fld_110_0_0 rfl) ?_
        refine rs_a 7 rfl rfl rfl rfl (v_fieldAddr0 T.fld_32_1_1 rfl) ?_
        refine rs_a 9 rfl rfl rfl rfl (v_move rfl) ?_
        refine rs_v 2 rfl rfl rfl rfl (OpV.mono (v_load T.scal_29 rfl) (fun w hw => by exact sat_cell hw (by (repeat first | with_reducible exact xH | apply xT); first | done | fail) rfl)) (by exact hw) ?_
        refine rs_a 4 rfl rfl rfl rfl (v_sliceTo T.sl_29_49_2 rfl rfl (by omega) (by omega)) ?_
        refine rs_v 8 rfl rfl rfl rfl (OpV.mono (v_load T.scal_29 rfl) (fun w hw => by exact sat_cell hw (by (repeat first | with_reducible exact xH | apply xT); first | done | fail) rfl)) (by exact hw) ?_
        refine rs_a 10 rfl rfl rfl rfl (v_sliceFromA T.sl_29_49_2 rfl rfl (by omega) (by omega) (by omega)) ?_
        refine rs_k 5 rfl rfl (k_callf Try.func87 rfl rfl rfl rfl ?_)
        refine Calls.mono (cloneEn_calls (rdSl_take k qf (by omega)) (hw.xQ)) ?_
        rintro _ w ⟨v1, cs1, rfl, hels1, hw⟩
        obtain ⟨b1, d1, rfl, _, _, _⟩ := hw.own_shape
        refine ⟨_, rfl, ?_⟩
        refine ⟨fun _ => (by exact Sat.sub hw (by (repeat (first | with_reducible exact Sub.refl _ | exact Sub.nil _ | (apply Sub.cons; focus ((repeat (first | with_reducible exact Pick.here _ | apply Pick.there)); (first | done | fail))) | with_reducible apply Sub.drop)); first | done | fail)), ?_⟩
        refine rs_a 12 rfl rfl rfl rfl (v_fieldAddr0 T.fld_110_0_0 rfl) ?_
        refine rs_a 13 rfl rfl rfl rfl (v_fieldAddr0 T.fld_32_1_1 rfl) ?_
        refine rs_k 11 rfl rfl (k_callf Try.func87 rfl rfl rfl rfl ?_)
        refine Calls.mono (cloneEn_calls (rdSl_from k qf (by omega)) (hw.xQ)) ?_
        rintro _ w ⟨v2, cs2, rfl, hels2, hw⟩
        obtain ⟨b2, d2, rfl, _, _, _⟩ := hw.own_shape
        refine ⟨_, rfl, ?_⟩
        refine ⟨fun hn => absurd (by decide) hn, ?_⟩
        refine rs_k 14 rfl rfl (k_store hw T.scal_29 rfl rfl rfl (by (repeat first | with_reducible exact xH | apply xT); first | done | fail) rfl (by simp only [List.set, Int.reduceToNat, Nat.reduceMul, Nat.reduceAdd]; rfl) (fun w hw => ?_))
        refine ⟨fun hn => absurd (by decide) hn, ?_⟩
        refine rs_kv 15 rfl rfl rfl rfl (S' := fun _ => True) trivial (v_fieldAddr0 T.fld_110_0_0 rfl) ?_
        refine rs_kv 16 rfl rfl rfl rfl (S' := fun _ => True) trivial (v_fieldAddr0 T.fld_32_1_1 rfl) ?_
        refine rs_k 17 rfl rfl (k_store hw T.scal_29 rfl rfl rfl (by (repeat first | with_reducible exact xH | apply xT); first | done | fail) rfl (by simp only [List.set, Int.reduceToNat, Nat.reduceMul, Nat.reduceAdd]; rfl) (fun w hw => ?_))
        refine ⟨fun hn => absurd (by decide) hn, ?_⟩
        refine rs_done (g_le (xS rfl (xS rfl (xS rfl (xS rfl (xS rfl (xS rfl (xS rfl (xS rfl (xS rfl (xS rfl (xS rfl (xS rfl (xS rfl (xS rfl (xS rfl (xS rfl (Fr.le_refl _))))))))))))))))) ?_)
        refine g_seq ?_
        refine g_region ?_
        refine rl_v rfl rfl rfl (by exact sat_cells hw (by (repeat first | with_reducible exact xH | apply xT); first | done | fail) ⟨rfl, rfl, rfl, trivial⟩) (v_loadAgg (vs := [_, _, _]) T.agg_110_3 rfl rfl) ?_
        refine rl_v rfl rfl rfl (by exact sat_cells hw (by (repeat first | with_reducible exact xH | apply xT); first | done | fail) ⟨rfl, rfl, rfl, trivial⟩) (v_loadAgg (vs := [_, _, _]) T.agg_110_3 rfl rfl) ?_
        refine rl_k rfl (k_buildSlice (cells := [_, _, _, _, _, _]) hw T.sl_103_110_3 T.zero_110 rfl rfl rfl rfl rfl rfl (fun bk6_2 w hw => ?_))
        refine xV rfl rfl rfl (v_assign rfl) ?_
        refine rl_nil (g_le (xK (xS rfl (xS rfl (xS rfl (Fr.le_refl _))))) ?_)
        refine g_ret1 Try.func66 rfl rfl ?_
        rw [h1] at hw
        have hh : halvesN x = [⟨true, x.entries.take k, []⟩, ⟨true, x.entries.drop k, []⟩] := by unfold halvesN; rw [if_pos h1, ← hk]
        rw [hh]
        have hs1 := hs.1
        have hs2 := hs.2
        obtain ⟨g1, l1, r1, hw⟩ := (hw.xQ : Sat E w (RO g :: OwnSl 49 2 (.slice b1 (x.entries.take k).length d1) (x.entries.take k).length cs1 :: OwnSl 49 2 (.slice b2 (x.entries.drop k).length d2) (x.entries.drop k).length cs2 :: pt bk6_2 (.cells [.bool true, .slice b1 (x.entries.take k).length d1, .slice none 0 0, .bool true, .slice b2 (x.entries.drop k).length d2, .slice none 0 0].toArray 110 (0, 0)) :: L)).freeze_sl (bytes := 40) mono_En hels1 rfl (by simp only [reachBytes, List.length_take]; omega)
        obtain ⟨g2, l2, r2, hw⟩ := hw.freeze_sl (bytes := 40) mono_En (hels2.mono mono_En l1) rfl (by simp only [reachBytes, List.length_drop]; omega)
        obtain ⟨g3, l3, r3, hw⟩ := hw.freeze_lit (R := rdNd) (sz := 3) (bytes := 56) mono_Nd (xs := [⟨true, x.entries.take k, []⟩, ⟨true, x.entries.drop k, []⟩]) ((Els.one (cs := [.bool true, .slice b1 (x.entries.take k).length d1, .slice none 0 0]) rfl ⟨_, _, _, rfl, rfl, (mono_sl mono_En l2 r1), rdSl_nil _⟩).append (Els.one (cs := [.bool true, .slice b2 (x.entries.drop k).length d2, .slice none 0 0]) rfl ⟨_, _, _, rfl, rfl, r2, rdSl_nil _⟩)) rfl (by simp [maxLen]) (by simp [reachBytes])
        exact ⟨g3, _, _, l1.trans (l2.trans l3), rfl, r3, hw⟩
    · try with_reducible exact tf_elim h1
      all_goals
        try replace h1 := of_decide_eq_false h1
        have hN : sizeN x = x.kids.length := if_neg (by simp [h1])
        refine g_drawR ord_f66_r5_C07b (by kernel_rfl) T.mixed hw (fun w hw => ?_)
        refine rs_a 0 rfl rfl rfl rfl (v_fieldAddr0 T.fld_110_0_0 rfl) ?_
        refine rs_a 1 rfl rfl rfl rfl (v_fieldAddr0 T.fld_32_2_2 rfl) ?_
        refine rs_a 3 rfl rfl rfl rfl (v_move rfl) ?_
        refine rs_a 6 rfl rfl rfl rfl (v_fieldAddr0 T.fld_110_0_0 rfl) ?_
        refine rs_a 7 rfl rfl rfl rfl (v_fieldAddr0 T.fld_32_2_2 rfl) ?_
        refine rs_a 9 rfl rfl rfl rfl (v_move rfl) ?_
        refine rs_v 2 rfl rfl rfl rfl (OpV.mono (v_load T.scal_30 rfl) (fun w hw => by exact sat_cell hw (by (repeat first | with_reducible exact xH | apply xT); first | done | fail) rfl)) (by exact hw) ?_
        refine rs_a 4 rfl rfl rfl rfl (v_sliceTo T.sl_30_70_5 rfl rfl (by omega) (by omega)) ?_
        refine rs_v 8 rfl rfl rfl rfl (OpV.mono (v_load T.scal_30 rfl) (fun w hw => by exact sat_cell hw (by (repeat first | with_reducible exact xH | apply xT); first | done | fail) rfl)) (by exact hw) ?_
        refine rs_a 10 rfl rfl rfl rfl (v_sliceFromA T.sl_30_70_5 rfl rfl (by omega) (by omega) (by omega)) ?_
        refine rs_k 5 rfl rfl (k_callf Try.func62 rfl rfl rfl rfl ?_)
        refine Calls.mono (cloneKds_calls (rdSl_take k qg (by omega)) (hw.xQ)) ?_
        rintro _ w ⟨v1, rfl, hw⟩
        obtain ⟨b1, d1, rfl, _, _, _⟩ := hw.own_shape
        refine ⟨_, rfl, ?_⟩
        refine ⟨fun _ => (by exact Sat.sub hw (by (repeat (first | with_reducible exact Sub.refl _ | exact Sub.nil _ | (apply Sub.cons; focus ((repeat (first | with_reducible exact Pick.here _ | apply Pick.there)); (first | done | fail))) | with_reducible apply Sub.drop)); first | done | fail)), ?_⟩
        refine rs_a 12 rfl rfl rfl rfl (v_fieldAddr0 T.fld_110_0_0 rfl) ?_
        refine rs_a 13 rfl rfl rfl rfl (v_fieldAddr0 T.fld_32_2_2 rfl) ?_
        refine rs_k 11 rfl rfl (k_callf Try.func62 rfl rfl rfl rfl ?_)
        refine Calls.mono (cloneKds_calls (rdSl_from k qg (by omega)) (hw.xQ)) ?_
        rintro _ w ⟨v2, rfl, hw⟩
        obtain ⟨b2, d2, rfl, _, _, _⟩ := hw.own_shape
        refine ⟨_, rfl, ?_⟩
        refine ⟨fun hn => absurd (by decide) hn, ?_⟩
        refine rs_k 14 rfl rfl (k_store hw T.scal_30 rfl rfl rfl (by (repeat first | with_reducible exact xH | apply xT); first | done | fail) rfl (by simp only [List.set, Int.reduceToNat, Nat.reduceMul, Nat.reduceAdd]; rfl) (fun w hw => ?_))
        refine ⟨fun hn => absurd (by decide) hn, ?_⟩
        refine rs_kv 15 rfl rfl rfl rfl (S' := fun _ => True) trivial (v_fieldAddr0 T.fld_110_0_0 rfl) ?_
        refine rs_kv 16 rfl rfl rfl rfl (S' := fun _ => True) trivial (v_fieldAddr0 T.fld_32_2_2 rfl) ?_
        refine rs_k 17 rfl rfl (k_store hw T.scal_30 rfl rfl rfl (by (repeat first | with_reducible exact xH | apply xT); first | done | fail) rfl (by simp only [List.set, Int.reduceToNat, Nat.reduceMul, Nat.reduceAdd]; rfl) (fun w hw => ?_))
        refine ⟨fun hn => absurd (by decide) hn, ?_⟩
        refine rs_done (g_le (xS rfl (xS rfl (xS rfl (xS rfl (xS rfl (xS rfl (xS rfl (xS rfl (xS rfl (xS rfl (xS rfl (xS rfl (xS rfl (xS rfl (xS rfl (xS rfl (Fr.le_refl _))))))))))))))))) ?_)
        refine g_seq ?_
        refine g_region ?_
        refine rl_v rfl rfl rfl (by exact sat_cells hw (by (repeat first | with_reducible exact xH | apply xT); first | done | fail) ⟨rfl, rfl, rfl, trivial⟩) (v_loadAgg (vs := [_, _, _]) T.agg_110_3 rfl rfl) ?_
        refine rl_v rfl rfl rfl (by exact sat_cells hw (by (repeat first | with_reducible exact xH | apply xT); first | done | fail) ⟨rfl, rfl, rfl, trivial⟩) (v_loadAgg (vs := [_, _, _]) T.agg_110_3 rfl rfl) ?_
        refine rl_k rfl (k_buildSlice (cells := [_, _, _, _, _, _]) hw T.sl_103_110_3 T.zero_110 rfl rfl rfl rfl rfl rfl (fun bk6_2 w hw => ?_))
        refine xV rfl rfl rfl (v_assign rfl) ?_
        refine rl_nil (g_le (xK (xS rfl (xS rfl (xS rfl (Fr.le_refl _))))) ?_)
        refine g_ret1 Try.func66 rfl rfl ?_
        rw [h1] at hw
        have hh : halvesN x = [⟨false, [], x.kids.take k⟩, ⟨false, [], x.kids.drop k⟩] := by unfold halvesN; rw [if_neg (by simp [h1]), ← hk]
        rw [hh]
        have hs1 := hs.1
        have hs2 := hs.2
        obtain ⟨g1, l1, r1, hw⟩ := (hw.xQ : Sat E w (RO g :: OwnSl 70 5 (.slice b1 (x.kids.take k).length d1) (x.kids.take k).length ((x.kids.take k).flatMap Kd.cells) :: OwnSl 70 5 (.slice b2 (x.kids.drop k).length d2) (x.kids.drop k).length ((x.kids.drop k).flatMap Kd.cells) :: pt bk6_2 (.cells [.bool false, .slice none 0 0, .slice b1 (x.kids.take k).length d1, .bool false, .slice none 0 0, .slice b2 (x.kids.drop k).length d2].toArray 110 (0, 0)) :: L)).freeze_sl (bytes := 48) mono_Kd (els_Kd (fun z hz => hfx.2.2.1 z (List.mem_of_mem_take hz))) rfl (by simp only [reachBytes, List.length_take]; omega)
        obtain ⟨g2, l2, r2, hw⟩ := hw.freeze_sl (bytes := 48) mono_Kd (els_Kd (fun z hz => hfx.2.2.1 z (List.mem_of_mem_drop hz))) rfl (by simp only [reachBytes, List.length_drop]; omega)
        obtain ⟨g3, l3, r3, hw⟩ := hw.freeze_lit (R := rdNd) (sz := 3) (bytes := 56) mono_Nd (xs := [⟨false, [], x.kids.take k⟩, ⟨false, [], x.kids.drop k⟩]) ((Els.one (cs := [.bool false, .slice none 0 0, .slice b1 (x.kids.take k).length d1]) rfl ⟨_, _, _, rfl, rfl, rdSl_nil _, (mono_sl mono_Kd l2 r1)⟩).append (Els.one (cs := [.bool false, .slice none 0 0, .slice b2 (x.kids.drop k).length d2]) rfl ⟨_, _, _, rfl, rfl, rdSl_nil _, r2⟩)) rfl (by simp [maxLen]) (by simp [reachBytes])
        exact ⟨g3, _, _, l1.trans (l2.trans l3), rfl, r3, hw⟩
  · skip
    refine (k_alloc hw T.zero_110 rfl rfl (fun bk2_11 w hw => ?_))
    refine ⟨fun _ => (by exact Sat.sub hw (by (repeat (first | with_reducible exact Sub.refl _ | exact Sub.nil _ | (apply Sub.cons; focus ((repeat (first | with_reducible exact Pick.here _ | apply Pick.there)); (first | done | fail))) | with_reducible apply Sub.drop)); first | done | fail)), ?_⟩
    refine rs_k 10 rfl rfl (k_alloc hw T.zero_110 rfl rfl (fun bk2_10 w hw => ?_))
    refine ⟨fun _ => (by exact Sat.sub hw (by (repeat (first | with_reducible exact Sub.refl _ | exact Sub.nil _ | (apply Sub.cons; focus ((repeat (first | with_reducible exact Pick.here _ | apply Pick.there)); (first | done | fail))) | with_reducible apply Sub.drop)); first | done | fail)), ?_⟩
    refine rs_k 12 rfl rfl (k_storeWhole hw T.agg_110_3 rfl rfl (by simp [Value.oneCell']) rfl (by (repeat first | with_reducible exact xH | apply xT); first | done | fail) rfl (fun w hw => ?_))
    refine ⟨fun _ => (by exact Sat.sub hw (by (repeat (first | with_reducible exact Sub.refl _ | exact Sub.nil _ | (apply Sub.cons; focus ((repeat (first | with_reducible exact Pick.here _ | apply Pick.there)); (first | done | fail))) | with_reducible apply Sub.drop)); first | done | fail)), ?_⟩
    refine rs_k 13 rfl rfl (k_storeWhole hw T.agg_110_3 rfl rfl (by simp [Value.oneCell']) rfl (by (repeat first | with_reducible exact xH | apply xT); first | done | fail) rfl (fun w hw => ?_))
    refine ⟨fun hn => absurd (by decide) hn, ?_⟩
    refine rs_done (g_le (xK (xK (xS rfl (xS rfl (xS rfl (xS rfl (xS rfl (xS rfl (xS rfl (xS rfl (xS rfl (xS rfl (Fr.le_refl _))))))))))))) ?_)
    refine g_seq (g_seq ?_)
    refine g_region ?_
    refine xV rfl rfl rfl (v_fieldAddr0 T.fld_110_0_0 rfl) ?_
    refine xV rfl rfl rfl (v_fieldAddr0 T.fld_32_0_0 rfl) ?_
    refine rl_v rfl rfl rfl (by exact sat_cell hw (by (repeat first | with_reducible exact xH | apply xT); first | done | fail) rfl) (v_load T.scal_4 rfl) ?_
    refine rl_nil (g_le (xK (xS rfl (xS rfl (Fr.le_refl _)))) ?_)
    refine g_cond rfl (fun h1 => ?_) (fun h1 => ?_)
    · try with_reducible exact ft_elim h1
      all_goals
        try replace h1 := of_decide_eq_true h1
        have hN : sizeN x = x.entries.length := if_pos h1
        refine g_drawR ord_f66_r4_C07b (by kernel_rfl) T.mixed hw (fun w hw => ?_)
        refine rs_a 0 rfl rfl rfl rfl (v_fieldAddr0 T.fld_110_0_0 rfl) ?_
        refine rs_a 1 rfl rfl rfl rfl (v_fieldAddr0 T.fld_32_1_1 rfl) ?_
        refine rs_a 3 rfl rfl rfl rfl (v_move rfl) ?_
        refine rs_a 6 rfl rfl rfl rfl (v_fieldAddr0 T.fld_110_0_0 rfl) ?_
        refine rs_a 7 rfl rfl rfl rfl (v_fieldAddr0 T.fld_32_1_1 rfl) ?_
        refine rs_a 9 rfl rfl rfl rfl (v_move rfl) ?_
        refine rs_v 2 rfl rfl rfl rfl (OpV.mono (v_load T.scal_29 rfl) (fun w hw => by exact sat_cell hw (by (repeat first | with_reducible exact xH | apply xT); first | done | fail) rfl)) (by exact hw) ?_
        refine rs_a 4 rfl rfl rfl rfl (v_sliceTo T.sl_29_49_2 rfl rfl (by omega) (by omega)) ?_
        refine rs_v 8 rfl rfl rfl rfl (OpV.mono (v_load T.scal_29 rfl) (fun w hw => by exact sat_cell hw (by (repeat first | with_reducible exact xH | apply xT); first | done | fail) rfl)) (by exact hw) ?_
        refine rs_a 10 rfl rfl rfl rfl (v_sliceFromA T.sl_29_49_2 rfl rfl (by omega) (by omega) (by omega)) ?_
        refine rs_k 5 rfl rfl (k_callf Try.func87 rfl rfl rfl rfl ?_)
        refine Calls.mono (cloneEn_calls (rdSl_take k qf (by omega)) (hw.xQ)) ?_
        rintro _ w ⟨v1, cs1, rfl, hels1, hw⟩
        obtain ⟨b1, d1, rfl, _, _, _⟩ := hw.own_shape
        refine ⟨_, rfl, ?_⟩
        refine ⟨fun _ => (by exact Sat.sub hw (by (repeat (first | with_reducible exact Sub.refl _ | exact Sub.nil _ | (apply Sub.cons; focus ((repeat (first | with_reducible exact Pick.here _ | apply Pick.there)); (first | done | fail))) | with_reducible apply Sub.drop)); first | done | fail)), ?_⟩
        refine rs_a 12 rfl rfl rfl rfl (v_fieldAddr0 T.fld_110_0_0 rfl) ?_
        refine rs_a 13 rfl rfl rfl rfl (v_fieldAddr0 T.fld_32_1_1 rfl) ?_
        refine rs_k 11 rfl rfl (k_callf Try.func87 rfl rfl rfl rfl ?_)
        refine Calls.mono (cloneEn_calls (rdSl_from k qf (by omega)) (hw.xQ)) ?_
        rintro _ w ⟨v2, cs2, rfl, hels2, hw⟩
        obtain ⟨b2, d2, rfl, _, _, _⟩ := hw.own_shape
        refine ⟨_, rfl, ?_⟩
        refine ⟨fun hn => absurd (by decide) hn, ?_⟩
        refine rs_k 14 rfl rfl (k_store hw T.scal_29 rfl rfl rfl (by (repeat first | with_reducible exact xH | apply xT); first | done | fail) rfl (by simp only [List.set, Int.reduceToNat, Nat.reduceMul, Nat.reduceAdd]; rfl) (fun w hw => ?_))
        refine ⟨fun hn => absurd (by decide) hn, ?_⟩
        refine rs_kv 15 rfl rfl rfl rfl (S' := fun _ => True) trivial (v_fieldAddr0 T.fld_110_0_0 rfl) ?_
        refine rs_kv 16 rfl rfl rfl rfl (S' := fun _ => True) trivial (v_fieldAddr0 T.fld_32_1_1 rfl) ?_
        refine rs_k 17 rfl rfl (k_store hw T.scal_29 rfl rfl rfl (by (repeat first | with_reducible exact xH | apply xT); first | done | fail) rfl (by simp only [List.set, Int.reduceToNat, Nat.reduceMul, Nat.reduceAdd]; rfl) (fun w hw => ?_))
        refine ⟨fun hn => absurd (by decide) hn, ?_⟩
        refine rs_done (g_le (xS rfl (xS rfl (xS rfl (xS rfl (xS rfl (xS rfl (xS rfl (xS rfl (xS rfl (xS rfl (xS rfl (xS rfl (xS rfl (xS rfl (xS rfl (xS rfl (Fr.le_refl _))))))))))))))))) ?_)
        refine g_seq ?_
        refine g_region ?_
        refine rl_v rfl rfl rfl (by exact sat_cells hw (by (repeat first | with_reducible exact xH | apply xT); first | done | fail) ⟨rfl, rfl, rfl, trivial⟩) (v_loadAgg (vs := [_, _, _]) T.agg_110_3 rfl rfl) ?_
        refine rl_v rfl rfl rfl (by exact sat_cells hw (by (repeat first | with_reducible exact xH | apply xT); first | done | fail) ⟨rfl, rfl, rfl, trivial⟩) (v_loadAgg (vs := [_, _, _]) T.agg_110_3 rfl rfl) ?_
        refine rl_k rfl (k_buildSlice (cells := [_, _, _, _, _, _]) hw T.sl_103_110_3 T.zero_110 rfl rfl rfl rfl rfl rfl (fun bk6_2 w hw => ?_))
        refine xV rfl rfl rfl (v_assign rfl) ?_
        refine rl_nil (g_le (xK (xS rfl (xS rfl (xS rfl (Fr.le_refl _))))) ?_)
        refine g_ret1 Try.func66 rfl rfl ?_
        rw [h1] at hw
        have hh : halvesN x = [⟨true, x.entries.take k, []⟩, ⟨true, x.entries.drop k, []⟩] := by unfold halvesN; rw [if_pos h1, ← hk]
        rw [hh]
        have hs1 := hs.1
        have hs2 := hs.2
        obtain ⟨g1, l1, r1, hw⟩ := (hw.xQ : Sat E w (RO g :: OwnSl 49 2 (.slice b1 (x.entries.take k).length d1) (x.entries.take k).length cs1 :: OwnSl 49 2 (.slice b2 (x.entries.drop k).length d2) (x.entries.drop k).length cs2 :: pt bk6_2 (.cells [.bool true, .slice b1 (x.entries.take k).length d1, .slice none 0 0, .bool true, .slice b2 (x.entries.drop k).length d2, .slice none 0 0].toArray 110 (0, 0)) :: L)).freeze_sl (bytes := 40) mono_En hels1 rfl (by simp only [reachBytes, List.length_take]; omega)
        obtain ⟨g2, l2, r2, hw⟩ := hw.freeze_sl (bytes := 40) mono_En (hels2.mono mono_En l1) rfl (by simp only [reachBytes, List.length_drop]; omega)
        obtain ⟨g3, l3, r3, hw⟩ := hw.freeze_lit (R := rdNd) (sz := 3) (bytes := 56) mono_Nd (xs := [⟨true, x.entries.take k, []⟩, ⟨true, x.entries.drop k, []⟩]) ((Els.one (cs := [.bool true, .slice b1 (x.entries.take k).length d1, .slice none 0 0]) rfl ⟨_, _, _, rfl, rfl, (mono_sl mono_En l2 r1), rdSl_nil _⟩).append (Els.one (cs := [.bool true, .slice b2 (x.entries.drop k).length d2, .slice none 0 0]) rfl ⟨_, _, _, rfl, rfl, r2, rdSl_nil _⟩)) rfl (by simp [maxLen]) (by simp [reachBytes])
        exact ⟨g3, _, _, l1.trans (l2.trans l3), rfl, r3, hw⟩
    · try with_reducible exact tf_elim h1
      all_goals
        try replace h1 := of_decide_eq_false h1
        have hN : sizeN x = x.kids.length := if_neg (by simp [h1])
        refine g_drawR ord_f66_r5_C07b (by kernel_rfl) T.mixed hw (fun w hw => ?_)
        refine rs_a 0 rfl rfl rfl rfl (v_fieldAddr0 T.fld_110_0_0 rfl) ?_
        refine rs_a 1 rfl rfl rfl rfl (v_fieldAddr0 T.fld_32_2_2 rfl) ?_
        refine rs_a 3 rfl rfl rfl rfl (v_move rfl) ?_
        refine rs_a 6 rfl rfl rfl rfl (v_fieldAddr0 T.fld_110_0_0 rfl) ?_
        refine rs_a 7 rfl rfl rfl rfl (v_fieldAddr0 T.fld_32_2_2 rfl) ?_
        refine rs_a 9 rfl rfl rfl rfl (v_move rfl) ?_
        refine rs_v 2 rfl rfl rfl rfl (OpV.mono (v_load T.scal_30 rfl) (fun w hw => by exact sat_cell hw (by (repeat first | with_reducible exact xH | apply xT); first | done | fail) rfl)) (by exact hw) ?_
        refine rs_a 4 rfl rfl rfl rfl (v_sliceTo T.sl_30_70_5 rfl rfl (by omega) (by omega)) ?_
        refine rs_v 8 rfl rfl rfl rfl (OpV.mono (v_load T.scal_30 rfl) (fun w hw => by exact sat_cell hw (by (repeat first | with_reducible exact xH | apply xT); first | done | fail) rfl)) (by exact hw) ?_
        refine rs_a 10 rfl rfl rfl rfl (v_sliceFromA T.sl_30_70_5 rfl rfl (by omega) (by omega) (by omega)) ?_
        refine rs_k 5 rfl rfl (k_callf Try.func62 rfl rfl rfl rfl ?_)
        refine Calls.mono (cloneKds_calls (rdSl_take k qg (by omega)) (hw.xQ)) ?_
        rintro _ w ⟨v1, rfl, hw⟩
        obtain ⟨b1, d1, rfl, _, _, _⟩ := hw.own_shape
        refine ⟨_, rfl, ?_⟩
        refine ⟨fun _ => (by exact Sat.sub hw (by (repeat (first | with_reducible exact Sub.refl _ | exact Sub.nil _ | (apply Sub.cons; focus ((repeat (first | with_reducible exact Pick.here _ | apply Pick.there)); (first | done | fail))) | with_reducible apply Sub.drop)); first | done | fail)), ?_⟩
        refine rs_a 12 rfl rfl rfl rfl (v_fieldAddr0 T.fld_110_0_0 rfl) ?_
        refine rs_a 13 rfl rfl rfl rfl (v_fieldAddr0 T.fld_32_2_2 rfl) ?_
        refine rs_k 11 rfl rfl (k_callf Try.func62 rfl rfl rfl rfl ?_)
        refine Calls.mono (cloneKds_calls (rdSl_from k qg (by omega)) (hw.xQ)) ?_
        rintro _ w ⟨v2, rfl, hw⟩
        obtain ⟨b2, d2, rfl, _, _, _⟩ := hw.own_shape
        refine ⟨_, rfl, ?_⟩
        refine ⟨fun hn => absurd (by decide) hn, ?_⟩
        refine rs_k 14 rfl rfl (k_store hw T.scal_30 rfl rfl rfl (by (repeat first | with_reducible exact xH | apply xT); first | done | fail) rfl (by simp only [List.set, Int.reduceToNat, Nat.reduceMul, Nat.reduceAdd]; rfl) (fun w hw => ?_))
        refine ⟨fun hn => absurd (by decide) hn, ?_⟩
        refine rs_kv 15 rfl rfl rfl rfl (S' := fun _ => True) trivial (v_fieldAddr0 T.fld_110_0_0 rfl) ?_
        refine rs_kv 16 rfl rfl rfl rfl (S' := fun _ => True) trivial (v_fieldAddr0 T.fld_32_2_2 rfl) ?_
        refine rs_k 17 rfl rfl (k_store hw T.scal_30 rfl rfl rfl (by (repeat first | with_reducible exact xH | apply xT); first | done | fail) rfl (by simp only [List.set, Int.reduceToNat, Nat.reduceMul, Nat.reduceAdd]; rfl) (fun w hw => ?_))
        refine ⟨fun hn => absurd (by decide) hn, ?_⟩
        refine rs_done (g_le (xS rfl (xS rfl (xS rfl (xS rfl (xS rfl (xS rfl (xS rfl (xS rfl (xS rfl (xS rfl (xS rfl (xS rfl (xS rfl (xS rfl (xS rfl (xS rfl (Fr.le_refl _))))))))))))))))) ?_)
        refine g_seq ?_
        refine g_region ?_
        refine rl_v rfl rfl rfl (by exact sat_cells hw (by (repeat first | with_reducible exact xH | apply xT); first | done | fail) ⟨rfl, rfl, rfl, trivial⟩) (v_loadAgg (vs := [_, _, _]) T.agg_110_3 rfl rfl) ?_
        refine rl_v rfl rfl rfl (by exact sat_cells hw (by (repeat first | with_reducible exact xH | apply xT); first | done | fail) ⟨rfl, rfl, rfl, trivial⟩) (v_loadAgg (vs := [_, _, _]) T.agg_110_3 rfl rfl) ?_
        refine rl_k rfl (k_buildSlice (cells := [_, _, _, _, _, _]) hw T.sl_103_110_3 T.zero_110 rfl rfl rfl rfl rfl rfl (fun bk6_2 w hw => ?_))
        refine xV rfl rfl rfl (v_assign rfl) ?_
        refine rl_nil (g_le (xK (xS rfl (xS rfl (xS rfl (Fr.le_refl _))))) ?_)
        refine g_ret1 Try.func66 rfl rfl ?_
        rw [h1] at hw
        have hh : halvesN x = [⟨false, [], x.kids.take k⟩, ⟨false, [], x.kids.drop k⟩] := by unfold halvesN; rw [if_neg (by simp [h1]), ← hk]
        rw [hh]
        have hs1 := hs.1
        have hs2 := hs.2
        obtain ⟨g1, l1, r1, hw⟩ := (hw.xQ : Sat E w (RO g :: OwnSl 70 5 (.slice b1 (x.kids.take k).length d1) (x.kids.take k).length ((x.kids.take k).flatMap Kd.cells) :: OwnSl 70 5 (.slice b2 (x.kids.drop k).length d2) (x.kids.drop k).length ((x.kids.drop k).flatMap Kd.cells) :: pt bk6_2 (.cells [.bool false, .slice none 0 0, .slice b1 (x.kids.take k).length d1, .bool false, .slice none 0 0, .slice b2 (x.kids.drop k).length d2].toArray 110 (0, 0)) :: L)).freeze_sl (bytes := 48) mono_Kd (els_Kd (fun z hz => hfx.2.2.1 z (List.mem_of_mem_take hz))) rfl (by simp only [reachBytes, List.length_take]; omega)
        obtain ⟨g2, l2, r2, hw⟩ := hw.freeze_sl (bytes := 48) mono_Kd (els_Kd (fun z hz => hfx.2.2.1 z (List.mem_of_mem_drop hz))) rfl (by simp only [reachBytes, List.length_drop]; omega)
        obtain ⟨g3, l3, r3, hw⟩ := hw.freeze_lit (R := rdNd) (sz := 3) (bytes := 56) mono_Nd (xs := [⟨false, [], x.kids.take k⟩, ⟨false, [], x.kids.drop k⟩]) ((Els.one (cs := [.bool false, .slice none 0 0, .slice b1 (x.kids.take k).length d1]) rfl ⟨_, _, _, rfl, rfl, rdSl_nil _, (mono_sl mono_Kd l2 r1)⟩).append (Els.one (cs := [.bool false, .slice none 0 0, .slice b2 (x.kids.drop k).length d2]) rfl ⟨_, _, _, rfl, rfl, rdSl_nil _, r2⟩)) rfl (by simp [maxLen]) (by simp [reachBytes])
        exact ⟨g3, _, _, l1.trans (l2.trans l3), rfl, r3, hw⟩
end Go.Proofs.Ytmbngahboaljpaa
