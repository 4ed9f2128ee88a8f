/-
  The search tree over any pages: what comes of a page with a secret taken out; Delete.
-/
import Derived.Test.YtmbngahboaljpaaC07h
namespace Go.Proofs.Ytmbngahboaljpaa
set_option maxRecDepth 8000
set_option linter.unusedSimpArgs false
set_option linter.unusedVariables false
open Go Xe
section
variable {τ : Type} (P : PgOps τ)
theorem takeO_bad {k : Nat} {s s1 : τ} {r : Rf} {name : ByteArray} {x : Nd} {bad : Int} (h : atO P k s r = (x, bad, s1)) (hb : bad ≠ 0) : takeO P k s r name = (nd0, false, bad, s1) := by
  cases k with
  | zero => simp only [atO, Prod.mk.injEq] at h; obtain ⟨_, rfl, rfl⟩ := h; rfl
  | succ k => simp only [atO] at h; simp only [takeO, h]; exact if_pos hb
theorem takeO_leaf {k : Nat} {s s1 : τ} {r : Rf} {name : ByteArray} {x : Nd} (h : at1 P s r = (x, 0, s1)) (hl : x.leaf = true) :
    takeO P (k + 1) s r name = (⟨true, if searchB x.entries name = true then x.entries.eraseIdx (searchI x.entries name) else x.entries, x.kids⟩, searchB x.entries name, 0, s1) := by
  simp only [takeO, h]; rw [if_neg (by simp), if_pos hl]
theorem takeO_no {k : Nat} {s s1 s2 : τ} {r : Rf} {name : ByteArray} {x y : Nd} {is : Bool} {b2 : Int} (h : at1 P s r = (x, 0, s1)) (hl : x.leaf = false) (hr : takeO P k s1 (x.kids.getD (belowN x.kids name) kd0).ref name = (y, is, b2, s2)) (hb : b2 ≠ 0 ∨ is = false) :
    takeO P (k + 1) s r name = (nd0, false, b2, s2) := by
  simp only [takeO, h]; rw [if_neg (by simp), if_neg (by simp [hl])]; simp only [hr]; exact if_pos hb
/-- A page whose kids were put together anew. -/
def endO (x : Nd) (f t : Nat) (l : List Nd × Int × τ) : Nd × Bool × Int × τ :=
  if l.2.1 ≠ 0 then (nd0, false, l.2.1, l.2.2) else
  if (layO P l.2.2 l.1 []).2.1 ≠ 0 then (nd0, false, (layO P l.2.2 l.1 []).2.1, (layO P l.2.2 l.1 []).2.2) else (reN x f t (layO P l.2.2 l.1 []).1, true, 0, (layO P l.2.2 l.1 []).2.2)
theorem takeO_level {k : Nat} {s s1 s2 : τ} {r : Rf} {name : ByteArray} {x y : Nd} {i : Nat} (h : at1 P s r = (x, 0, s1)) (hl : x.leaf = false) (hi : i = belowN x.kids name) (hr : takeO P k s1 (x.kids.getD (belowN x.kids name) kd0).ref name = (y, true, 0, s2)) (hc : sizeN y < 2 ∧ 1 < x.kids.length) :
    takeO P (k + 1) s r name = endO P x (min i (x.kids.length - 2)) (min i (x.kids.length - 2) + 2) (levelO P k s2 x i (min i (x.kids.length - 2)) y) := by
  subst hi
  simp only [takeO, h]; rw [if_neg (by simp), if_neg (by simp [hl])]; simp only [hr]; rw [if_neg (by simp)]; simp only [if_pos hc]; rfl
theorem takeO_plain {k : Nat} {s s1 s2 : τ} {r : Rf} {name : ByteArray} {x y : Nd} {i : Nat} (h : at1 P s r = (x, 0, s1)) (hl : x.leaf = false) (hi : i = belowN x.kids name) (hr : takeO P k s1 (x.kids.getD (belowN x.kids name) kd0).ref name = (y, true, 0, s2)) (hc : ¬ (sizeN y < 2 ∧ 1 < x.kids.length)) :
    takeO P (k + 1) s r name = endO P x i (i + 1) ([y], 0, s2) := by
  subst hi
  simp only [takeO, h]; rw [if_neg (by simp), if_neg (by simp [hl])]; simp only [hr]; rw [if_neg (by simp)]; simp only [if_neg hc]; rfl
theorem levelO_len {k : Nat} {s : τ} {x y : Nd} {i f : Nat} : (levelO P k s x i f y).1.length ≤ 2 ∧ ((levelO P k s x i f y).2.1 = 0 → 1 ≤ (levelO P k s x i f y).1.length) := by
  rcases hq : atO P k s (x.kids.getD (2 * f + 1 - i) kd0).ref with ⟨z, bad, s1⟩
  by_cases hb : bad = 0
  · subst hb
    by_cases hl : z.leaf = y.leaf
    · rw [levelO_ok P hq hl]
      have := evenN_len (if 2 * f + 1 - i < i then withN z y else withN y z)
      exact ⟨this.2, fun _ => this.1⟩
    · rw [levelO_leaf P hq hl]; simp
  · rw [levelO_bad P hq hb]; exact ⟨by simp, fun h => absurd h hb⟩
end
theorem ord_f52_r10_C07i : orderOfB Try.f52 10 [11, 17] (.a 1 (.a 2 (.a 4 (.a 8 (.a 9 (.a 10 (.v 0 (.v 3 (.a 5 (.a 6 (.v 7 (.b2 11 16 (.a 12 (.a 13 (.a 14 (.a 15 (.k 16 (.k 17 (.k 18 (.k 19 .done)))))))) (.k 11 (.k 12 (.a 13 (.a 14 (.a 15 (.k 17 (.k 18 (.k 19 .done)))))))))))))))))))) = true := by kernel_rfl
set_option maxHeartbeats 4000000 in
theorem take_calls {τ : Type} (D : Pg τ) (name : ByteArray) (k : Nat) : ∀ {E : Env} {w : World} {L : List As} {g : Hp} {s : τ} {A : As} (r : Rf) (_ : r.ok) (deep : Int) (_ : 0 ≤ deep) (_ : deep + k = 9) (_ : D.I g s A) (_ : Sat E w (A :: RO g :: L)),
    Calls Try.prog 52 #[.agg #[.iface D.t D.u], .agg r.cells.toArray, .string name, .int .i64 deep] w fun v w' =>
    ∃ g' A' ea ec ka kc, g.le g' ∧ D.I g' (takeO D.ops k s r name).2.2.2 A' ∧ v = .returned (.tuple #[.agg #[.bool (takeO D.ops k s r name).1.leaf, .slice ea (takeO D.ops k s r name).1.entries.length ec, .slice ka (takeO D.ops k s r name).1.kids.length kc], .bool (takeO D.ops k s r name).2.1, .int .i64 (takeO D.ops k s r name).2.2.1]) ∧
      rdNd g' [.bool (takeO D.ops k s r name).1.leaf, .slice ea (takeO D.ops k s r name).1.entries.length ec, .slice ka (takeO D.ops k s r name).1.kids.length kc] (takeO D.ops k s r name).1 ∧ (takeO D.ops k s r name).1.small ∧ Sat E w' (A' :: RO g' :: L) := by
  have hnd0 : ∀ g, rdNd g [.bool nd0.leaf, .slice none nd0.entries.length 0, .slice none nd0.kids.length 0] nd0 := fun g => ⟨_, _, _, rfl, rfl, rdSl_nil _, rdSl_nil _⟩
  induction k using Nat.strongRecOn with
  | ind k ih =>
  intro E w L g s A r hr deep hd0 hk hI hw
  refine calls_of_g (n := 139) Try.func52 rfl rfl rfl ?_
  change G _ _ _ _ _ [(0, _), (1, _), (2, _), (3, _)] _
  refine g_seq ?_
  refine g_region ?_
  refine rl_k rfl (k_box hw rfl rfl rfl (fun bk0_0 w hw => ?_))
  refine rl_k rfl (k_box hw rfl rfl rfl (fun bk0_1 w hw => ?_))
  refine rl_k rfl (k_alloc hw T.zero_110 rfl rfl (fun bk0_2 w hw => ?_))
  refine xV rfl rfl rfl (v_assign rfl) ?_
  refine xV rfl rfl rfl (v_assign rfl) ?_
  refine rl_nil (g_le (xK (xK (xK (xK (xK (Fr.le_refl _)))))) ?_)
  refine g_seq ?_
  refine g_region ?_
  refine rl_v rfl rfl rfl (by exact sat_cells hw (by (repeat first | with_reducible exact xH | apply xT); first | done | fail) ⟨rfl, trivial⟩) (v_loadAgg (vs := [_]) T.agg_102_1 rfl rfl) ?_
  refine rl_v rfl rfl rfl (by exact sat_cells hw (by (repeat first | with_reducible exact xH | apply xT); first | done | fail) ⟨rfl, rfl, rfl, rfl, trivial⟩) (v_loadAgg (vs := [_, _, _, _]) T.agg_25_4 rfl rfl) ?_
  refine xV rfl rfl rfl (v_move rfl) ?_
  refine rl_k rfl (k_callf Try.func46 rfl rfl rfl rfl ?_)
  refine Calls.mono (at_calls D r hr k deep hk hI (hw.xQ)) ?_
  generalize hq : atO D.ops k s r = q
  obtain ⟨x, bad, s1⟩ := q
  dsimp only
  rintro _ w ⟨g1, A1, ea, ec, ka, kc, cells, hg1, hI1, rfl, hels, hfine, hsm, hw⟩
  refine ⟨_, rfl, ?_⟩
  refine xV rfl rfl rfl (v_move rfl) ?_
  refine xV rfl rfl rfl (v_extract rfl rfl) ?_
  refine xV rfl rfl rfl (v_extract rfl rfl) ?_
  refine rl_k rfl (k_alloc hw T.zero_110 rfl rfl (fun bk1_7 w hw => ?_))
  refine rl_k rfl (k_storeWhole hw T.agg_110_3 rfl rfl (by simp [Value.oneCell']) rfl (by (repeat first | with_reducible exact xH | apply xT); first | done | fail) rfl (fun w hw => ?_))
  refine xV rfl rfl rfl (v_assign rfl) ?_
  refine rl_nil (g_le (xK (xK (xS rfl (xS rfl (xS rfl (xS rfl (xS rfl (xS rfl (xS rfl (Fr.le_refl _)))))))))) ?_)
  refine g_seq (g_seq ?_)
  refine g_region ?_
  refine xV rfl rfl rfl (v_move rfl) ?_
  refine xV rfl rfl rfl (v_neq rfl rfl) ?_
  refine rl_nil (g_le (xK (xS rfl (Fr.le_refl _))) ?_)
  refine g_cond rfl (fun h1 => ?_) (fun h1 => ?_)
  · try with_reducible exact ft_elim h1
    all_goals
      try replace h1 := of_decide_eq_true h1
      refine g_seq ?_
      refine g_region ?_
      refine xV rfl rfl rfl (v_build rfl (T.build_110 ..)) ?_
      refine xV rfl rfl rfl (v_move rfl) ?_
      refine rl_k rfl (k_storeWhole hw T.agg_110_3 rfl rfl (by simp [Value.oneCell']) rfl (by (repeat first | with_reducible exact xH | apply xT); first | done | fail) rfl (fun w hw => ?_))
      refine xV rfl rfl rfl (v_assign rfl) ?_
      refine xV rfl rfl rfl (v_assign rfl) ?_
      refine rl_nil (g_le (xK (xK (xS rfl (xS rfl (Fr.le_refl _))))) ?_)
      refine g_res3 Try.func52 rfl ⟨_, rfl, holds_agg (vs := [_, _, _]) T.agg_110_3 rfl (by exact sat_cells hw (by (repeat first | with_reducible exact xH | apply xT); first | done | fail) ⟨rfl, rfl, rfl, trivial⟩)⟩ rfl rfl ?_
      rw [takeO_bad D.ops hq h1]
      exact ⟨g1, A1, none, 0, none, 0, hg1, hI1, rfl, hnd0 _, nd0_small, hw.xQ⟩
  · try with_reducible exact tf_elim h1
    all_goals
      try replace h1 := of_decide_eq_false h1
      obtain rfl : bad = 0 := by omega
      obtain ⟨q, rfl, hat⟩ := atO_zero D.ops hq
      have hsm1 := hsm.1
      have hsm2 := hsm.2.1
      have hsm3 := hsm.2.2.1
      have hsm4 := hsm.2.2.2
      refine g_skip (g_seq (g_seq ?_))
      refine g_region ?_
      refine xV rfl rfl rfl (v_fieldAddr0 T.fld_110_0_0 rfl) ?_
      refine xV rfl rfl rfl (v_fieldAddr0 T.fld_32_0_0 rfl) ?_
      refine rl_v rfl rfl rfl (by exact sat_cell hw (by (repeat first | with_reducible exact xH | apply xT); first | done | fail) rfl) (v_load T.scal_4 rfl) ?_
      refine rl_nil (g_le (xK (xS rfl (xS rfl (Fr.le_refl _)))) ?_)
      refine g_cond rfl (fun h2 => ?_) (fun h2 => ?_)
      · try with_reducible exact ft_elim h2
        all_goals
          try replace h2 := of_decide_eq_true h2
          have hto := takeO_leaf D.ops (k := q) (name := name) hat h2
          refine g_seq ?_
          refine g_region ?_
          refine rl_v rfl rfl rfl (by exact sat_cells hw (by (repeat first | with_reducible exact xH | apply xT); first | done | fail) ⟨rfl, rfl, rfl, trivial⟩) (v_loadAgg (vs := [_, _, _]) T.agg_110_3 rfl rfl) ?_
          refine xV rfl rfl rfl (v_move rfl) ?_
          refine rl_k rfl (k_callf Try.func48 rfl rfl rfl rfl ?_)
          refine Calls.mono (search_calls x.leaf name hels rfl (by omega) (hw.xQ)) ?_
          rintro _ w ⟨rfl, hw⟩
          refine ⟨_, rfl, ?_⟩
          refine xV rfl rfl rfl (v_move rfl) ?_
          refine xV rfl rfl rfl (v_extract rfl rfl) ?_
          refine xV rfl rfl rfl (v_extract rfl rfl) ?_
          refine xV rfl rfl rfl (v_assign rfl) ?_
          refine xV rfl rfl rfl (v_assign rfl) ?_
          refine rl_nil (g_le (xK (xK (xS rfl (xS rfl (xS rfl (xS rfl (xS rfl (xS rfl (Fr.le_refl _))))))))) ?_)
          refine g_seq (g_seq ?_)
          refine g_region ?_
          refine xV rfl rfl rfl (v_move rfl) ?_
          refine rl_nil (g_le (xK (Fr.le_refl _)) ?_)
          refine g_cond rfl (fun h3 => ?_) (fun h3 => ?_)
          · try with_reducible exact ft_elim h3
            all_goals
              try replace h3 := of_decide_eq_true h3
              have hfi : searchI x.entries name < x.entries.length := by unfold searchB at h3; simp only [Bool.and_eq_true, decide_eq_true_eq] at h3; exact h3.1
              rw [if_pos h3] at hto
              refine g_region ?_
              refine xV rfl rfl rfl (v_fieldAddr0 T.fld_110_0_0 rfl) ?_
              refine xV rfl rfl rfl (v_fieldAddr0 T.fld_32_1_1 rfl) ?_
              refine rl_v rfl rfl rfl (by exact sat_cell hw (by (repeat first | with_reducible exact xH | apply xT); first | done | fail) rfl) (v_load T.scal_29 rfl) ?_
              refine xV rfl rfl rfl (v_move rfl) ?_
              refine xV rfl rfl rfl (v_move rfl) ?_
              refine xV rfl rfl rfl (v_add rfl rfl (by omega)) ?_
              refine rl_k rfl (k_callf Try.func71 rfl rfl rfl rfl ?_)
              refine Calls.mono (deleteEn_calls (i := searchI x.entries name) hfi (by omega) (hels.ones one_En) (hw.xQ)) ?_
              rintro _ w ⟨v9, rfl, hw⟩
              obtain ⟨b9, c9, rfl, _, _, _⟩ := hw.own_shape
              refine ⟨_, rfl, ?_⟩
              refine xV rfl rfl rfl (v_fieldAddr0 T.fld_110_0_0 rfl) ?_
              refine xV rfl rfl rfl (v_fieldAddr0 T.fld_32_1_1 rfl) ?_
              refine rl_k rfl (k_store hw T.scal_29 rfl rfl rfl (by (repeat first | with_reducible exact xH | apply xT); first | done | fail) rfl (by simp only [List.set, Int.reduceToNat, Nat.reduceMul, Nat.reduceAdd]; rfl) (fun w hw => ?_))
              refine rl_nil (g_le (xS rfl (xS rfl (xS rfl (xS rfl (xS rfl (xS rfl (xS rfl (xS rfl (xS rfl (Fr.le_refl _)))))))))) ?_)
              refine g_seq ?_
              refine g_region ?_
              refine rl_v rfl rfl rfl (by exact sat_cells hw (by (repeat first | with_reducible exact xH | apply xT); first | done | fail) ⟨rfl, rfl, rfl, trivial⟩) (v_loadAgg (vs := [_, _, _]) T.agg_110_3 rfl rfl) ?_
              refine xV rfl rfl rfl (v_move rfl) ?_
              refine rl_k rfl (k_storeWhole hw T.agg_110_3 rfl rfl (by simp [Value.oneCell']) rfl (by (repeat first | with_reducible exact xH | apply xT); first | done | fail) rfl (fun w hw => ?_))
              refine xV rfl rfl rfl (v_assign rfl) ?_
              refine xV rfl rfl rfl (v_assign rfl) ?_
              refine rl_nil (g_le (xK (xK (xS rfl (xS rfl (Fr.le_refl _))))) ?_)
              refine g_res3 Try.func52 rfl ⟨_, rfl, holds_agg (vs := [_, _, _]) T.agg_110_3 rfl (by exact sat_cells hw (by (repeat first | with_reducible exact xH | apply xT); first | done | fail) ⟨rfl, rfl, rfl, trivial⟩)⟩ rfl rfl ?_
              have hel : (x.entries.eraseIdx (searchI x.entries name)).length = x.entries.length - 1 := List.length_eraseIdx_of_lt hfi
              rw [h2] at hw
              rw [← hel] at hw
              obtain ⟨g2, hg2, hnd, hw⟩ := nd_stands (x := ⟨true, x.entries.eraseIdx (searchI x.entries name), x.kids⟩) (hels.erase hfi) hfine.2.2.1 ⟨by simp only [hel]; omega, by simp only; omega⟩ (hw.xQ : Sat E w (RO g1 :: OwnSl 49 2 (.slice b9 (x.entries.eraseIdx (searchI x.entries name)).length c9) (x.entries.eraseIdx (searchI x.entries name)).length (cells.take (searchI x.entries name * 2) ++ cells.drop (searchI x.entries name * 2 + 2)) :: OwnSl 70 5 (.slice ka x.kids.length kc) x.kids.length (x.kids.flatMap Kd.cells) :: A1 :: L))
              rw [hto, h2, h3, ← hel]
              exact ⟨g2, A1, b9, c9, ka, kc, hg1.trans hg2, D.mono hg2 hI1, rfl, hnd, ⟨by simp only [hel]; omega, by simp only; omega, fun _ => hsm3 h2, fun h => by simp at h⟩, hw.xQ⟩
          · try with_reducible exact tf_elim h3
            all_goals
              try replace h3 := of_decide_eq_false h3
              rw [if_neg (by simp [h3])] at hto
              refine g_skip (g_seq ?_)
              refine g_region ?_
              refine rl_v rfl rfl rfl (by exact sat_cells hw (by (repeat first | with_reducible exact xH | apply xT); first | done | fail) ⟨rfl, rfl, rfl, trivial⟩) (v_loadAgg (vs := [_, _, _]) T.agg_110_3 rfl rfl) ?_
              refine xV rfl rfl rfl (v_move rfl) ?_
              refine rl_k rfl (k_storeWhole hw T.agg_110_3 rfl rfl (by simp [Value.oneCell']) rfl (by (repeat first | with_reducible exact xH | apply xT); first | done | fail) rfl (fun w hw => ?_))
              refine xV rfl rfl rfl (v_assign rfl) ?_
              refine xV rfl rfl rfl (v_assign rfl) ?_
              refine rl_nil (g_le (xK (xK (xS rfl (xS rfl (Fr.le_refl _))))) ?_)
              refine g_res3 Try.func52 rfl ⟨_, rfl, holds_agg (vs := [_, _, _]) T.agg_110_3 rfl (by exact sat_cells hw (by (repeat first | with_reducible exact xH | apply xT); first | done | fail) ⟨rfl, rfl, rfl, trivial⟩)⟩ rfl rfl ?_
              rw [h2] at hw
              obtain ⟨g2, hg2, hnd, hw⟩ := nd_stands (x := ⟨true, x.entries, x.kids⟩) hels hfine.2.2.1 ⟨by simp only; omega, by simp only; omega⟩ (hw.xQ : Sat E w (RO g1 :: OwnSl 49 2 (.slice ea x.entries.length ec) x.entries.length cells :: OwnSl 70 5 (.slice ka x.kids.length kc) x.kids.length (x.kids.flatMap Kd.cells) :: A1 :: L))
              rw [hto, h2, h3]
              exact ⟨g2, A1, ea, ec, ka, kc, hg1.trans hg2, D.mono hg2 hI1, rfl, hnd, ⟨by simp only; omega, by simp only; omega, fun _ => hsm3 h2, fun h => by simp at h⟩, hw.xQ⟩
      · try with_reducible exact tf_elim h2
        all_goals
          try replace h2 := of_decide_eq_false h2
          have hk0 := at1_kids D.ops hat h2
          have hbl := belowN_lt hk0 name
          obtain ⟨i, hi⟩ : ∃ i, i = belowN x.kids name := ⟨_, rfl⟩
          rw [← hi] at hbl
          obtain ⟨y, hy⟩ : ∃ y, x.kids[i]? = some y := ⟨_, List.getElem?_eq_getElem hbl⟩
          have hyok := hfine.2.2.1 y (List.mem_of_getElem? hy)
          have hsub := subAt_flat (f := Kd.cells) (sz := 5) (fun _ => rfl) hy
          have hsubr : SubAt (x.kids.flatMap Kd.cells) (0 + (i : Int).toNat * 5 + 1) y.ref.cells := hsub.2
          have hgy : x.kids.getD (belowN x.kids name) kd0 = y := by rw [← hi, List.getD_eq_getElem?_getD, hy]; rfl
          obtain ⟨a9, c9, hv9, _, _, ha9⟩ := (hw.xP (A := OwnSl 70 5 (.slice ka x.kids.length kc) x.kids.length (x.kids.flatMap Kd.cells))).own_shape
          simp only [Value.slice.injEq] at hv9
          obtain ⟨rfl, _, rfl⟩ := hv9
          have hz := hw
          clear hw
          obtain ⟨gb, rfl⟩ := ha9 (by omega)
          have hw := hz
          refine g_skip (g_seq ?_)
          refine g_region ?_
          refine rl_v rfl rfl rfl (by exact sat_cells hw (by (repeat first | with_reducible exact xH | apply xT); first | done | fail) ⟨rfl, rfl, rfl, trivial⟩) (v_loadAgg (vs := [_, _, _]) T.agg_110_3 rfl rfl) ?_
          refine xV rfl rfl rfl (v_move rfl) ?_
          refine rl_k rfl (k_callf Try.func47 rfl rfl rfl rfl ?_)
          refine Calls.mono (below_calls name x.leaf ea (some ⟨gb, 0, none⟩) x.entries.length ec kc hk0 (by omega) (hw.xQ)) ?_
          rw [← hi]
          rintro _ w ⟨rfl, hw⟩
          refine ⟨_, rfl, ?_⟩
          refine xV rfl rfl rfl (v_assign rfl) ?_
          refine rl_nil (g_le (xK (xS rfl (xS rfl (xS rfl (Fr.le_refl _))))) ?_)
          refine g_seq ?_
          have hw := hw.xP (A := A1)
          refine g_drawB ord_f52_r10_C07i (by kernel_rfl) T.mixed (fun w hw => (hw.pick .at0).drop) hw (fun w hw => ?_)
          refine rs_a 1 rfl rfl rfl rfl (v_fieldAddr0 T.fld_110_0_0 rfl) ?_
          refine rs_a 2 rfl rfl rfl rfl (v_fieldAddr0 T.fld_32_2_2 rfl) ?_
          refine rs_a 4 rfl rfl rfl rfl (v_move rfl) ?_
          refine rs_a 8 rfl rfl rfl rfl (v_move rfl) ?_
          refine rs_a 9 rfl rfl rfl rfl (v_move rfl) ?_
          refine rs_a 10 rfl rfl rfl rfl (v_add rfl rfl (by omega)) ?_
          refine rs_v 0 rfl rfl rfl rfl (OpV.mono (v_loadAgg (vs := [_]) T.agg_102_1 rfl rfl) (fun w hw => by exact sat_cells hw (by (repeat first | with_reducible exact xH | apply xT); first | done | fail) ⟨rfl, trivial⟩)) (by exact Sat.sub hw (by (repeat (first | with_reducible exact Sub.refl _ | exact Sub.nil _ | (apply Sub.cons; focus ((repeat (first | with_reducible exact Pick.here _ | apply Pick.there)); (first | done | fail))) | with_reducible apply Sub.drop)); first | done | fail)) ?_
          refine rs_v 3 rfl rfl rfl rfl (OpV.mono (v_load T.scal_30 rfl) (fun w hw => by exact sat_cell hw (by (repeat first | with_reducible exact xH | apply xT); first | done | fail) rfl)) (by exact Sat.sub hw (by (repeat (first | with_reducible exact Sub.refl _ | exact Sub.nil _ | (apply Sub.cons; focus ((repeat (first | with_reducible exact Pick.here _ | apply Pick.there)); (first | done | fail))) | with_reducible apply Sub.drop)); first | done | fail)) ?_
          refine rs_a 5 rfl rfl rfl rfl (v_indexAddr T.sl_30_70_5 rfl rfl (by omega) (by omega)) ?_
          refine rs_a 6 rfl rfl rfl rfl (v_fieldAddr T.fld_70_1_1 rfl) ?_
          refine rs_v 7 rfl rfl rfl rfl (OpV.mono (v_loadAgg (vs := [_, _, _, _]) T.agg_25_4 rfl rfl) (fun w hw => by exact own_cells hw (by (repeat first | with_reducible exact xH | apply xT); first | done | fail) (by assumption))) (by exact Sat.sub hw (by (repeat (first | with_reducible exact Sub.refl _ | exact Sub.nil _ | (apply Sub.cons; focus ((repeat (first | with_reducible exact Pick.here _ | apply Pick.there)); (first | done | fail))) | with_reducible apply Sub.drop)); first | done | fail)) ?_
          refine rs_b2 11 16 rfl rfl rfl rfl ?_ ?_ 
          · skip
            refine (k_callf Try.func52 rfl rfl rfl rfl ?_)
            refine Calls.mono (ih q (by omega) y.ref hyok.2 (deep + 1) (by omega) (by omega) hI1 (hw.xQ)) ?_
            generalize hp : takeO D.ops q s1 y.ref name = pq
            obtain ⟨z, is, b2, s2⟩ := pq
            dsimp only
            rintro _ w ⟨g2, A2, za, zc, ya, yc, hg2, hI2, rfl, hznd, hzs, hw⟩
            refine ⟨_, rfl, ?_⟩
            refine ⟨fun hn => absurd (by decide) hn, ?_⟩
            refine rs_a 12 rfl rfl rfl rfl (v_move rfl) ?_
            refine rs_a 13 rfl rfl rfl rfl (v_extract rfl rfl) ?_
            refine rs_a 14 rfl rfl rfl rfl (v_extract rfl rfl) ?_
            refine rs_a 15 rfl rfl rfl rfl (v_extract rfl rfl) ?_
            refine rs_k 16 rfl rfl (k_alloc hw T.zero_110 rfl rfl (fun bk10_16 w hw => ?_))
            refine ⟨fun _ => (by exact Sat.sub (Sat.shrink (Sat.pick hw (by (repeat first | with_reducible exact xH | apply xT); first | done | fail)) (by assumption)) (by (repeat (first | with_reducible exact Sub.refl _ | exact Sub.nil _ | (apply Sub.cons; focus ((repeat (first | with_reducible exact Pick.here _ | apply Pick.there)); (first | done | fail))) | with_reducible apply Sub.drop)); first | done | fail)), ?_⟩
            refine rs_k 17 rfl rfl (k_storeWhole hw T.agg_110_3 rfl rfl (by simp [Value.oneCell']) rfl (by (repeat first | with_reducible exact xH | apply xT); first | done | fail) rfl (fun w hw => ?_))
            refine ⟨fun hn => absurd (by decide) hn, ?_⟩
            refine rs_kv 18 rfl rfl rfl rfl (S' := fun _ => True) trivial (v_assign rfl) ?_
            refine rs_kv 19 rfl rfl rfl rfl (S' := fun _ => True) trivial (v_assign rfl) ?_
            refine rs_done (g_le (xK (xK (xK (xS rfl (xS rfl (xS rfl (xS rfl (xS rfl (xS rfl (xS rfl (xS rfl (xS rfl (xS rfl (xS rfl (xS rfl (xS rfl (xS rfl (xS rfl (xS rfl (Fr.le_refl _)))))))))))))))))))) ?_)
            have hp2 : takeO D.ops q s1 (x.kids.getD (belowN x.kids name) kd0).ref name = (z, is, b2, s2) := hgy ▸ hp
            refine g_seq (g_seq ?_)
            refine g_region ?_
            refine xV rfl rfl rfl (v_move rfl) ?_
            refine xV rfl rfl rfl (v_neq rfl rfl) ?_
            refine xV rfl rfl rfl (v_move rfl) ?_
            refine rl_split (s := 75) rfl (fun g11_2 => ?_) (fun g11_2 => ?_)
            · try with_reducible exact ft_elim g11_2
              all_goals
                try replace g11_2 := of_decide_eq_true g11_2
                refine rl_off (met_off rfl rfl rfl rfl rfl) rfl rfl ?_
                refine rl_off (met_off rfl rfl rfl rfl rfl) rfl rfl ?_
                refine xV rfl rfl rfl (v_pick_true rfl rfl) ?_
                refine rl_nil (g_le (xK (xS rfl (xS rfl (xS rfl (xS rfl (xS rfl (xS rfl (Fr.le_refl _)))))))) ?_)
                refine g_cond_true rfl ?_
                refine g_seq ?_
                refine g_region ?_
                refine xV rfl rfl rfl (v_build rfl (T.build_110 ..)) ?_
                refine xV rfl rfl rfl (v_move rfl) ?_
                refine rl_k rfl (k_storeWhole hw T.agg_110_3 rfl rfl (by simp [Value.oneCell']) rfl (by (repeat first | with_reducible exact xH | apply xT); first | done | fail) rfl (fun w hw => ?_))
                refine xV rfl rfl rfl (v_assign rfl) ?_
                refine xV rfl rfl rfl (v_assign rfl) ?_
                refine rl_nil (g_le (xK (xK (xS rfl (xS rfl (Fr.le_refl _))))) ?_)
                refine g_res3 Try.func52 rfl ⟨_, rfl, holds_agg (vs := [_, _, _]) T.agg_110_3 rfl (by exact sat_cells hw (by (repeat first | with_reducible exact xH | apply xT); first | done | fail) ⟨rfl, rfl, rfl, trivial⟩)⟩ rfl rfl ?_
                rw [takeO_no D.ops hat h2 hp2 (.inl (by simpa using g11_2))]
                exact ⟨g2, A2, none, 0, none, 0, hg1.trans hg2, hI2, rfl, hnd0 _, nd0_small, hw.xQ⟩
            · try with_reducible exact tf_elim g11_2
              all_goals
                try replace g11_2 := of_decide_eq_false g11_2
                refine rl_vg (met_on rfl rfl rfl rfl) rfl rfl (S := fun _ => True) trivial (v_move rfl) ?_
                refine rl_vg (met_on rfl rfl rfl rfl) rfl rfl (S := fun _ => True) trivial (v_not rfl) ?_
                refine xV rfl rfl rfl (v_pick_false rfl rfl) ?_
                refine rl_nil (g_le (xK (xS rfl (xS rfl (xS rfl (xS rfl (xS rfl (xS rfl (Fr.le_refl _)))))))) ?_)
                refine g_cond rfl (fun h4 => ?_) (fun h4 => ?_)
                · try with_reducible exact ft_elim h4
                  all_goals
                    try replace h4 := of_decide_eq_true h4
                    refine g_seq ?_
                    refine g_region ?_
                    refine xV rfl rfl rfl (v_build rfl (T.build_110 ..)) ?_
                    refine xV rfl rfl rfl (v_move rfl) ?_
                    refine rl_k rfl (k_storeWhole hw T.agg_110_3 rfl rfl (by simp [Value.oneCell']) rfl (by (repeat first | with_reducible exact xH | apply xT); first | done | fail) rfl (fun w hw => ?_))
                    refine xV rfl rfl rfl (v_assign rfl) ?_
                    refine xV rfl rfl rfl (v_assign rfl) ?_
                    refine rl_nil (g_le (xK (xK (xS rfl (xS rfl (Fr.le_refl _))))) ?_)
                    refine g_res3 Try.func52 rfl ⟨_, rfl, holds_agg (vs := [_, _, _]) T.agg_110_3 rfl (by exact sat_cells hw (by (repeat first | with_reducible exact xH | apply xT); first | done | fail) ⟨rfl, rfl, rfl, trivial⟩)⟩ rfl rfl ?_
                    rw [takeO_no D.ops hat h2 hp2 (.inr (by simpa using h4))]
                    exact ⟨g2, A2, none, 0, none, 0, hg1.trans hg2, hI2, rfl, hnd0 _, nd0_small, hw.xQ⟩
                · try with_reducible exact tf_elim h4
                  all_goals
                    try replace h4 := of_decide_eq_false h4
                    obtain rfl : is = true := by simpa using h4
                    obtain rfl : b2 = 0 := by omega
                    refine g_skip (g_seq ?_)
                    refine g_region ?_
                    refine xV rfl rfl rfl (v_move rfl) ?_
                    refine xV rfl rfl rfl (v_move rfl) ?_
                    refine xV rfl rfl rfl (v_add rfl rfl (by omega)) ?_
                    refine xV rfl rfl rfl (v_assign rfl) ?_
                    refine xV rfl rfl rfl (v_assign rfl) ?_
                    refine rl_nil (g_le (xK (xK (xS rfl (xS rfl (xS rfl (Fr.le_refl _)))))) ?_)
                    refine g_seq ?_
                    refine g_region ?_
                    refine rl_v rfl rfl rfl (by exact sat_cells hw (by (repeat first | with_reducible exact xH | apply xT); first | done | fail) ⟨rfl, rfl, rfl, trivial⟩) (v_loadAgg (vs := [_, _, _]) T.agg_110_3 rfl rfl) ?_
                    refine rl_k rfl (k_buildSlice (cells := [_, _, _]) hw T.sl_103_110_3 T.zero_110 rfl rfl rfl rfl rfl rfl (fun bk14_1 w hw => ?_))
                    refine xV rfl rfl rfl (v_assign rfl) ?_
                    refine rl_nil (g_le (xK (xS rfl (xS rfl (Fr.le_refl _)))) ?_)
                    refine g_seq (g_seq ?_)
                    refine g_region ?_
                    refine rl_v rfl rfl rfl (by exact sat_cells hw (by (repeat first | with_reducible exact xH | apply xT); first | done | fail) ⟨rfl, rfl, rfl, trivial⟩) (v_loadAgg (vs := [_, _, _]) T.agg_110_3 rfl rfl) ?_
                    refine rl_k rfl (k_callf Try.func65 rfl rfl rfl rfl ?_)
                    refine Calls.mono (size_calls z.leaf za ya _ zc _ yc hw) ?_
                    rw [show (if z.leaf = true then z.entries.length else z.kids.length) = sizeN z from rfl]
                    rintro _ w ⟨rfl, hw⟩
                    refine ⟨_, rfl, ?_⟩
                    refine xV rfl rfl rfl (v_lss rfl rfl) ?_
                    refine xV rfl rfl rfl (v_move rfl) ?_
                    refine rl_split (s := 89) rfl (fun g15_3 => ?_) (fun g15_3 => ?_)
                    · try with_reducible exact ft_elim g15_3
                      all_goals
                        try replace g15_3 := of_decide_eq_true g15_3
                        refine rl_vg (met_on rfl rfl rfl rfl) rfl rfl (S := fun _ => True) trivial (v_fieldAddr0 T.fld_110_0_0 rfl) ?_
                        refine rl_vg (met_on rfl rfl rfl rfl) rfl rfl (S := fun _ => True) trivial (v_fieldAddr0 T.fld_32_2_2 rfl) ?_
                        refine rl_vg (met_on rfl rfl rfl rfl) rfl rfl (by exact sat_cell hw (by (repeat first | with_reducible exact xH | apply xT); first | done | fail) rfl) (v_load T.scal_30 rfl) ?_
                        refine rl_vg (met_on rfl rfl rfl rfl) rfl rfl (S := fun _ => True) trivial (v_lenSlice T.sl_30_70_5 rfl) ?_
                        refine rl_vg (met_on rfl rfl rfl rfl) rfl rfl (S := fun _ => True) trivial (v_gtr rfl rfl) ?_
                        refine xV rfl rfl rfl (v_pick_true rfl rfl) ?_
                        refine rl_nil (g_le (xK (xS rfl (xS rfl (xS rfl (xS rfl (xS rfl (xS rfl (xS rfl (xS rfl (xS rfl (xS rfl (Fr.le_refl _)))))))))))) ?_)
                        refine g_cutc (σ := Nat × Nat × List Nd × Int × Hp × τ × As × Option Addr × Nat) (fun C x => (18, .int .i64 (x.1 : Nat)) :: (19, .int .i64 (x.2.1 : Nat)) :: (20, .slice x.2.2.2.2.2.2.2.1 x.2.2.1.length x.2.2.2.2.2.2.2.2) :: (12, .int .i64 x.2.2.2.1) :: C) [(4, _), (8, _), (9, _), (10, _), (11, _)] (by repeat (first | exact Fr.le_nil _ | refine Fr.le_cons rfl ?_)) (fun z w => z.1 < z.2.1 ∧ z.2.1 ≤ x.kids.length ∧ g.le z.2.2.2.2.1 ∧ g1.le z.2.2.2.2.1 ∧ D.I z.2.2.2.2.1 z.2.2.2.2.2.1 z.2.2.2.2.2.2.1 ∧ takeO D.ops (q + 1) s r name = endO D.ops x z.1 z.2.1 (z.2.2.1, z.2.2.2.1, z.2.2.2.2.2.1) ∧ (rdSl 56 3 rdNd) z.2.2.2.2.1 [.slice z.2.2.2.2.2.2.2.1 z.2.2.1.length z.2.2.2.2.2.2.2.2] z.2.2.1 ∧ (∀ y ∈ z.2.2.1, y.small) ∧ (z.2.2.2.1 = 0 → 1 ≤ z.2.2.1.length) ∧ z.2.2.1.length ≤ z.2.1 - z.1 ∧ z.2.1 ≤ z.1 + 2 ∧ Sat E w (z.2.2.2.2.2.2.1 :: pt bk1_7 (.cells [.bool x.leaf, .slice ea x.entries.length ec, .slice (some ⟨gb, 0, none⟩) x.kids.length kc].toArray 110 (0, 0)) :: OwnSl 49 2 (.slice ea x.entries.length ec) x.entries.length cells :: OwnSl 70 5 (.slice (some ⟨gb, 0, none⟩) x.kids.length kc) x.kids.length (x.kids.flatMap Kd.cells) :: RO z.2.2.2.2.1 :: pt bk0_0 (.cells [Value.iface D.t D.u].toArray 102 (0, 0)) :: pt bk0_2 (.cells [.bool false, .slice none 0 0, .slice none 0 0].toArray 110 (0, 0)) :: L)) ?_ ?_
                        · skip
                          rintro ⟨f, t, l, b3, g3, s3, A3, pa, pc⟩ w ⟨jft, jt, jg, jg1, jI, jp, jrd, jss, jl1, jl2, jl3, hw⟩
                          dsimp only at jft jt jg jg1 jI jp jrd jss jl1 jl2 jl3 hw ⊢
                          all_goals
                            refine g_seq (g_seq ?_)
                            refine g_region ?_
                            refine xV rfl rfl rfl (v_move rfl) ?_
                            refine xV rfl rfl rfl (v_neq rfl rfl) ?_
                            refine rl_nil (g_le (xK (xS rfl (Fr.le_refl _))) ?_)
                            refine g_cond rfl (fun h6 => ?_) (fun h6 => ?_)
                            · try with_reducible exact ft_elim h6
                              all_goals
                                try replace h6 := of_decide_eq_true h6
                                refine g_seq ?_
                                refine g_region ?_
                                refine xV rfl rfl rfl (v_build rfl (T.build_110 ..)) ?_
                                refine xV rfl rfl rfl (v_move rfl) ?_
                                refine rl_k rfl (k_storeWhole hw T.agg_110_3 rfl rfl (by simp [Value.oneCell']) rfl (by (repeat first | with_reducible exact xH | apply xT); first | done | fail) rfl (fun w hw => ?_))
                                refine xV rfl rfl rfl (v_assign rfl) ?_
                                refine xV rfl rfl rfl (v_assign rfl) ?_
                                refine rl_nil (g_le (xK (xK (xS rfl (xS rfl (Fr.le_refl _))))) ?_)
                                refine g_res3 Try.func52 rfl ⟨_, rfl, holds_agg (vs := [_, _, _]) T.agg_110_3 rfl (by exact sat_cells hw (by (repeat first | with_reducible exact xH | apply xT); first | done | fail) ⟨rfl, rfl, rfl, trivial⟩)⟩ rfl rfl ?_
                                have e : takeO D.ops (q + 1) s r name = (nd0, false, b3, s3) := by rw [jp]; exact if_pos h6
                                rw [e]
                                exact ⟨g3, A3, none, 0, none, 0, jg, jI, rfl, hnd0 _, nd0_small, hw.xQ⟩
                            · try with_reducible exact tf_elim h6
                              all_goals
                                try replace h6 := of_decide_eq_false h6
                                obtain rfl : b3 = 0 := by omega
                                have jl1 := jl1 rfl
                                have jp : takeO D.ops (q + 1) s r name = if (layO D.ops s3 l []).2.1 ≠ 0 then (nd0, false, (layO D.ops s3 l []).2.1, (layO D.ops s3 l []).2.2) else (reN x f t (layO D.ops s3 l []).1, true, 0, (layO D.ops s3 l []).2.2) := by rw [jp]; exact if_neg (by simp)
                                refine g_skip (g_seq ?_)
                                refine g_region ?_
                                refine rl_v rfl rfl rfl (by exact sat_cells hw (by (repeat first | with_reducible exact xH | apply xT); first | done | fail) ⟨rfl, trivial⟩) (v_loadAgg (vs := [_]) T.agg_102_1 rfl rfl) ?_
                                refine xV rfl rfl rfl (v_move rfl) ?_
                                refine rl_k rfl (k_callf Try.func45 rfl rfl rfl rfl ?_)
                                refine Calls.mono (lay_calls D jrd jss (by omega) jI (hw.xQ)) ?_
                                generalize hly : layO D.ops s3 l [] = lq at jp ⊢
                                obtain ⟨ks, b4, s4⟩ := lq
                                dsimp only at jp ⊢
                                rintro _ w ⟨g4, A4, qa, qc, hg4, hI4, rfl, hkok, hkl, hw⟩
                                refine ⟨_, rfl, ?_⟩
                                refine xV rfl rfl rfl (v_move rfl) ?_
                                refine xV rfl rfl rfl (v_extract rfl rfl) ?_
                                refine xV rfl rfl rfl (v_extract rfl rfl) ?_
                                refine xV rfl rfl rfl (v_assign rfl) ?_
                                refine xV rfl rfl rfl (v_assign rfl) ?_
                                refine rl_nil (g_le (xK (xK (xS rfl (xS rfl (xS rfl (xS rfl (xS rfl (xS rfl (Fr.le_refl _))))))))) ?_)
                                refine g_seq (g_seq ?_)
                                refine g_region ?_
                                refine xV rfl rfl rfl (v_move rfl) ?_
                                refine xV rfl rfl rfl (v_neq rfl rfl) ?_
                                refine rl_nil (g_le (xK (xS rfl (Fr.le_refl _))) ?_)
                                refine g_cond rfl (fun h7 => ?_) (fun h7 => ?_)
                                · try with_reducible exact ft_elim h7
                                  all_goals
                                    try replace h7 := of_decide_eq_true h7
                                    refine g_seq ?_
                                    refine g_region ?_
                                    refine xV rfl rfl rfl (v_build rfl (T.build_110 ..)) ?_
                                    refine xV rfl rfl rfl (v_move rfl) ?_
                                    refine rl_k rfl (k_storeWhole hw T.agg_110_3 rfl rfl (by simp [Value.oneCell']) rfl (by (repeat first | with_reducible exact xH | apply xT); first | done | fail) rfl (fun w hw => ?_))
                                    refine xV rfl rfl rfl (v_assign rfl) ?_
                                    refine xV rfl rfl rfl (v_assign rfl) ?_
                                    refine rl_nil (g_le (xK (xK (xS rfl (xS rfl (Fr.le_refl _))))) ?_)
                                    refine g_res3 Try.func52 rfl ⟨_, rfl, holds_agg (vs := [_, _, _]) T.agg_110_3 rfl (by exact sat_cells hw (by (repeat first | with_reducible exact xH | apply xT); first | done | fail) ⟨rfl, rfl, rfl, trivial⟩)⟩ rfl rfl ?_
                                    rw [if_pos h7] at jp
                                    rw [jp]
                                    exact ⟨g4, A4, none, 0, none, 0, jg.trans hg4, hI4, rfl, hnd0 _, nd0_small, hw.xQ⟩
                                · try with_reducible exact tf_elim h7
                                  all_goals
                                    try replace h7 := of_decide_eq_false h7
                                    obtain rfl : b4 = 0 := by omega
                                    rw [if_neg h7] at jp
                                    have hle9 := layO_len D.ops l s3 [] (by rw [hly])
                                    rw [hly] at hle9
                                    simp only [List.length_nil, Nat.zero_add] at hle9
                                    obtain ⟨a8, c8, hv8, _, _, ha8⟩ := (hw.xP (A := OwnSl 70 5 (.slice qa ks.length qc) ks.length (ks.flatMap Kd.cells))).own_shape
                                    simp only [Value.slice.injEq] at hv8
                                    obtain ⟨rfl, _, rfl⟩ := hv8
                                    have hz := hw
                                    clear hw
                                    obtain ⟨vb, rfl⟩ := ha8 (by omega)
                                    have hw := hz
                                    refine g_skip (g_seq ?_)
                                    refine g_region ?_
                                    refine xV rfl rfl rfl (v_fieldAddr0 T.fld_110_0_0 rfl) ?_
                                    refine xV rfl rfl rfl (v_fieldAddr0 T.fld_32_2_2 rfl) ?_
                                    refine rl_v rfl rfl rfl (by exact sat_cell hw (by (repeat first | with_reducible exact xH | apply xT); first | done | fail) rfl) (v_load T.scal_30 rfl) ?_
                                    refine xV rfl rfl rfl (v_move rfl) ?_
                                    refine xV rfl rfl rfl (v_move rfl) ?_
                                    refine xV rfl rfl rfl (v_move rfl) ?_
                                    refine rl_k rfl (k_callf Try.func64 rfl rfl rfl rfl ?_)
                                    refine Calls.mono (replaceKd_calls (i := f) (j := t) (m := ks.length) jft jt (by omega) (by omega) (by omega) one_kids (kids_len ks) one_kids (hw.xQ)) ?_
                                    rintro _ w ⟨v9, rfl, hw⟩
                                    obtain ⟨b9, c9, rfl, _, _, _⟩ := hw.own_shape
                                    refine ⟨_, rfl, ?_⟩
                                    refine xV rfl rfl rfl (v_fieldAddr0 T.fld_110_0_0 rfl) ?_
                                    refine xV rfl rfl rfl (v_fieldAddr0 T.fld_32_2_2 rfl) ?_
                                    refine rl_k rfl (k_store hw T.scal_30 rfl rfl rfl (by (repeat first | with_reducible exact xH | apply xT); first | done | fail) rfl (by simp only [List.set, Int.reduceToNat, Nat.reduceMul, Nat.reduceAdd]; rfl) (fun w hw => ?_))
                                    refine rl_nil (g_le (xS rfl (xS rfl (xS rfl (xS rfl (xS rfl (xS rfl (xS rfl (xS rfl (xS rfl (Fr.le_refl _)))))))))) ?_)
                                    refine g_seq ?_
                                    refine g_region ?_
                                    refine rl_v rfl rfl rfl (by exact sat_cells hw (by (repeat first | with_reducible exact xH | apply xT); first | done | fail) ⟨rfl, rfl, rfl, trivial⟩) (v_loadAgg (vs := [_, _, _]) T.agg_110_3 rfl rfl) ?_
                                    refine rl_k rfl (k_storeWhole hw T.agg_110_3 rfl rfl (by simp [Value.oneCell']) rfl (by (repeat first | with_reducible exact xH | apply xT); first | done | fail) rfl (fun w hw => ?_))
                                    refine xV rfl rfl rfl (v_assign rfl) ?_
                                    refine xV rfl rfl rfl (v_assign rfl) ?_
                                    refine rl_nil (g_le (xK (xK (xS rfl (Fr.le_refl _)))) ?_)
                                    refine g_res3 Try.func52 rfl ⟨_, rfl, holds_agg (vs := [_, _, _]) T.agg_110_3 rfl (by exact sat_cells hw (by (repeat first | with_reducible exact xH | apply xT); first | done | fail) ⟨rfl, rfl, rfl, trivial⟩)⟩ rfl rfl ?_
                                    have hnl : (x.kids.take f ++ ks ++ x.kids.drop t).length = f + ks.length + (x.kids.length - t) := by simp only [List.length_append, List.length_take, List.length_drop]; omega
                                    rw [kid_flat, kid_flat_drop, ← List.flatMap_append, ← List.flatMap_append, ← hnl] at hw
                                    obtain ⟨g5, hg5, hnd, hw⟩ := nd_stands (x := reN x f t ks) (hels.mono mono_En (jg1.trans hg4)) (fun z hz => by simp only [reN, List.mem_append] at hz; rcases hz with (hz | hz) | hz; exact hfine.2.2.1 z (List.mem_of_mem_take hz); exact hkok z hz; exact hfine.2.2.1 z (List.mem_of_mem_drop hz)) ⟨by simp only [reN]; omega, by simp only [reN, hnl]; omega⟩ (hw.xQ : Sat E w (RO g4 :: OwnSl 49 2 (.slice ea x.entries.length ec) x.entries.length cells :: OwnSl 70 5 (.slice b9 (x.kids.take f ++ ks ++ x.kids.drop t).length c9) (x.kids.take f ++ ks ++ x.kids.drop t).length ((x.kids.take f ++ ks ++ x.kids.drop t).flatMap Kd.cells) :: A4 :: L))
                                    rw [jp]
                                    dsimp only [reN]
                                    exact ⟨g5, A4, ea, ec, b9, c9, (jg.trans hg4).trans hg5, D.mono hg5 hI4, by rw [hnl], hnd, ⟨by simp only; omega, by simp only [hnl]; omega, fun hh => absurd (h2.symm.trans hh) (by simp), fun _ => hsm4 h2⟩, hw.xQ⟩
                        · intro joinc5
                          refine g_cond rfl (fun h5 => ?_) (fun h5 => ?_)
                          · try with_reducible exact ft_elim h5
                            all_goals
                              try replace h5 := of_decide_eq_true h5
                              refine g_seq ?_
                              refine g_region ?_
                              refine xV rfl rfl rfl (v_move rfl) ?_
                              refine xV rfl rfl rfl (v_fieldAddr0 T.fld_110_0_0 rfl) ?_
                              refine xV rfl rfl rfl (v_fieldAddr0 T.fld_32_2_2 rfl) ?_
                              refine rl_v rfl rfl rfl (by exact sat_cell hw (by (repeat first | with_reducible exact xH | apply xT); first | done | fail) rfl) (v_load T.scal_30 rfl) ?_
                              refine xV rfl rfl rfl (v_lenSlice T.sl_30_70_5 rfl) ?_
                              refine xV rfl rfl rfl (v_sub rfl rfl (by omega)) ?_
                              refine xV rfl rfl rfl (v_min rfl rfl) ?_
                              refine xV rfl rfl rfl (v_assign rfl) ?_
                              refine rl_nil (g_le (xK (xS rfl (xS rfl (xS rfl (xS rfl (xS rfl (xS rfl (xS rfl (Fr.le_refl _))))))))) ?_)
                              obtain ⟨f, hf⟩ : ∃ f, f = min i (x.kids.length - 2) := ⟨_, rfl⟩
                              rw [show min (i : Int) ((x.kids.length : Int) - 2) = (f : Nat) by omega]
                              refine g_seq ?_
                              refine g_region ?_
                              refine xV rfl rfl rfl (v_move rfl) ?_
                              refine xV rfl rfl rfl (v_add rfl rfl (by omega)) ?_
                              refine xV rfl rfl rfl (v_assign rfl) ?_
                              refine rl_nil (g_le (xK (xS rfl (xS rfl (Fr.le_refl _)))) ?_)
                              refine g_region ?_
                              refine rl_v rfl rfl rfl (by exact sat_cells hw (by (repeat first | with_reducible exact xH | apply xT); first | done | fail) ⟨rfl, trivial⟩) (v_loadAgg (vs := [_]) T.agg_102_1 rfl rfl) ?_
                              refine rl_v rfl rfl rfl (by exact sat_cells hw (by (repeat first | with_reducible exact xH | apply xT); first | done | fail) ⟨rfl, rfl, rfl, trivial⟩) (v_loadAgg (vs := [_, _, _]) T.agg_110_3 rfl rfl) ?_
                              refine xV rfl rfl rfl (v_move rfl) ?_
                              refine xV rfl rfl rfl (v_move rfl) ?_
                              refine rl_v rfl rfl rfl (by exact sat_cells hw (by (repeat first | with_reducible exact xH | apply xT); first | done | fail) ⟨rfl, rfl, rfl, trivial⟩) (v_loadAgg (vs := [_, _, _]) T.agg_110_3 rfl rfl) ?_
                              refine xV rfl rfl rfl (v_move rfl) ?_
                              refine rl_k rfl (k_callf Try.func72 rfl rfl rfl rfl ?_)
                              refine Calls.mono (level_calls D (x := x) (i := i) (f := f) (k := q) hznd hzs hfine.2.2.1 (by omega) (by omega) (by omega) (by omega) deep hd0 (by omega) hI2 (hw.xQ)) ?_
                              generalize hlv : levelO D.ops q s2 x i f z = lq
                              obtain ⟨l, b3, s3⟩ := lq
                              dsimp only
                              rintro _ w ⟨g3, A3, pa, pc, hg3, hI3, rfl, hrd, hss, hw⟩
                              refine ⟨_, rfl, ?_⟩
                              refine xV rfl rfl rfl (v_move rfl) ?_
                              refine xV rfl rfl rfl (v_extract rfl rfl) ?_
                              refine xV rfl rfl rfl (v_extract rfl rfl) ?_
                              refine xV rfl rfl rfl (v_assign rfl) ?_
                              refine xV rfl rfl rfl (v_assign rfl) ?_
                              refine rl_nil (g_le (xK (xK (xS rfl (xS rfl (xS rfl (xS rfl (xS rfl (xS rfl (xS rfl (xS rfl (xS rfl (xS rfl (Fr.le_refl _))))))))))))) ?_)
                              have hll := levelO_len D.ops (k := q) (s := s2) (x := x) (y := z) (i := i) (f := f)
                              rw [hlv] at hll
                              have htl := takeO_level D.ops hat h2 hi hp2 ⟨by omega, by omega⟩
                              rw [← hf, hlv] at htl
                              exact joinc5 (f, f + 2, l, b3, g3, s3, A3, pa, pc) w _ (by repeat (first | exact Fr.le_nil _ | refine Fr.le_cons rfl ?_)) ⟨by simp only; omega, by simp only; omega, (hg1.trans hg2).trans hg3, hg2.trans hg3, hI3, htl, hrd, hss, hll.2, by have := hll.1; simp only at this ⊢; omega, by simp only; omega, hw.xQ⟩
                          · try with_reducible exact tf_elim h5
                            all_goals
                              try replace h5 := of_decide_eq_false h5
                              refine g_skip ?_
                              obtain ⟨g3, hg3, hrd, hw⟩ := (hw.xQ : Sat E w (RO g2 :: pt bk14_1 (.cells [.bool z.leaf, .slice za z.entries.length zc, .slice ya z.kids.length yc].toArray 110 (0, 0)) :: A2 :: pt bk1_7 (.cells [.bool x.leaf, .slice ea x.entries.length ec, .slice (some ⟨gb, 0, none⟩) x.kids.length kc].toArray 110 (0, 0)) :: OwnSl 49 2 (.slice ea x.entries.length ec) x.entries.length cells :: OwnSl 70 5 (.slice (some ⟨gb, 0, none⟩) x.kids.length kc) x.kids.length (x.kids.flatMap Kd.cells) :: pt bk0_0 (.cells [Value.iface D.t D.u].toArray 102 (0, 0)) :: pt bk0_2 (.cells [.bool false, .slice none 0 0, .slice none 0 0].toArray 110 (0, 0)) :: L)).freeze_lit (R := rdNd) (sz := 3) (bytes := 56) mono_Nd (Els.one rfl hznd) rfl (by simp [maxLen]) (by simp [reachBytes])
                              have htl := takeO_plain D.ops hat h2 hi hp2 (by omega)
                              exact joinc5 (i, i + 1, [z], 0, g3, s2, A2, some ⟨bk14_1, 0, none⟩, 1) w _ (by repeat (first | exact Fr.le_nil _ | refine Fr.le_cons rfl ?_)) ⟨by simp only; omega, by simp only; omega, (hg1.trans hg2).trans hg3, hg2.trans hg3, D.mono hg3 hI2, htl, hrd, fun y hy => by rw [List.mem_singleton.1 hy]; exact hzs, fun _ => by simp, by simp only [List.length_cons, List.length_nil]; omega, by simp only; omega, hw.xQ⟩
                    · try with_reducible exact tf_elim g15_3
                      all_goals
                        try replace g15_3 := of_decide_eq_false g15_3
                        refine rl_off (met_off rfl rfl rfl rfl rfl) rfl rfl ?_
                        refine rl_off (met_off rfl rfl rfl rfl rfl) rfl rfl ?_
                        refine rl_off (met_off rfl rfl rfl rfl rfl) rfl rfl ?_
                        refine rl_off (met_off rfl rfl rfl rfl rfl) rfl rfl ?_
                        refine rl_off (met_off rfl rfl rfl rfl rfl) rfl rfl ?_
                        refine xV rfl rfl rfl (v_pick_false rfl rfl) ?_
                        refine rl_nil (g_le (xK (xS rfl (xS rfl (xS rfl (xS rfl (xS rfl (xS rfl (xS rfl (xS rfl (xS rfl (xS rfl (Fr.le_refl _)))))))))))) ?_)
                        refine g_cutc (σ := Nat × Nat × List Nd × Int × Hp × τ × As × Option Addr × Nat) (fun C x => (18, .int .i64 (x.1 : Nat)) :: (19, .int .i64 (x.2.1 : Nat)) :: (20, .slice x.2.2.2.2.2.2.2.1 x.2.2.1.length x.2.2.2.2.2.2.2.2) :: (12, .int .i64 x.2.2.2.1) :: C) [(4, _), (8, _), (9, _), (10, _), (11, _)] (by repeat (first | exact Fr.le_nil _ | refine Fr.le_cons rfl ?_)) (fun z w => z.1 < z.2.1 ∧ z.2.1 ≤ x.kids.length ∧ g.le z.2.2.2.2.1 ∧ g1.le z.2.2.2.2.1 ∧ D.I z.2.2.2.2.1 z.2.2.2.2.2.1 z.2.2.2.2.2.2.1 ∧ takeO D.ops (q + 1) s r name = endO D.ops x z.1 z.2.1 (z.2.2.1, z.2.2.2.1, z.2.2.2.2.2.1) ∧ (rdSl 56 3 rdNd) z.2.2.2.2.1 [.slice z.2.2.2.2.2.2.2.1 z.2.2.1.length z.2.2.2.2.2.2.2.2] z.2.2.1 ∧ (∀ y ∈ z.2.2.1, y.small) ∧ (z.2.2.2.1 = 0 → 1 ≤ z.2.2.1.length) ∧ z.2.2.1.length ≤ z.2.1 - z.1 ∧ z.2.1 ≤ z.1 + 2 ∧ Sat E w (z.2.2.2.2.2.2.1 :: pt bk1_7 (.cells [.bool x.leaf, .slice ea x.entries.length ec, .slice (some ⟨gb, 0, none⟩) x.kids.length kc].toArray 110 (0, 0)) :: OwnSl 49 2 (.slice ea x.entries.length ec) x.entries.length cells :: OwnSl 70 5 (.slice (some ⟨gb, 0, none⟩) x.kids.length kc) x.kids.length (x.kids.flatMap Kd.cells) :: RO z.2.2.2.2.1 :: pt bk0_0 (.cells [Value.iface D.t D.u].toArray 102 (0, 0)) :: pt bk0_2 (.cells [.bool false, .slice none 0 0, .slice none 0 0].toArray 110 (0, 0)) :: L)) ?_ ?_
                        · skip
                          rintro ⟨f, t, l, b3, g3, s3, A3, pa, pc⟩ w ⟨jft, jt, jg, jg1, jI, jp, jrd, jss, jl1, jl2, jl3, hw⟩
                          dsimp only at jft jt jg jg1 jI jp jrd jss jl1 jl2 jl3 hw ⊢
                          all_goals
                            refine g_seq (g_seq ?_)
                            refine g_region ?_
                            refine xV rfl rfl rfl (v_move rfl) ?_
                            refine xV rfl rfl rfl (v_neq rfl rfl) ?_
                            refine rl_nil (g_le (xK (xS rfl (Fr.le_refl _))) ?_)
                            refine g_cond rfl (fun h6 => ?_) (fun h6 => ?_)
                            · try with_reducible exact ft_elim h6
                              all_goals
                                try replace h6 := of_decide_eq_true h6
                                refine g_seq ?_
                                refine g_region ?_
                                refine xV rfl rfl rfl (v_build rfl (T.build_110 ..)) ?_
                                refine xV rfl rfl rfl (v_move rfl) ?_
                                refine rl_k rfl (k_storeWhole hw T.agg_110_3 rfl rfl (by simp [Value.oneCell']) rfl (by (repeat first | with_reducible exact xH | apply xT); first | done | fail) rfl (fun w hw => ?_))
                                refine xV rfl rfl rfl (v_assign rfl) ?_
                                refine xV rfl rfl rfl (v_assign rfl) ?_
                                refine rl_nil (g_le (xK (xK (xS rfl (xS rfl (Fr.le_refl _))))) ?_)
                                refine g_res3 Try.func52 rfl ⟨_, rfl, holds_agg (vs := [_, _, _]) T.agg_110_3 rfl (by exact sat_cells hw (by (repeat first | with_reducible exact xH | apply xT); first | done | fail) ⟨rfl, rfl, rfl, trivial⟩)⟩ rfl rfl ?_
                                have e : takeO D.ops (q + 1) s r name = (nd0, false, b3, s3) := by rw [jp]; exact if_pos h6
                                rw [e]
                                exact ⟨g3, A3, none, 0, none, 0, jg, jI, rfl, hnd0 _, nd0_small, hw.xQ⟩
                            · try with_reducible exact tf_elim h6
                              all_goals
                                try replace h6 := of_decide_eq_false h6
                                obtain rfl : b3 = 0 := by omega
                                have jl1 := jl1 rfl
                                have jp : takeO D.ops (q + 1) s r name = if (layO D.ops s3 l []).2.1 ≠ 0 then (nd0, false, (layO D.ops s3 l []).2.1, (layO D.ops s3 l []).2.2) else (reN x f t (layO D.ops s3 l []).1, true, 0, (layO D.ops s3 l []).2.2) := by rw [jp]; exact if_neg (by simp)
                                refine g_skip (g_seq ?_)
                                refine g_region ?_
                                refine rl_v rfl rfl rfl (by exact sat_cells hw (by (repeat first | with_reducible exact xH | apply xT); first | done | fail) ⟨rfl, trivial⟩) (v_loadAgg (vs := [_]) T.agg_102_1 rfl rfl) ?_
                                refine xV rfl rfl rfl (v_move rfl) ?_
                                refine rl_k rfl (k_callf Try.func45 rfl rfl rfl rfl ?_)
                                refine Calls.mono (lay_calls D jrd jss (by omega) jI (hw.xQ)) ?_
                                generalize hly : layO D.ops s3 l [] = lq at jp ⊢
                                obtain ⟨ks, b4, s4⟩ := lq
                                dsimp only at jp ⊢
                                rintro _ w ⟨g4, A4, qa, qc, hg4, hI4, rfl, hkok, hkl, hw⟩
                                refine ⟨_, rfl, ?_⟩
                                refine xV rfl rfl rfl (v_move rfl) ?_
                                refine xV rfl rfl rfl (v_extract rfl rfl) ?_
                                refine xV rfl rfl rfl (v_extract rfl rfl) ?_
                                refine xV rfl rfl rfl (v_assign rfl) ?_
                                refine xV rfl rfl rfl (v_assign rfl) ?_
                                refine rl_nil (g_le (xK (xK (xS rfl (xS rfl (xS rfl (xS rfl (xS rfl (xS rfl (Fr.le_refl _))))))))) ?_)
                                refine g_seq (g_seq ?_)
                                refine g_region ?_
                                refine xV rfl rfl rfl (v_move rfl) ?_
                                refine xV rfl rfl rfl (v_neq rfl rfl) ?_
                                refine rl_nil (g_le (xK (xS rfl (Fr.le_refl _))) ?_)
                                refine g_cond rfl (fun h7 => ?_) (fun h7 => ?_)
                                · try with_reducible exact ft_elim h7
                                  all_goals
                                    try replace h7 := of_decide_eq_true h7
                                    refine g_seq ?_
                                    refine g_region ?_
                                    refine xV rfl rfl rfl (v_build rfl (T.build_110 ..)) ?_
                                    refine xV rfl rfl rfl (v_move rfl) ?_
                                    refine rl_k rfl (k_storeWhole hw T.agg_110_3 rfl rfl (by simp [Value.oneCell']) rfl (by (repeat first | with_reducible exact xH | apply xT); first | done | fail) rfl (fun w hw => ?_))
                                    refine xV rfl rfl rfl (v_assign rfl) ?_
                                    refine xV rfl rfl rfl (v_assign rfl) ?_
                                    refine rl_nil (g_le (xK (xK (xS rfl (xS rfl (Fr.le_refl _))))) ?_)
                                    refine g_res3 Try.func52 rfl ⟨_, rfl, holds_agg (vs := [_, _, _]) T.agg_110_3 rfl (by exact sat_cells hw (by (repeat first | with_reducible exact xH | apply xT); first | done | fail) ⟨rfl, rfl, rfl, trivial⟩)⟩ rfl rfl ?_
                                    rw [if_pos h7] at jp
                                    rw [jp]
                                    exact ⟨g4, A4, none, 0, none, 0, jg.trans hg4, hI4, rfl, hnd0 _, nd0_small, hw.xQ⟩
                                · try with_reducible exact tf_elim h7
                                  all_goals
                                    try replace h7 := of_decide_eq_false h7
                                    obtain rfl : b4 = 0 := by omega
                                    rw [if_neg h7] at jp
                                    have hle9 := layO_len D.ops l s3 [] (by rw [hly])
                                    rw [hly] at hle9
                                    simp only [List.length_nil, Nat.zero_add] at hle9
                                    obtain ⟨a8, c8, hv8, _, _, ha8⟩ := (hw.xP (A := OwnSl 70 5 (.slice qa ks.length qc) ks.length (ks.flatMap Kd.cells))).own_shape
                                    simp only [Value.slice.injEq] at hv8
                                    obtain ⟨rfl, _, rfl⟩ := hv8
                                    have hz := hw
                                    clear hw
                                    obtain ⟨vb, rfl⟩ := ha8 (by omega)
                                    have hw := hz
                                    refine g_skip (g_seq ?_)
                                    refine g_region ?_
                                    refine xV rfl rfl rfl (v_fieldAddr0 T.fld_110_0_0 rfl) ?_
                                    refine xV rfl rfl rfl (v_fieldAddr0 T.fld_32_2_2 rfl) ?_
                                    refine rl_v rfl rfl rfl (by exact sat_cell hw (by (repeat first | with_reducible exact xH | apply xT); first | done | fail) rfl) (v_load T.scal_30 rfl) ?_
                                    refine xV rfl rfl rfl (v_move rfl) ?_
                                    refine xV rfl rfl rfl (v_move rfl) ?_
                                    refine xV rfl rfl rfl (v_move rfl) ?_
                                    refine rl_k rfl (k_callf Try.func64 rfl rfl rfl rfl ?_)
                                    refine Calls.mono (replaceKd_calls (i := f) (j := t) (m := ks.length) jft jt (by omega) (by omega) (by omega) one_kids (kids_len ks) one_kids (hw.xQ)) ?_
                                    rintro _ w ⟨v9, rfl, hw⟩
                                    obtain ⟨b9, c9, rfl, _, _, _⟩ := hw.own_shape
                                    refine ⟨_, rfl, ?_⟩
                                    refine xV rfl rfl rfl (v_fieldAddr0 T.fld_110_0_0 rfl) ?_
                                    refine xV rfl rfl rfl (v_fieldAddr0 T.fld_32_2_2 rfl) ?_
                                    refine rl_k rfl (k_store hw T.scal_30 rfl rfl rfl (by (repeat first | with_reducible exact xH | apply xT); first | done | fail) rfl (by simp only [List.set, Int.reduceToNat, Nat.reduceMul, Nat.reduceAdd]; rfl) (fun w hw => ?_))
                                    refine rl_nil (g_le (xS rfl (xS rfl (xS rfl (xS rfl (xS rfl (xS rfl (xS rfl (xS rfl (xS rfl (Fr.le_refl _)))))))))) ?_)
                                    refine g_seq ?_
                                    refine g_region ?_
                                    refine rl_v rfl rfl rfl (by exact sat_cells hw (by (repeat first | with_reducible exact xH | apply xT); first | done | fail) ⟨rfl, rfl, rfl, trivial⟩) (v_loadAgg (vs := [_, _, _]) T.agg_110_3 rfl rfl) ?_
                                    refine rl_k rfl (k_storeWhole hw T.agg_110_3 rfl rfl (by simp [Value.oneCell']) rfl (by (repeat first | with_reducible exact xH | apply xT); first | done | fail) rfl (fun w hw => ?_))
                                    refine xV rfl rfl rfl (v_assign rfl) ?_
                                    refine xV rfl rfl rfl (v_assign rfl) ?_
                                    refine rl_nil (g_le (xK (xK (xS rfl (Fr.le_refl _)))) ?_)
                                    refine g_res3 Try.func52 rfl ⟨_, rfl, holds_agg (vs := [_, _, _]) T.agg_110_3 rfl (by exact sat_cells hw (by (repeat first | with_reducible exact xH | apply xT); first | done | fail) ⟨rfl, rfl, rfl, trivial⟩)⟩ rfl rfl ?_
                                    have hnl : (x.kids.take f ++ ks ++ x.kids.drop t).length = f + ks.length + (x.kids.length - t) := by simp only [List.length_append, List.length_take, List.length_drop]; omega
                                    rw [kid_flat, kid_flat_drop, ← List.flatMap_append, ← List.flatMap_append, ← hnl] at hw
                                    obtain ⟨g5, hg5, hnd, hw⟩ := nd_stands (x := reN x f t ks) (hels.mono mono_En (jg1.trans hg4)) (fun z hz => by simp only [reN, List.mem_append] at hz; rcases hz with (hz | hz) | hz; exact hfine.2.2.1 z (List.mem_of_mem_take hz); exact hkok z hz; exact hfine.2.2.1 z (List.mem_of_mem_drop hz)) ⟨by simp only [reN]; omega, by simp only [reN, hnl]; omega⟩ (hw.xQ : Sat E w (RO g4 :: OwnSl 49 2 (.slice ea x.entries.length ec) x.entries.length cells :: OwnSl 70 5 (.slice b9 (x.kids.take f ++ ks ++ x.kids.drop t).length c9) (x.kids.take f ++ ks ++ x.kids.drop t).length ((x.kids.take f ++ ks ++ x.kids.drop t).flatMap Kd.cells) :: A4 :: L))
                                    rw [jp]
                                    dsimp only [reN]
                                    exact ⟨g5, A4, ea, ec, b9, c9, (jg.trans hg4).trans hg5, D.mono hg5 hI4, by rw [hnl], hnd, ⟨by simp only; omega, by simp only [hnl]; omega, fun hh => absurd (h2.symm.trans hh) (by simp), fun _ => hsm4 h2⟩, hw.xQ⟩
                        · intro joinc5
                          refine g_cond rfl (fun h5 => ?_) (fun h5 => ?_)
                          · try with_reducible exact ft_elim h5
                            all_goals
                              try replace h5 := of_decide_eq_true h5
                              refine g_seq ?_
                              refine g_region ?_
                              refine xV rfl rfl rfl (v_move rfl) ?_
                              first | (refine xV rfl rfl rfl (v_fieldAddr0 T.fld_110_0_0 rfl) ?_) | (refine xV rfl rfl rfl (v_fieldAddr T.fld_110_0_0 rfl) ?_)
                              first | (refine xV rfl rfl rfl (v_fieldAddr0 T.fld_32_2_2 rfl) ?_) | (refine xV rfl rfl rfl (v_fieldAddr T.fld_32_2_2 rfl) ?_)
                              refine rl_v rfl rfl rfl (by first | exact sat_cell hw (by (repeat first | with_reducible exact xH | apply xT); first | done | fail) rfl | exact own_cell hw (by (repeat first | with_reducible exact xH | apply xT); first | done | fail) (by first | rfl | assumption) | exact ro_at0 hw (by (repeat first | with_reducible exact xH | apply xT); first | done | fail) (by assumption) rfl | exact ro_at hw (by (repeat first | with_reducible exact xH | apply xT); first | done | fail) (by assumption) rfl | exact own_at0 hw (by (repeat first | with_reducible exact xH | apply xT); first | done | fail) (by assumption) rfl | exact own_at hw (by (repeat first | with_reducible exact xH | apply xT); first | done | fail) (by assumption) rfl | exact old_cell hw (by (repeat first | with_reducible exact xH | apply xT); first | done | fail) (by assumption) | assumption) (v_load T.scal_30 rfl) ?_
                              refine xV rfl rfl rfl (v_lenSlice T.sl_30_70_5 rfl) ?_
                              first | (refine xV rfl rfl rfl (v_sub rfl rfl (by omega)) ?_) | (refine xV rfl rfl rfl (v_subW rfl rfl) ?_)
                              refine xV rfl rfl rfl (v_min rfl rfl) ?_
                              refine xV rfl rfl rfl (v_assign rfl) ?_
                              refine rl_nil (g_le (xK (xS rfl (xS rfl (xS rfl (xS rfl (xS rfl (xS rfl (xS rfl (Fr.le_refl _))))))))) ?_)
                              obtain ⟨f, hf⟩ : ∃ f, f = min i (x.kids.length - 2) := ⟨_, rfl⟩
                              rw [show min (i : Int) ((x.kids.length : Int) - 2) = (f : Nat) by omega]
                              refine g_seq ?_
                              refine g_region ?_
                              refine xV rfl rfl rfl (v_move rfl) ?_
                              first | (refine xV rfl rfl rfl (v_add rfl rfl (by omega)) ?_) | (refine xV rfl rfl rfl (v_addW rfl rfl) ?_)
                              refine xV rfl rfl rfl (v_assign rfl) ?_
                              refine rl_nil (g_le (xK (xS rfl (xS rfl (Fr.le_refl _)))) ?_)
                              refine g_region ?_
                              refine rl_v rfl rfl rfl (by first | exact sat_cells hw (by (repeat first | with_reducible exact xH | apply xT); first | done | fail) ⟨rfl, trivial⟩ | exact ro_ats hw (by (repeat first | with_reducible exact xH | apply xT); first | done | fail) (by assumption) | exact own_cells hw (by (repeat first | with_reducible exact xH | apply xT); first | done | fail) (by assumption) | exact old_cells hw (by (repeat first | with_reducible exact xH | apply xT); first | done | fail) (by assumption)) (v_loadAgg (vs := [_]) T.agg_102_1 rfl rfl) ?_
                              refine rl_v rfl rfl rfl (by first | exact sat_cells hw (by (repeat first | with_reducible exact xH | apply xT); first | done | fail) ⟨rfl, rfl, rfl, trivial⟩ | exact ro_ats hw (by (repeat first | with_reducible exact xH | apply xT); first | done | fail) (by assumption) | exact own_cells hw (by (repeat first | with_reducible exact xH | apply xT); first | done | fail) (by assumption) | exact old_cells hw (by (repeat first | with_reducible exact xH | apply xT); first | done | fail) (by assumption)) (v_loadAgg (vs := [_, _, _]) T.agg_110_3 rfl rfl) ?_
                              refine xV rfl rfl rfl (v_move rfl) ?_
                              refine xV rfl rfl rfl (v_move rfl) ?_
                              refine rl_v rfl rfl rfl (by first | exact sat_cells hw (by (repeat first | with_reducible exact xH | apply xT); first | done | fail) ⟨rfl, rfl, rfl, trivial⟩ | exact ro_ats hw (by (repeat first | with_reducible exact xH | apply xT); first | done | fail) (by assumption) | exact own_cells hw (by (repeat first | with_reducible exact xH | apply xT); first | done | fail) (by assumption) | exact old_cells hw (by (repeat first | with_reducible exact xH | apply xT); first | done | fail) (by assumption)) (v_loadAgg (vs := [_, _, _]) T.agg_110_3 rfl rfl) ?_
                              refine xV rfl rfl rfl (v_move rfl) ?_
                              refine rl_k rfl (k_callf Try.func72 rfl rfl rfl rfl ?_)
                              refine Calls.mono (level_calls D (x := x) (i := i) (f := f) (k := q) hznd hzs hfine.2.2.1 (by omega) (by omega) (by omega) (by omega) deep hd0 (by omega) hI2 (hw.xQ)) ?_
                              generalize hlv : levelO D.ops q s2 x i f z = lq
                              obtain ⟨l, b3, s3⟩ := lq
                              dsimp only
                              rintro _ w ⟨g3, A3, pa, pc, hg3, hI3, rfl, hrd, hss, hw⟩
                              refine ⟨_, rfl, ?_⟩
                              refine xV rfl rfl rfl (v_move rfl) ?_
                              refine xV rfl rfl rfl (v_extract rfl rfl) ?_
                              refine xV rfl rfl rfl (v_extract rfl rfl) ?_
                              refine xV rfl rfl rfl (v_assign rfl) ?_
                              refine xV rfl rfl rfl (v_assign rfl) ?_
                              refine rl_nil (g_le (xK (xK (xS rfl (xS rfl (xS rfl (xS rfl (xS rfl (xS rfl (xS rfl (xS rfl (xS rfl (xS rfl (Fr.le_refl _))))))))))))) ?_)
                              have hll := levelO_len D.ops (k := q) (s := s2) (x := x) (y := z) (i := i) (f := f)
                              rw [hlv] at hll
                              have htl := takeO_level D.ops hat h2 hi hp2 ⟨by omega, by omega⟩
                              rw [← hf, hlv] at htl
                              exact joinc5 (f, f + 2, l, b3, g3, s3, A3, pa, pc) w _ (by repeat (first | exact Fr.le_nil _ | refine Fr.le_cons rfl ?_)) ⟨by simp only; omega, by simp only; omega, (hg1.trans hg2).trans hg3, hg2.trans hg3, hI3, htl, hrd, hss, hll.2, by have := hll.1; simp only at this ⊢; omega, by simp only; omega, hw.xQ⟩
                          · try with_reducible exact tf_elim h5
                            all_goals
                              try replace h5 := of_decide_eq_false h5
                              refine g_skip ?_
                              obtain ⟨g3, hg3, hrd, hw⟩ := (hw.xQ : Sat E w (RO g2 :: pt bk14_1 (.cells [.bool z.leaf, .slice za z.entries.length zc, .slice ya z.kids.length yc].toArray 110 (0, 0)) :: A2 :: pt bk1_7 (.cells [.bool x.leaf, .slice ea x.entries.length ec, .slice (some ⟨gb, 0, none⟩) x.kids.length kc].toArray 110 (0, 0)) :: OwnSl 49 2 (.slice ea x.entries.length ec) x.entries.length cells :: OwnSl 70 5 (.slice (some ⟨gb, 0, none⟩) x.kids.length kc) x.kids.length (x.kids.flatMap Kd.cells) :: pt bk0_0 (.cells [Value.iface D.t D.u].toArray 102 (0, 0)) :: pt bk0_2 (.cells [.bool false, .slice none 0 0, .slice none 0 0].toArray 110 (0, 0)) :: L)).freeze_lit (R := rdNd) (sz := 3) (bytes := 56) mono_Nd (Els.one rfl hznd) rfl (by simp [maxLen]) (by simp [reachBytes])
                              have htl := takeO_plain D.ops hat h2 hi hp2 (by omega)
                              exact joinc5 (i, i + 1, [z], 0, g3, s2, A2, some ⟨bk14_1, 0, none⟩, 1) w _ (by repeat (first | exact Fr.le_nil _ | refine Fr.le_cons rfl ?_)) ⟨by simp only; omega, by simp only; omega, (hg1.trans hg2).trans hg3, hg2.trans hg3, D.mono hg3 hI2, htl, hrd, fun y hy => by rw [List.mem_singleton.1 hy]; exact hzs, fun _ => by simp, by simp only [List.length_cons, List.length_nil]; omega, by simp only; omega, hw.xQ⟩
          · skip
            refine (k_alloc hw T.zero_110 rfl rfl (fun bk10_16 w hw => ?_))
            refine ⟨fun _ => (by exact Sat.sub hw (by (repeat (first | with_reducible exact Sub.refl _ | exact Sub.nil _ | (apply Sub.cons; focus ((repeat (first | with_reducible exact Pick.here _ | apply Pick.there)); (first | done | fail))) | with_reducible apply Sub.drop)); first | done | fail)), ?_⟩
            refine rs_k 11 rfl rfl (k_callf Try.func52 rfl rfl rfl rfl ?_)
            refine Calls.mono (ih q (by omega) y.ref hyok.2 (deep + 1) (by omega) (by omega) hI1 (hw.xQ)) ?_
            generalize hp : takeO D.ops q s1 y.ref name = pq
            obtain ⟨z, is, b2, s2⟩ := pq
            dsimp only
            rintro _ w ⟨g2, A2, za, zc, ya, yc, hg2, hI2, rfl, hznd, hzs, hw⟩
            refine ⟨_, rfl, ?_⟩
            refine ⟨fun hn => absurd (by decide) hn, ?_⟩
            refine rs_kv 12 rfl rfl rfl rfl (S' := fun _ => True) trivial (v_move rfl) ?_
            refine rs_a 13 rfl rfl rfl rfl (v_extract rfl rfl) ?_
            refine rs_a 14 rfl rfl rfl rfl (v_extract rfl rfl) ?_
            refine rs_a 15 rfl rfl rfl rfl (v_extract rfl rfl) ?_
            refine rs_k 17 rfl rfl (k_storeWhole hw T.agg_110_3 rfl rfl (by simp [Value.oneCell']) rfl (by (repeat first | with_reducible exact xH | apply xT); first | done | fail) rfl (fun w hw => ?_))
            refine ⟨fun hn => absurd (by decide) hn, ?_⟩
            refine rs_kv 18 rfl rfl rfl rfl (S' := fun _ => True) trivial (v_assign rfl) ?_
            refine rs_kv 19 rfl rfl rfl rfl (S' := fun _ => True) trivial (v_assign rfl) ?_
            refine rs_done (g_le (xK (xK (xS rfl (xS rfl (xS rfl (xS rfl (xS rfl (xK (xS rfl (xS rfl (xS rfl (xS rfl (xS rfl (xS rfl (xS rfl (xS rfl (xS rfl (xS rfl (xS rfl (Fr.le_refl _)))))))))))))))))))) ?_)
            have hp2 : takeO D.ops q s1 (x.kids.getD (belowN x.kids name) kd0).ref name = (z, is, b2, s2) := hgy ▸ hp
            refine g_seq (g_seq ?_)
            refine g_region ?_
            refine xV rfl rfl rfl (v_move rfl) ?_
            refine xV rfl rfl rfl (v_neq rfl rfl) ?_
            refine xV rfl rfl rfl (v_move rfl) ?_
            refine rl_split (s := 75) rfl (fun g11_2 => ?_) (fun g11_2 => ?_)
            · try with_reducible exact ft_elim g11_2
              all_goals
                try replace g11_2 := of_decide_eq_true g11_2
                refine rl_off (met_off rfl rfl rfl rfl rfl) rfl rfl ?_
                refine rl_off (met_off rfl rfl rfl rfl rfl) rfl rfl ?_
                refine xV rfl rfl rfl (v_pick_true rfl rfl) ?_
                refine rl_nil (g_le (xK (xS rfl (xS rfl (xS rfl (xS rfl (xS rfl (xS rfl (Fr.le_refl _)))))))) ?_)
                refine g_cond_true rfl ?_
                refine g_seq ?_
                refine g_region ?_
                refine xV rfl rfl rfl (v_build rfl (T.build_110 ..)) ?_
                refine xV rfl rfl rfl (v_move rfl) ?_
                refine rl_k rfl (k_storeWhole hw T.agg_110_3 rfl rfl (by simp [Value.oneCell']) rfl (by (repeat first | with_reducible exact xH | apply xT); first | done | fail) rfl (fun w hw => ?_))
                refine xV rfl rfl rfl (v_assign rfl) ?_
                refine xV rfl rfl rfl (v_assign rfl) ?_
                refine rl_nil (g_le (xK (xK (xS rfl (xS rfl (Fr.le_refl _))))) ?_)
                refine g_res3 Try.func52 rfl ⟨_, rfl, holds_agg (vs := [_, _, _]) T.agg_110_3 rfl (by exact sat_cells hw (by (repeat first | with_reducible exact xH | apply xT); first | done | fail) ⟨rfl, rfl, rfl, trivial⟩)⟩ rfl rfl ?_
                rw [takeO_no D.ops hat h2 hp2 (.inl (by simpa using g11_2))]
                exact ⟨g2, A2, none, 0, none, 0, hg1.trans hg2, hI2, rfl, hnd0 _, nd0_small, hw.xQ⟩
            · try with_reducible exact tf_elim g11_2
              all_goals
                try replace g11_2 := of_decide_eq_false g11_2
                refine rl_vg (met_on rfl rfl rfl rfl) rfl rfl (S := fun _ => True) trivial (v_move rfl) ?_
                refine rl_vg (met_on rfl rfl rfl rfl) rfl rfl (S := fun _ => True) trivial (v_not rfl) ?_
                refine xV rfl rfl rfl (v_pick_false rfl rfl) ?_
                refine rl_nil (g_le (xK (xS rfl (xS rfl (xS rfl (xS rfl (xS rfl (xS rfl (Fr.le_refl _)))))))) ?_)
                refine g_cond rfl (fun h4 => ?_) (fun h4 => ?_)
                · try with_reducible exact ft_elim h4
                  all_goals
                    try replace h4 := of_decide_eq_true h4
                    refine g_seq ?_
                    refine g_region ?_
                    refine xV rfl rfl rfl (v_build rfl (T.build_110 ..)) ?_
                    refine xV rfl rfl rfl (v_move rfl) ?_
                    refine rl_k rfl (k_storeWhole hw T.agg_110_3 rfl rfl (by simp [Value.oneCell']) rfl (by (repeat first | with_reducible exact xH | apply xT); first | done | fail) rfl (fun w hw => ?_))
                    refine xV rfl rfl rfl (v_assign rfl) ?_
                    refine xV rfl rfl rfl (v_assign rfl) ?_
                    refine rl_nil (g_le (xK (xK (xS rfl (xS rfl (Fr.le_refl _))))) ?_)
                    refine g_res3 Try.func52 rfl ⟨_, rfl, holds_agg (vs := [_, _, _]) T.agg_110_3 rfl (by exact sat_cells hw (by (repeat first | with_reducible exact xH | apply xT); first | done | fail) ⟨rfl, rfl, rfl, trivial⟩)⟩ rfl rfl ?_
                    rw [takeO_no D.ops hat h2 hp2 (.inr (by simpa using h4))]
                    exact ⟨g2, A2, none, 0, none, 0, hg1.trans hg2, hI2, rfl, hnd0 _, nd0_small, hw.xQ⟩
                · try with_reducible exact tf_elim h4
                  all_goals
                    try replace h4 := of_decide_eq_false h4
                    obtain rfl : is = true := by simpa using h4
                    obtain rfl : b2 = 0 := by omega
                    refine g_skip (g_seq ?_)
                    refine g_region ?_
                    refine xV rfl rfl rfl (v_move rfl) ?_
                    refine xV rfl rfl rfl (v_move rfl) ?_
                    refine xV rfl rfl rfl (v_add rfl rfl (by omega)) ?_
                    refine xV rfl rfl rfl (v_assign rfl) ?_
                    refine xV rfl rfl rfl (v_assign rfl) ?_
                    refine rl_nil (g_le (xK (xK (xS rfl (xS rfl (xS rfl (Fr.le_refl _)))))) ?_)
                    refine g_seq ?_
                    refine g_region ?_
                    refine rl_v rfl rfl rfl (by exact sat_cells hw (by (repeat first | with_reducible exact xH | apply xT); first | done | fail) ⟨rfl, rfl, rfl, trivial⟩) (v_loadAgg (vs := [_, _, _]) T.agg_110_3 rfl rfl) ?_
                    refine rl_k rfl (k_buildSlice (cells := [_, _, _]) hw T.sl_103_110_3 T.zero_110 rfl rfl rfl rfl rfl rfl (fun bk14_1 w hw => ?_))
                    refine xV rfl rfl rfl (v_assign rfl) ?_
                    refine rl_nil (g_le (xK (xS rfl (xS rfl (Fr.le_refl _)))) ?_)
                    refine g_seq (g_seq ?_)
                    refine g_region ?_
                    refine rl_v rfl rfl rfl (by exact sat_cells hw (by (repeat first | with_reducible exact xH | apply xT); first | done | fail) ⟨rfl, rfl, rfl, trivial⟩) (v_loadAgg (vs := [_, _, _]) T.agg_110_3 rfl rfl) ?_
                    refine rl_k rfl (k_callf Try.func65 rfl rfl rfl rfl ?_)
                    refine Calls.mono (size_calls z.leaf za ya _ zc _ yc hw) ?_
                    rw [show (if z.leaf = true then z.entries.length else z.kids.length) = sizeN z from rfl]
                    rintro _ w ⟨rfl, hw⟩
                    refine ⟨_, rfl, ?_⟩
                    refine xV rfl rfl rfl (v_lss rfl rfl) ?_
                    refine xV rfl rfl rfl (v_move rfl) ?_
                    refine rl_split (s := 89) rfl (fun g15_3 => ?_) (fun g15_3 => ?_)
                    · try with_reducible exact ft_elim g15_3
                      all_goals
                        try replace g15_3 := of_decide_eq_true g15_3
                        refine rl_vg (met_on rfl rfl rfl rfl) rfl rfl (S := fun _ => True) trivial (v_fieldAddr0 T.fld_110_0_0 rfl) ?_
                        refine rl_vg (met_on rfl rfl rfl rfl) rfl rfl (S := fun _ => True) trivial (v_fieldAddr0 T.fld_32_2_2 rfl) ?_
                        refine rl_vg (met_on rfl rfl rfl rfl) rfl rfl (by exact sat_cell hw (by (repeat first | with_reducible exact xH | apply xT); first | done | fail) rfl) (v_load T.scal_30 rfl) ?_
                        refine rl_vg (met_on rfl rfl rfl rfl) rfl rfl (S := fun _ => True) trivial (v_lenSlice T.sl_30_70_5 rfl) ?_
                        refine rl_vg (met_on rfl rfl rfl rfl) rfl rfl (S := fun _ => True) trivial (v_gtr rfl rfl) ?_
                        refine xV rfl rfl rfl (v_pick_true rfl rfl) ?_
                        refine rl_nil (g_le (xK (xS rfl (xS rfl (xS rfl (xS rfl (xS rfl (xS rfl (xS rfl (xS rfl (xS rfl (xS rfl (Fr.le_refl _)))))))))))) ?_)
                        refine g_cutc (σ := Nat × Nat × List Nd × Int × Hp × τ × As × Option Addr × Nat) (fun C x => (18, .int .i64 (x.1 : Nat)) :: (19, .int .i64 (x.2.1 : Nat)) :: (20, .slice x.2.2.2.2.2.2.2.1 x.2.2.1.length x.2.2.2.2.2.2.2.2) :: (12, .int .i64 x.2.2.2.1) :: C) [(4, _), (8, _), (9, _), (10, _), (11, _)] (by repeat (first | exact Fr.le_nil _ | refine Fr.le_cons rfl ?_)) (fun z w => z.1 < z.2.1 ∧ z.2.1 ≤ x.kids.length ∧ g.le z.2.2.2.2.1 ∧ g1.le z.2.2.2.2.1 ∧ D.I z.2.2.2.2.1 z.2.2.2.2.2.1 z.2.2.2.2.2.2.1 ∧ takeO D.ops (q + 1) s r name = endO D.ops x z.1 z.2.1 (z.2.2.1, z.2.2.2.1, z.2.2.2.2.2.1) ∧ (rdSl 56 3 rdNd) z.2.2.2.2.1 [.slice z.2.2.2.2.2.2.2.1 z.2.2.1.length z.2.2.2.2.2.2.2.2] z.2.2.1 ∧ (∀ y ∈ z.2.2.1, y.small) ∧ (z.2.2.2.1 = 0 → 1 ≤ z.2.2.1.length) ∧ z.2.2.1.length ≤ z.2.1 - z.1 ∧ z.2.1 ≤ z.1 + 2 ∧ Sat E w (z.2.2.2.2.2.2.1 :: pt bk1_7 (.cells [.bool x.leaf, .slice ea x.entries.length ec, .slice (some ⟨gb, 0, none⟩) x.kids.length kc].toArray 110 (0, 0)) :: OwnSl 49 2 (.slice ea x.entries.length ec) x.entries.length cells :: OwnSl 70 5 (.slice (some ⟨gb, 0, none⟩) x.kids.length kc) x.kids.length (x.kids.flatMap Kd.cells) :: RO z.2.2.2.2.1 :: pt bk0_0 (.cells [Value.iface D.t D.u].toArray 102 (0, 0)) :: pt bk0_2 (.cells [.bool false, .slice none 0 0, .slice none 0 0].toArray 110 (0, 0)) :: L)) ?_ ?_
                        · skip
                          rintro ⟨f, t, l, b3, g3, s3, A3, pa, pc⟩ w ⟨jft, jt, jg, jg1, jI, jp, jrd, jss, jl1, jl2, jl3, hw⟩
                          dsimp only at jft jt jg jg1 jI jp jrd jss jl1 jl2 jl3 hw ⊢
                          all_goals
                            refine g_seq (g_seq ?_)
                            refine g_region ?_
                            refine xV rfl rfl rfl (v_move rfl) ?_
                            refine xV rfl rfl rfl (v_neq rfl rfl) ?_
                            refine rl_nil (g_le (xK (xS rfl (Fr.le_refl _))) ?_)
                            refine g_cond rfl (fun h6 => ?_) (fun h6 => ?_)
                            · try with_reducible exact ft_elim h6
                              all_goals
                                try replace h6 := of_decide_eq_true h6
                                refine g_seq ?_
                                refine g_region ?_
                                refine xV rfl rfl rfl (v_build rfl (T.build_110 ..)) ?_
                                refine xV rfl rfl rfl (v_move rfl) ?_
                                refine rl_k rfl (k_storeWhole hw T.agg_110_3 rfl rfl (by simp [Value.oneCell']) rfl (by (repeat first | with_reducible exact xH | apply xT); first | done | fail) rfl (fun w hw => ?_))
                                refine xV rfl rfl rfl (v_assign rfl) ?_
                                refine xV rfl rfl rfl (v_assign rfl) ?_
                                refine rl_nil (g_le (xK (xK (xS rfl (xS rfl (Fr.le_refl _))))) ?_)
                                refine g_res3 Try.func52 rfl ⟨_, rfl, holds_agg (vs := [_, _, _]) T.agg_110_3 rfl (by exact sat_cells hw (by (repeat first | with_reducible exact xH | apply xT); first | done | fail) ⟨rfl, rfl, rfl, trivial⟩)⟩ rfl rfl ?_
                                have e : takeO D.ops (q + 1) s r name = (nd0, false, b3, s3) := by rw [jp]; exact if_pos h6
                                rw [e]
                                exact ⟨g3, A3, none, 0, none, 0, jg, jI, rfl, hnd0 _, nd0_small, hw.xQ⟩
                            · try with_reducible exact tf_elim h6
                              all_goals
                                try replace h6 := of_decide_eq_false h6
                                obtain rfl : b3 = 0 := by omega
                                have jl1 := jl1 rfl
                                have jp : takeO D.ops (q + 1) s r name = if (layO D.ops s3 l []).2.1 ≠ 0 then (nd0, false, (layO D.ops s3 l []).2.1, (layO D.ops s3 l []).2.2) else (reN x f t (layO D.ops s3 l []).1, true, 0, (layO D.ops s3 l []).2.2) := by rw [jp]; exact if_neg (by simp)
                                refine g_skip (g_seq ?_)
                                refine g_region ?_
                                refine rl_v rfl rfl rfl (by exact sat_cells hw (by (repeat first | with_reducible exact xH | apply xT); first | done | fail) ⟨rfl, trivial⟩) (v_loadAgg (vs := [_]) T.agg_102_1 rfl rfl) ?_
                                refine xV rfl rfl rfl (v_move rfl) ?_
                                refine rl_k rfl (k_callf Try.func45 rfl rfl rfl rfl ?_)
                                refine Calls.mono (lay_calls D jrd jss (by omega) jI (hw.xQ)) ?_
                                generalize hly : layO D.ops s3 l [] = lq at jp ⊢
                                obtain ⟨ks, b4, s4⟩ := lq
                                dsimp only at jp ⊢
                                rintro _ w ⟨g4, A4, qa, qc, hg4, hI4, rfl, hkok, hkl, hw⟩
                                refine ⟨_, rfl, ?_⟩
                                refine xV rfl rfl rfl (v_move rfl) ?_
                                refine xV rfl rfl rfl (v_extract rfl rfl) ?_
                                refine xV rfl rfl rfl (v_extract rfl rfl) ?_
                                refine xV rfl rfl rfl (v_assign rfl) ?_
                                refine xV rfl rfl rfl (v_assign rfl) ?_
                                refine rl_nil (g_le (xK (xK (xS rfl (xS rfl (xS rfl (xS rfl (xS rfl (xS rfl (Fr.le_refl _))))))))) ?_)
                                refine g_seq (g_seq ?_)
                                refine g_region ?_
                                refine xV rfl rfl rfl (v_move rfl) ?_
                                refine xV rfl rfl rfl (v_neq rfl rfl) ?_
                                refine rl_nil (g_le (xK (xS rfl (Fr.le_refl _))) ?_)
                                refine g_cond rfl (fun h7 => ?_) (fun h7 => ?_)
                                · try with_reducible exact ft_elim h7
                                  all_goals
                                    try replace h7 := of_decide_eq_true h7
                                    refine g_seq ?_
                                    refine g_region ?_
                                    refine xV rfl rfl rfl (v_build rfl (T.build_110 ..)) ?_
                                    refine xV rfl rfl rfl (v_move rfl) ?_
                                    refine rl_k rfl (k_storeWhole hw T.agg_110_3 rfl rfl (by simp [Value.oneCell']) rfl (by (repeat first | with_reducible exact xH | apply xT); first | done | fail) rfl (fun w hw => ?_))
                                    refine xV rfl rfl rfl (v_assign rfl) ?_
                                    refine xV rfl rfl rfl (v_assign rfl) ?_
                                    refine rl_nil (g_le (xK (xK (xS rfl (xS rfl (Fr.le_refl _))))) ?_)
                                    refine g_res3 Try.func52 rfl ⟨_, rfl, holds_agg (vs := [_, _, _]) T.agg_110_3 rfl (by exact sat_cells hw (by (repeat first | with_reducible exact xH | apply xT); first | done | fail) ⟨rfl, rfl, rfl, trivial⟩)⟩ rfl rfl ?_
                                    rw [if_pos h7] at jp
                                    rw [jp]
                                    exact ⟨g4, A4, none, 0, none, 0, jg.trans hg4, hI4, rfl, hnd0 _, nd0_small, hw.xQ⟩
                                · try with_reducible exact tf_elim h7
                                  all_goals
                                    try replace h7 := of_decide_eq_false h7
                                    obtain rfl : b4 = 0 := by omega
                                    rw [if_neg h7] at jp
                                    have hle9 := layO_len D.ops l s3 [] (by rw [hly])
                                    rw [hly] at hle9
                                    simp only [List.length_nil, Nat.zero_add] at hle9
                                    obtain ⟨a8, c8, hv8, _, _, ha8⟩ := (hw.xP (A := OwnSl 70 5 (.slice qa ks.length qc) ks.length (ks.flatMap Kd.cells))).own_shape
                                    simp only [Value.slice.injEq] at hv8
                                    obtain ⟨rfl, _, rfl⟩ := hv8
                                    have hz := hw
                                    clear hw
                                    obtain ⟨vb, rfl⟩ := ha8 (by omega)
                                    have hw := hz
                                    refine g_skip (g_seq ?_)
                                    refine g_region ?_
                                    refine xV rfl rfl rfl (v_fieldAddr0 T.fld_110_0_0 rfl) ?_
                                    refine xV rfl rfl rfl (v_fieldAddr0 T.fld_32_2_2 rfl) ?_
                                    refine rl_v rfl rfl rfl (by exact sat_cell hw (by (repeat first | with_reducible exact xH | apply xT); first | done | fail) rfl) (v_load T.scal_30 rfl) ?_
                                    refine xV rfl rfl rfl (v_move rfl) ?_
                                    refine xV rfl rfl rfl (v_move rfl) ?_
                                    refine xV rfl rfl rfl (v_move rfl) ?_
                                    refine rl_k rfl (k_callf Try.func64 rfl rfl rfl rfl ?_)
                                    refine Calls.mono (replaceKd_calls (i := f) (j := t) (m := ks.length) jft jt (by omega) (by omega) (by omega) one_kids (kids_len ks) one_kids (hw.xQ)) ?_
                                    rintro _ w ⟨v9, rfl, hw⟩
                                    obtain ⟨b9, c9, rfl, _, _, _⟩ := hw.own_shape
                                    refine ⟨_, rfl, ?_⟩
                                    refine xV rfl rfl rfl (v_fieldAddr0 T.fld_110_0_0 rfl) ?_
                                    refine xV rfl rfl rfl (v_fieldAddr0 T.fld_32_2_2 rfl) ?_
                                    refine rl_k rfl (k_store hw T.scal_30 rfl rfl rfl (by (repeat first | with_reducible exact xH | apply xT); first | done | fail) rfl (by simp only [List.set, Int.reduceToNat, Nat.reduceMul, Nat.reduceAdd]; rfl) (fun w hw => ?_))
                                    refine rl_nil (g_le (xS rfl (xS rfl (xS rfl (xS rfl (xS rfl (xS rfl (xS rfl (xS rfl (xS rfl (Fr.le_refl _)))))))))) ?_)
                                    refine g_seq ?_
                                    refine g_region ?_
                                    refine rl_v rfl rfl rfl (by exact sat_cells hw (by (repeat first | with_reducible exact xH | apply xT); first | done | fail) ⟨rfl, rfl, rfl, trivial⟩) (v_loadAgg (vs := [_, _, _]) T.agg_110_3 rfl rfl) ?_
                                    refine rl_k rfl (k_storeWhole hw T.agg_110_3 rfl rfl (by simp [Value.oneCell']) rfl (by (repeat first | with_reducible exact xH | apply xT); first | done | fail) rfl (fun w hw => ?_))
                                    refine xV rfl rfl rfl (v_assign rfl) ?_
                                    refine xV rfl rfl rfl (v_assign rfl) ?_
                                    refine rl_nil (g_le (xK (xK (xS rfl (Fr.le_refl _)))) ?_)
                                    refine g_res3 Try.func52 rfl ⟨_, rfl, holds_agg (vs := [_, _, _]) T.agg_110_3 rfl (by exact sat_cells hw (by (repeat first | with_reducible exact xH | apply xT); first | done | fail) ⟨rfl, rfl, rfl, trivial⟩)⟩ rfl rfl ?_
                                    have hnl : (x.kids.take f ++ ks ++ x.kids.drop t).length = f + ks.length + (x.kids.length - t) := by simp only [List.length_append, List.length_take, List.length_drop]; omega
                                    rw [kid_flat, kid_flat_drop, ← List.flatMap_append, ← List.flatMap_append, ← hnl] at hw
                                    obtain ⟨g5, hg5, hnd, hw⟩ := nd_stands (x := reN x f t ks) (hels.mono mono_En (jg1.trans hg4)) (fun z hz => by simp only [reN, List.mem_append] at hz; rcases hz with (hz | hz) | hz; exact hfine.2.2.1 z (List.mem_of_mem_take hz); exact hkok z hz; exact hfine.2.2.1 z (List.mem_of_mem_drop hz)) ⟨by simp only [reN]; omega, by simp only [reN, hnl]; omega⟩ (hw.xQ : Sat E w (RO g4 :: OwnSl 49 2 (.slice ea x.entries.length ec) x.entries.length cells :: OwnSl 70 5 (.slice b9 (x.kids.take f ++ ks ++ x.kids.drop t).length c9) (x.kids.take f ++ ks ++ x.kids.drop t).length ((x.kids.take f ++ ks ++ x.kids.drop t).flatMap Kd.cells) :: A4 :: L))
                                    rw [jp]
                                    dsimp only [reN]
                                    exact ⟨g5, A4, ea, ec, b9, c9, (jg.trans hg4).trans hg5, D.mono hg5 hI4, by rw [hnl], hnd, ⟨by simp only; omega, by simp only [hnl]; omega, fun hh => absurd (h2.symm.trans hh) (by simp), fun _ => hsm4 h2⟩, hw.xQ⟩
                        · intro joinc5
                          refine g_cond rfl (fun h5 => ?_) (fun h5 => ?_)
                          · try with_reducible exact ft_elim h5
                            all_goals
                              try replace h5 := of_decide_eq_true h5
                              refine g_seq ?_
                              refine g_region ?_
                              refine xV rfl rfl rfl (v_move rfl) ?_
                              refine xV rfl rfl rfl (v_fieldAddr0 T.fld_110_0_0 rfl) ?_
                              refine xV rfl rfl rfl (v_fieldAddr0 T.fld_32_2_2 rfl) ?_
                              refine rl_v rfl rfl rfl (by exact sat_cell hw (by (repeat first | with_reducible exact xH | apply xT); first | done | fail) rfl) (v_load T.scal_30 rfl) ?_
                              refine xV rfl rfl rfl (v_lenSlice T.sl_30_70_5 rfl) ?_
                              refine xV rfl rfl rfl (v_sub rfl rfl (by omega)) ?_
                              refine xV rfl rfl rfl (v_min rfl rfl) ?_
                              refine xV rfl rfl rfl (v_assign rfl) ?_
                              refine rl_nil (g_le (xK (xS rfl (xS rfl (xS rfl (xS rfl (xS rfl (xS rfl (xS rfl (Fr.le_refl _))))))))) ?_)
                              obtain ⟨f, hf⟩ : ∃ f, f = min i (x.kids.length - 2) := ⟨_, rfl⟩
                              rw [show min (i : Int) ((x.kids.length : Int) - 2) = (f : Nat) by omega]
                              refine g_seq ?_
                              refine g_region ?_
                              refine xV rfl rfl rfl (v_move rfl) ?_
                              refine xV rfl rfl rfl (v_add rfl rfl (by omega)) ?_
                              refine xV rfl rfl rfl (v_assign rfl) ?_
                              refine rl_nil (g_le (xK (xS rfl (xS rfl (Fr.le_refl _)))) ?_)
                              refine g_region ?_
                              refine rl_v rfl rfl rfl (by exact sat_cells hw (by (repeat first | with_reducible exact xH | apply xT); first | done | fail) ⟨rfl, trivial⟩) (v_loadAgg (vs := [_]) T.agg_102_1 rfl rfl) ?_
                              refine rl_v rfl rfl rfl (by exact sat_cells hw (by (repeat first | with_reducible exact xH | apply xT); first | done | fail) ⟨rfl, rfl, rfl, trivial⟩) (v_loadAgg (vs := [_, _, _]) T.agg_110_3 rfl rfl) ?_
                              refine xV rfl rfl rfl (v_move rfl) ?_
                              refine xV rfl rfl rfl (v_move rfl) ?_
                              refine rl_v rfl rfl rfl (by exact sat_cells hw (by (repeat first | with_reducible exact xH | apply xT); first | done | fail) ⟨rfl, rfl, rfl, trivial⟩) (v_loadAgg (vs := [_, _, _]) T.agg_110_3 rfl rfl) ?_
                              refine xV rfl rfl rfl (v_move rfl) ?_
                              refine rl_k rfl (k_callf Try.func72 rfl rfl rfl rfl ?_)
                              refine Calls.mono (level_calls D (x := x) (i := i) (f := f) (k := q) hznd hzs hfine.2.2.1 (by omega) (by omega) (by omega) (by omega) deep hd0 (by omega) hI2 (hw.xQ)) ?_
                              generalize hlv : levelO D.ops q s2 x i f z = lq
                              obtain ⟨l, b3, s3⟩ := lq
                              dsimp only
                              rintro _ w ⟨g3, A3, pa, pc, hg3, hI3, rfl, hrd, hss, hw⟩
                              refine ⟨_, rfl, ?_⟩
                              refine xV rfl rfl rfl (v_move rfl) ?_
                              refine xV rfl rfl rfl (v_extract rfl rfl) ?_
                              refine xV rfl rfl rfl (v_extract rfl rfl) ?_
                              refine xV rfl rfl rfl (v_assign rfl) ?_
                              refine xV rfl rfl rfl (v_assign rfl) ?_
                              refine rl_nil (g_le (xK (xK (xS rfl (xS rfl (xS rfl (xS rfl (xS rfl (xS rfl (xS rfl (xS rfl (xS rfl (xS rfl (Fr.le_refl _))))))))))))) ?_)
                              have hll := levelO_len D.ops (k := q) (s := s2) (x := x) (y := z) (i := i) (f := f)
                              rw [hlv] at hll
                              have htl := takeO_level D.ops hat h2 hi hp2 ⟨by omega, by omega⟩
                              rw [← hf, hlv] at htl
                              exact joinc5 (f, f + 2, l, b3, g3, s3, A3, pa, pc) w _ (by repeat (first | exact Fr.le_nil _ | refine Fr.le_cons rfl ?_)) ⟨by simp only; omega, by simp only; omega, (hg1.trans hg2).trans hg3, hg2.trans hg3, hI3, htl, hrd, hss, hll.2, by have := hll.1; simp only at this ⊢; omega, by simp only; omega, hw.xQ⟩
                          · try with_reducible exact tf_elim h5
                            all_goals
                              try replace h5 := of_decide_eq_false h5
                              refine g_skip ?_
                              obtain ⟨g3, hg3, hrd, hw⟩ := (hw.xQ : Sat E w (RO g2 :: pt bk14_1 (.cells [.bool z.leaf, .slice za z.entries.length zc, .slice ya z.kids.length yc].toArray 110 (0, 0)) :: A2 :: pt bk1_7 (.cells [.bool x.leaf, .slice ea x.entries.length ec, .slice (some ⟨gb, 0, none⟩) x.kids.length kc].toArray 110 (0, 0)) :: OwnSl 49 2 (.slice ea x.entries.length ec) x.entries.length cells :: OwnSl 70 5 (.slice (some ⟨gb, 0, none⟩) x.kids.length kc) x.kids.length (x.kids.flatMap Kd.cells) :: pt bk0_0 (.cells [Value.iface D.t D.u].toArray 102 (0, 0)) :: pt bk0_2 (.cells [.bool false, .slice none 0 0, .slice none 0 0].toArray 110 (0, 0)) :: L)).freeze_lit (R := rdNd) (sz := 3) (bytes := 56) mono_Nd (Els.one rfl hznd) rfl (by simp [maxLen]) (by simp [reachBytes])
                              have htl := takeO_plain D.ops hat h2 hi hp2 (by omega)
                              exact joinc5 (i, i + 1, [z], 0, g3, s2, A2, some ⟨bk14_1, 0, none⟩, 1) w _ (by repeat (first | exact Fr.le_nil _ | refine Fr.le_cons rfl ?_)) ⟨by simp only; omega, by simp only; omega, (hg1.trans hg2).trans hg3, hg2.trans hg3, D.mono hg3 hI2, htl, hrd, fun y hy => by rw [List.mem_singleton.1 hy]; exact hzs, fun _ => by simp, by simp only [List.length_cons, List.length_nil]; omega, by simp only; omega, hw.xQ⟩
                    · try with_reducible exact tf_elim g15_3
                      all_goals
                        try replace g15_3 := of_decide_eq_false g15_3
                        refine rl_off (met_off rfl rfl rfl rfl rfl) rfl rfl ?_
                        refine rl_off (met_off rfl rfl rfl rfl rfl) rfl rfl ?_
                        refine rl_off (met_off rfl rfl rfl rfl rfl) rfl rfl ?_
                        refine rl_off (met_off rfl rfl rfl rfl rfl) rfl rfl ?_
                        refine rl_off (met_off rfl rfl rfl rfl rfl) rfl rfl ?_
                        refine xV rfl rfl rfl (v_pick_false rfl rfl) ?_
                        refine rl_nil (g_le (xK (xS rfl (xS rfl (xS rfl (xS rfl (xS rfl (xS rfl (xS rfl (xS rfl (xS rfl (xS rfl (Fr.le_refl _)))))))))))) ?_)
                        refine g_cutc (σ := Nat × Nat × List Nd × Int × Hp × τ × As × Option Addr × Nat) (fun C x => (18, .int .i64 (x.1 : Nat)) :: (19, .int .i64 (x.2.1 : Nat)) :: (20, .slice x.2.2.2.2.2.2.2.1 x.2.2.1.length x.2.2.2.2.2.2.2.2) :: (12, .int .i64 x.2.2.2.1) :: C) [(4, _), (8, _), (9, _), (10, _), (11, _)] (by repeat (first | exact Fr.le_nil _ | refine Fr.le_cons rfl ?_)) (fun z w => z.1 < z.2.1 ∧ z.2.1 ≤ x.kids.length ∧ g.le z.2.2.2.2.1 ∧ g1.le z.2.2.2.2.1 ∧ D.I z.2.2.2.2.1 z.2.2.2.2.2.1 z.2.2.2.2.2.2.1 ∧ takeO D.ops (q + 1) s r name = endO D.ops x z.1 z.2.1 (z.2.2.1, z.2.2.2.1, z.2.2.2.2.2.1) ∧ (rdSl 56 3 rdNd) z.2.2.2.2.1 [.slice z.2.2.2.2.2.2.2.1 z.2.2.1.length z.2.2.2.2.2.2.2.2] z.2.2.1 ∧ (∀ y ∈ z.2.2.1, y.small) ∧ (z.2.2.2.1 = 0 → 1 ≤ z.2.2.1.length) ∧ z.2.2.1.length ≤ z.2.1 - z.1 ∧ z.2.1 ≤ z.1 + 2 ∧ Sat E w (z.2.2.2.2.2.2.1 :: pt bk1_7 (.cells [.bool x.leaf, .slice ea x.entries.length ec, .slice (some ⟨gb, 0, none⟩) x.kids.length kc].toArray 110 (0, 0)) :: OwnSl 49 2 (.slice ea x.entries.length ec) x.entries.length cells :: OwnSl 70 5 (.slice (some ⟨gb, 0, none⟩) x.kids.length kc) x.kids.length (x.kids.flatMap Kd.cells) :: RO z.2.2.2.2.1 :: pt bk0_0 (.cells [Value.iface D.t D.u].toArray 102 (0, 0)) :: pt bk0_2 (.cells [.bool false, .slice none 0 0, .slice none 0 0].toArray 110 (0, 0)) :: L)) ?_ ?_
                        · skip
                          rintro ⟨f, t, l, b3, g3, s3, A3, pa, pc⟩ w ⟨jft, jt, jg, jg1, jI, jp, jrd, jss, jl1, jl2, jl3, hw⟩
                          dsimp only at jft jt jg jg1 jI jp jrd jss jl1 jl2 jl3 hw ⊢
                          all_goals
                            refine g_seq (g_seq ?_)
                            refine g_region ?_
                            refine xV rfl rfl rfl (v_move rfl) ?_
                            refine xV rfl rfl rfl (v_neq rfl rfl) ?_
                            refine rl_nil (g_le (xK (xS rfl (Fr.le_refl _))) ?_)
                            refine g_cond rfl (fun h6 => ?_) (fun h6 => ?_)
                            · try with_reducible exact ft_elim h6
                              all_goals
                                try replace h6 := of_decide_eq_true h6
                                refine g_seq ?_
                                refine g_region ?_
                                refine xV rfl rfl rfl (v_build rfl (T.build_110 ..)) ?_
                                refine xV rfl rfl rfl (v_move rfl) ?_
                                refine rl_k rfl (k_storeWhole hw T.agg_110_3 rfl rfl (by simp [Value.oneCell']) rfl (by (repeat first | with_reducible exact xH | apply xT); first | done | fail) rfl (fun w hw => ?_))
                                refine xV rfl rfl rfl (v_assign rfl) ?_
                                refine xV rfl rfl rfl (v_assign rfl) ?_
                                refine rl_nil (g_le (xK (xK (xS rfl (xS rfl (Fr.le_refl _))))) ?_)
                                refine g_res3 Try.func52 rfl ⟨_, rfl, holds_agg (vs := [_, _, _]) T.agg_110_3 rfl (by exact sat_cells hw (by (repeat first | with_reducible exact xH | apply xT); first | done | fail) ⟨rfl, rfl, rfl, trivial⟩)⟩ rfl rfl ?_
                                have e : takeO D.ops (q + 1) s r name = (nd0, false, b3, s3) := by rw [jp]; exact if_pos h6
                                rw [e]
                                exact ⟨g3, A3, none, 0, none, 0, jg, jI, rfl, hnd0 _, nd0_small, hw.xQ⟩
                            · try with_reducible exact tf_elim h6
                              all_goals
                                try replace h6 := of_decide_eq_false h6
                                obtain rfl : b3 = 0 := by omega
                                have jl1 := jl1 rfl
                                have jp : takeO D.ops (q + 1) s r name = if (layO D.ops s3 l []).2.1 ≠ 0 then (nd0, false, (layO D.ops s3 l []).2.1, (layO D.ops s3 l []).2.2) else (reN x f t (layO D.ops s3 l []).1, true, 0, (layO D.ops s3 l []).2.2) := by rw [jp]; exact if_neg (by simp)
                                refine g_skip (g_seq ?_)
                                refine g_region ?_
                                refine rl_v rfl rfl rfl (by exact sat_cells hw (by (repeat first | with_reducible exact xH | apply xT); first | done | fail) ⟨rfl, trivial⟩) (v_loadAgg (vs := [_]) T.agg_102_1 rfl rfl) ?_
                                refine xV rfl rfl rfl (v_move rfl) ?_
                                refine rl_k rfl (k_callf Try.func45 rfl rfl rfl rfl ?_)
                                refine Calls.mono (lay_calls D jrd jss (by omega) jI (hw.xQ)) ?_
                                generalize hly : layO D.ops s3 l [] = lq at jp ⊢
                                obtain ⟨ks, b4, s4⟩ := lq
                                dsimp only at jp ⊢
                                rintro _ w ⟨g4, A4, qa, qc, hg4, hI4, rfl, hkok, hkl, hw⟩
                                refine ⟨_, rfl, ?_⟩
                                refine xV rfl rfl rfl (v_move rfl) ?_
                                refine xV rfl rfl rfl (v_extract rfl rfl) ?_
                                refine xV rfl rfl rfl (v_extract rfl rfl) ?_
                                refine xV rfl rfl rfl (v_assign rfl) ?_
                                refine xV rfl rfl rfl (v_assign rfl) ?_
                                refine rl_nil (g_le (xK (xK (xS rfl (xS rfl (xS rfl (xS rfl (xS rfl (xS rfl (Fr.le_refl _))))))))) ?_)
                                refine g_seq (g_seq ?_)
                                refine g_region ?_
                                refine xV rfl rfl rfl (v_move rfl) ?_
                                refine xV rfl rfl rfl (v_neq rfl rfl) ?_
                                refine rl_nil (g_le (xK (xS rfl (Fr.le_refl _))) ?_)
                                refine g_cond rfl (fun h7 => ?_) (fun h7 => ?_)
                                · try with_reducible exact ft_elim h7
                                  all_goals
                                    try replace h7 := of_decide_eq_true h7
                                    refine g_seq ?_
                                    refine g_region ?_
                                    refine xV rfl rfl rfl (v_build rfl (T.build_110 ..)) ?_
                                    refine xV rfl rfl rfl (v_move rfl) ?_
                                    refine rl_k rfl (k_storeWhole hw T.agg_110_3 rfl rfl (by simp [Value.oneCell']) rfl (by (repeat first | with_reducible exact xH | apply xT); first | done | fail) rfl (fun w hw => ?_))
                                    refine xV rfl rfl rfl (v_assign rfl) ?_
                                    refine xV rfl rfl rfl (v_assign rfl) ?_
                                    refine rl_nil (g_le (xK (xK (xS rfl (xS rfl (Fr.le_refl _))))) ?_)
                                    refine g_res3 Try.func52 rfl ⟨_, rfl, holds_agg (vs := [_, _, _]) T.agg_110_3 rfl (by exact sat_cells hw (by (repeat first | with_reducible exact xH | apply xT); first | done | fail) ⟨rfl, rfl, rfl, trivial⟩)⟩ rfl rfl ?_
                                    rw [if_pos h7] at jp
                                    rw [jp]
                                    exact ⟨g4, A4, none, 0, none, 0, jg.trans hg4, hI4, rfl, hnd0 _, nd0_small, hw.xQ⟩
                                · try with_reducible exact tf_elim h7
                                  all_goals
                                    try replace h7 := of_decide_eq_false h7
                                    obtain rfl : b4 = 0 := by omega
                                    rw [if_neg h7] at jp
                                    have hle9 := layO_len D.ops l s3 [] (by rw [hly])
                                    rw [hly] at hle9
                                    simp only [List.length_nil, Nat.zero_add] at hle9
                                    obtain ⟨a8, c8, hv8, _, _, ha8⟩ := (hw.xP (A := OwnSl 70 5 (.slice qa ks.length qc) ks.length (ks.flatMap Kd.cells))).own_shape
                                    simp only [Value.slice.injEq] at hv8
                                    obtain ⟨rfl, _, rfl⟩ := hv8
                                    have hz := hw
                                    clear hw
                                    obtain ⟨vb, rfl⟩ := ha8 (by omega)
                                    have hw := hz
                                    refine g_skip (g_seq ?_)
                                    refine g_region ?_
                                    refine xV rfl rfl rfl (v_fieldAddr0 T.fld_110_0_0 rfl) ?_
                                    refine xV rfl rfl rfl (v_fieldAddr0 T.fld_32_2_2 rfl) ?_
                                    refine rl_v rfl rfl rfl (by exact sat_cell hw (by (repeat first | with_reducible exact xH | apply xT); first | done | fail) rfl) (v_load T.scal_30 rfl) ?_
                                    refine xV rfl rfl rfl (v_move rfl) ?_
                                    refine xV rfl rfl rfl (v_move rfl) ?_
                                    refine xV rfl rfl rfl (v_move rfl) ?_
                                    refine rl_k rfl (k_callf Try.func64 rfl rfl rfl rfl ?_)
                                    refine Calls.mono (replaceKd_calls (i := f) (j := t) (m := ks.length) jft jt (by omega) (by omega) (by omega) one_kids (kids_len ks) one_kids (hw.xQ)) ?_
                                    rintro _ w ⟨v9, rfl, hw⟩
                                    obtain ⟨b9, c9, rfl, _, _, _⟩ := hw.own_shape
                                    refine ⟨_, rfl, ?_⟩
                                    refine xV rfl rfl rfl (v_fieldAddr0 T.fld_110_0_0 rfl) ?_
                                    refine xV rfl rfl rfl (v_fieldAddr0 T.fld_32_2_2 rfl) ?_
                                    refine rl_k rfl (k_store hw T.scal_30 rfl rfl rfl (by (repeat first | with_reducible exact xH | apply xT); first | done | fail) rfl (by simp only [List.set, Int.reduceToNat, Nat.reduceMul, Nat.reduceAdd]; rfl) (fun w hw => ?_))
                                    refine rl_nil (g_le (xS rfl (xS rfl (xS rfl (xS rfl (xS rfl (xS rfl (xS rfl (xS rfl (xS rfl (Fr.le_refl _)))))))))) ?_)
                                    refine g_seq ?_
                                    refine g_region ?_
                                    refine rl_v rfl rfl rfl (by exact sat_cells hw (by (repeat first | with_reducible exact xH | apply xT); first | done | fail) ⟨rfl, rfl, rfl, trivial⟩) (v_loadAgg (vs := [_, _, _]) T.agg_110_3 rfl rfl) ?_
                                    refine rl_k rfl (k_storeWhole hw T.agg_110_3 rfl rfl (by simp [Value.oneCell']) rfl (by (repeat first | with_reducible exact xH | apply xT); first | done | fail) rfl (fun w hw => ?_))
                                    refine xV rfl rfl rfl (v_assign rfl) ?_
                                    refine xV rfl rfl rfl (v_assign rfl) ?_
                                    refine rl_nil (g_le (xK (xK (xS rfl (Fr.le_refl _)))) ?_)
                                    refine g_res3 Try.func52 rfl ⟨_, rfl, holds_agg (vs := [_, _, _]) T.agg_110_3 rfl (by exact sat_cells hw (by (repeat first | with_reducible exact xH | apply xT); first | done | fail) ⟨rfl, rfl, rfl, trivial⟩)⟩ rfl rfl ?_
                                    have hnl : (x.kids.take f ++ ks ++ x.kids.drop t).length = f + ks.length + (x.kids.length - t) := by simp only [List.length_append, List.length_take, List.length_drop]; omega
                                    rw [kid_flat, kid_flat_drop, ← List.flatMap_append, ← List.flatMap_append, ← hnl] at hw
                                    obtain ⟨g5, hg5, hnd, hw⟩ := nd_stands (x := reN x f t ks) (hels.mono mono_En (jg1.trans hg4)) (fun z hz => by simp only [reN, List.mem_append] at hz; rcases hz with (hz | hz) | hz; exact hfine.2.2.1 z (List.mem_of_mem_take hz); exact hkok z hz; exact hfine.2.2.1 z (List.mem_of_mem_drop hz)) ⟨by simp only [reN]; omega, by simp only [reN, hnl]; omega⟩ (hw.xQ : Sat E w (RO g4 :: OwnSl 49 2 (.slice ea x.entries.length ec) x.entries.length cells :: OwnSl 70 5 (.slice b9 (x.kids.take f ++ ks ++ x.kids.drop t).length c9) (x.kids.take f ++ ks ++ x.kids.drop t).length ((x.kids.take f ++ ks ++ x.kids.drop t).flatMap Kd.cells) :: A4 :: L))
                                    rw [jp]
                                    dsimp only [reN]
                                    exact ⟨g5, A4, ea, ec, b9, c9, (jg.trans hg4).trans hg5, D.mono hg5 hI4, by rw [hnl], hnd, ⟨by simp only; omega, by simp only [hnl]; omega, fun hh => absurd (h2.symm.trans hh) (by simp), fun _ => hsm4 h2⟩, hw.xQ⟩
                        · intro joinc5
                          refine g_cond rfl (fun h5 => ?_) (fun h5 => ?_)
                          · try with_reducible exact ft_elim h5
                            all_goals
                              try replace h5 := of_decide_eq_true h5
                              refine g_seq ?_
                              refine g_region ?_
                              refine xV rfl rfl rfl (v_move rfl) ?_
                              first | (refine xV rfl rfl rfl (v_fieldAddr0 T.fld_110_0_0 rfl) ?_) | (refine xV rfl rfl rfl (v_fieldAddr T.fld_110_0_0 rfl) ?_)
                              first | (refine xV rfl rfl rfl (v_fieldAddr0 T.fld_32_2_2 rfl) ?_) | (refine xV rfl rfl rfl (v_fieldAddr T.fld_32_2_2 rfl) ?_)
                              refine rl_v rfl rfl rfl (by first | exact sat_cell hw (by (repeat first | with_reducible exact xH | apply xT); first | done | fail) rfl | exact own_cell hw (by (repeat first | with_reducible exact xH | apply xT); first | done | fail) (by first | rfl | assumption) | exact ro_at0 hw (by (repeat first | with_reducible exact xH | apply xT); first | done | fail) (by assumption) rfl | exact ro_at hw (by (repeat first | with_reducible exact xH | apply xT); first | done | fail) (by assumption) rfl | exact own_at0 hw (by (repeat first | with_reducible exact xH | apply xT); first | done | fail) (by assumption) rfl | exact own_at hw (by (repeat first | with_reducible exact xH | apply xT); first | done | fail) (by assumption) rfl | exact old_cell hw (by (repeat first | with_reducible exact xH | apply xT); first | done | fail) (by assumption) | assumption) (v_load T.scal_30 rfl) ?_
                              refine xV rfl rfl rfl (v_lenSlice T.sl_30_70_5 rfl) ?_
                              first | (refine xV rfl rfl rfl (v_sub rfl rfl (by omega)) ?_) | (refine xV rfl rfl rfl (v_subW rfl rfl) ?_)
                              refine xV rfl rfl rfl (v_min rfl rfl) ?_
                              refine xV rfl rfl rfl (v_assign rfl) ?_
                              refine rl_nil (g_le (xK (xS rfl (xS rfl (xS rfl (xS rfl (xS rfl (xS rfl (xS rfl (Fr.le_refl _))))))))) ?_)
                              obtain ⟨f, hf⟩ : ∃ f, f = min i (x.kids.length - 2) := ⟨_, rfl⟩
                              rw [show min (i : Int) ((x.kids.length : Int) - 2) = (f : Nat) by omega]
                              refine g_seq ?_
                              refine g_region ?_
                              refine xV rfl rfl rfl (v_move rfl) ?_
                              first | (refine xV rfl rfl rfl (v_add rfl rfl (by omega)) ?_) | (refine xV rfl rfl rfl (v_addW rfl rfl) ?_)
                              refine xV rfl rfl rfl (v_assign rfl) ?_
                              refine rl_nil (g_le (xK (xS rfl (xS rfl (Fr.le_refl _)))) ?_)
                              refine g_region ?_
                              refine rl_v rfl rfl rfl (by first | exact sat_cells hw (by (repeat first | with_reducible exact xH | apply xT); first | done | fail) ⟨rfl, trivial⟩ | exact ro_ats hw (by (repeat first | with_reducible exact xH | apply xT); first | done | fail) (by assumption) | exact own_cells hw (by (repeat first | with_reducible exact xH | apply xT); first | done | fail) (by assumption) | exact old_cells hw (by (repeat first | with_reducible exact xH | apply xT); first | done | fail) (by assumption)) (v_loadAgg (vs := [_]) T.agg_102_1 rfl rfl) ?_
                              refine rl_v rfl rfl rfl (by first | exact sat_cells hw (by (repeat first | with_reducible exact xH | apply xT); first | done | fail) ⟨rfl, rfl, rfl, trivial⟩ | exact ro_ats hw (by (repeat first | with_reducible exact xH | apply xT); first | done | fail) (by assumption) | exact own_cells hw (by (repeat first | with_reducible exact xH | apply xT); first | done | fail) (by assumption) | exact old_cells hw (by (repeat first | with_reducible exact xH | apply xT); first | done | fail) (by assumption)) (v_loadAgg (vs := [_, _, _]) T.agg_110_3 rfl rfl) ?_
                              refine xV rfl rfl rfl (v_move rfl) ?_
                              refine xV rfl rfl rfl (v_move rfl) ?_
                              refine rl_v rfl rfl rfl (by first | exact sat_cells hw (by (repeat first | with_reducible exact xH | apply xT); first | done | fail) ⟨rfl, rfl, rfl, trivial⟩ | exact ro_ats hw (by (repeat first | with_reducible exact xH | apply xT); first | done | fail) (by assumption) | exact own_cells hw (by (repeat first | with_reducible exact xH | apply xT); first | done | fail) (by assumption) | exact old_cells hw (by (repeat first | with_reducible exact xH | apply xT); first | done | fail) (by assumption)) (v_loadAgg (vs := [_, _, _]) T.agg_110_3 rfl rfl) ?_
                              refine xV rfl rfl rfl (v_move rfl) ?_
                              refine rl_k rfl (k_callf Try.func72 rfl rfl rfl rfl ?_)
                              refine Calls.mono (level_calls D (x := x) (i := i) (f := f) (k := q) hznd hzs hfine.2.2.1 (by omega) (by omega) (by omega) (by omega) deep hd0 (by omega) hI2 (hw.xQ)) ?_
                              generalize hlv : levelO D.ops q s2 x i f z = lq
                              obtain ⟨l, b3, s3⟩ := lq
                              dsimp only
                              rintro _ w ⟨g3, A3, pa, pc, hg3, hI3, rfl, hrd, hss, hw⟩
                              refine ⟨_, rfl, ?_⟩
                              refine xV rfl rfl rfl (v_move rfl) ?_
                              refine xV rfl rfl rfl (v_extract rfl rfl) ?_
                              refine xV rfl rfl rfl (v_extract rfl rfl) ?_
                              refine xV rfl rfl rfl (v_assign rfl) ?_
                              refine xV rfl rfl rfl (v_assign rfl) ?_
                              refine rl_nil (g_le (xK (xK (xS rfl (xS rfl (xS rfl (xS rfl (xS rfl (xS rfl (xS rfl (xS rfl (xS rfl (xS rfl (Fr.le_refl _))))))))))))) ?_)
                              have hll := levelO_len D.ops (k := q) (s := s2) (x := x) (y := z) (i := i) (f := f)
                              rw [hlv] at hll
                              have htl := takeO_level D.ops hat h2 hi hp2 ⟨by omega, by omega⟩
                              rw [← hf, hlv] at htl
                              exact joinc5 (f, f + 2, l, b3, g3, s3, A3, pa, pc) w _ (by repeat (first | exact Fr.le_nil _ | refine Fr.le_cons rfl ?_)) ⟨by simp only; omega, by simp only; omega, (hg1.trans hg2).trans hg3, hg2.trans hg3, hI3, htl, hrd, hss, hll.2, by have := hll.1; simp only at this ⊢; omega, by simp only; omega, hw.xQ⟩
                          · try with_reducible exact tf_elim h5
                            all_goals
                              try replace h5 := of_decide_eq_false h5
                              refine g_skip ?_
                              obtain ⟨g3, hg3, hrd, hw⟩ := (hw.xQ : Sat E w (RO g2 :: pt bk14_1 (.cells [.bool z.leaf, .slice za z.entries.length zc, .slice ya z.kids.length yc].toArray 110 (0, 0)) :: A2 :: pt bk1_7 (.cells [.bool x.leaf, .slice ea x.entries.length ec, .slice (some ⟨gb, 0, none⟩) x.kids.length kc].toArray 110 (0, 0)) :: OwnSl 49 2 (.slice ea x.entries.length ec) x.entries.length cells :: OwnSl 70 5 (.slice (some ⟨gb, 0, none⟩) x.kids.length kc) x.kids.length (x.kids.flatMap Kd.cells) :: pt bk0_0 (.cells [Value.iface D.t D.u].toArray 102 (0, 0)) :: pt bk0_2 (.cells [.bool false, .slice none 0 0, .slice none 0 0].toArray 110 (0, 0)) :: L)).freeze_lit (R := rdNd) (sz := 3) (bytes := 56) mono_Nd (Els.one rfl hznd) rfl (by simp [maxLen]) (by simp [reachBytes])
                              have htl := takeO_plain D.ops hat h2 hi hp2 (by omega)
                              exact joinc5 (i, i + 1, [z], 0, g3, s2, A2, some ⟨bk14_1, 0, none⟩, 1) w _ (by repeat (first | exact Fr.le_nil _ | refine Fr.le_cons rfl ?_)) ⟨by simp only; omega, by simp only; omega, (hg1.trans hg2).trans hg3, hg2.trans hg3, D.mono hg3 hI2, htl, hrd, fun y hy => by rw [List.mem_singleton.1 hy]; exact hzs, fun _ => by simp, by simp only [List.length_cons, List.length_nil]; omega, by simp only; omega, hw.xQ⟩
end Go.Proofs.Ytmbngahboaljpaa
