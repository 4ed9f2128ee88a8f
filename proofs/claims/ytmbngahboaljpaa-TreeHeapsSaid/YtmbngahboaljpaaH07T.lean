/-
  TreeHeaps: pages are got as they were laid down, whatever they are; under no other reference.
-/
import Derived.Test.YtmbngahboaljpaaH07
import Derived.Test.YtmbngahboaljpaaRows
namespace Go.Proofs.Ytmbngahboaljpaa
set_option maxRecDepth 8000
set_option linter.unusedSimpArgs false
set_option linter.unusedVariables false
open Go Xe Go.Lib Go.RowKit Go.ChangeShapes Go.WideShapes Go.ChangeAt
def refsH (n : Nat) : List Rf := (List.range n).map fun (i : Nat) => refO i
theorem refsH_succ (n : Nat) : refsH (n + 1) = refsH n ++ [refO n] := by simp [refsH, List.range_succ]
theorem refsH_len (n : Nat) : (refsH n).length = n := by simp [refsH]
theorem refsH_get {n i : Nat} (h : i < n) : (refsH n)[i]? = some (refO i) := by
  simp [refsH, List.getElem?_map, List.getElem?_range h]
theorem wrH_ok {s : List Nd} {n : Nd} (h : s.length < 20000) : wrH s n = (refO s.length, 0, s ++ [n]) := if_neg (by omega)
theorem rdH_ok {s : List Nd} {i : Nat} {x : Nd} (hx : s[i]? = some x) : rdH s (refO i) = (x, 0, s) := by
  have hlt := (List.getElem?_eq_some_iff.1 hx).1
  unfold rdH
  rw [if_pos ⟨by simp only [refO]; omega, by simp only [refO]; omega, by simp only [refO, Int.add_sub_cancel]⟩]
  simp only [refO, Int.add_sub_cancel, Int.toNat_natCast, List.getD_eq_getElem?_getD, hx, Option.getD_some]
theorem rdH_known {s : List Nd} {r : Rf} : (rdH s r).2.1 = 0 ∧ r ∈ refsH s.length ∨ rdH s r = (nd0, 71, s) ∧ r ∉ refsH s.length := by
  by_cases h : 1 ≤ r.key ∧ r.key ≤ s.length ∧ refO (r.key - 1) = r
  · refine .inl ⟨by unfold rdH; rw [if_pos h], ?_⟩
    refine List.mem_map.2 ⟨(r.key - 1).toNat, List.mem_range.2 (by omega), ?_⟩
    rw [show (((r.key - 1).toNat : Nat) : Int) = r.key - 1 by omega]
    exact h.2.2
  · refine .inr ⟨if_neg h, fun hm => h ?_⟩
    obtain ⟨i, hi, rfl⟩ := List.mem_map.1 hm
    have hi := List.mem_range.1 hi
    refine ⟨by simp only [refO]; omega, by simp only [refO]; omega, by simp only [refO, Int.add_sub_cancel]⟩
theorem eq_refO (i : Int) : cellsEq (refO i).cells [.int .u64 (i + 1), .int .i64 (i / 4), .int .i64 (i % 4), .int .i64 1] = some true := by
  have := eq_Rf (refO i) (refO i)
  rwa [decide_eq_true rfl] at this
theorem nd0_fine : nd0.fine := by simp [Nd.fine, nd0]
theorem rdH_fine {g : Hp} {cells : List Value} {s : List Nd} (h : Els rdNd 3 g cells s) (r : Rf) : (rdH s r).1.fine := by
  unfold rdH
  split
  · rename_i hh
    have hlt : (r.key - 1).toNat < s.length := by omega
    simp only [List.getD_eq_getElem?_getD, List.getElem?_eq_getElem hlt, Option.getD_some]
    exact Nd.fine_of (h.at (List.getElem?_eq_getElem hlt)).1
  · exact nd0_fine
theorem subAt_flat {α : Type} {f : α → List Value} {sz : Nat} (hl : ∀ x, (f x).length = sz) : ∀ {xs : List α} {i : Nat} {x : α}, xs[i]? = some x → SubAt (xs.flatMap f) (0 + i * sz) (f x) := by
  have key : ∀ (xs : List α) (i : Nat) (x : α), xs[i]? = some x → ((xs.flatMap f).drop (i * sz)).take sz = f x := by
    intro xs
    induction xs with
    | nil => intro i x h; simp at h
    | cons y ys ih =>
      intro i x h
      cases i with
      | zero =>
        simp only [List.getElem?_cons_zero, Option.some.injEq] at h
        subst h
        rw [Nat.zero_mul, List.drop_zero, List.flatMap_cons, List.take_left' (hl y)]
      | succ i =>
        rw [List.flatMap_cons, Nat.add_mul, Nat.one_mul, Nat.add_comm, ← List.drop_drop, List.drop_left' (hl y)]
        exact ih i x (by simpa using h)
  intro xs i x h
  exact subAt_of (key xs i x h)
theorem refsH_at {m j : Nat} (h : j < m) : SubAt ((refsH m).flatMap Rf.cells) (0 + j * 4) (refO j).cells := subAt_flat (f := Rf.cells) (sz := 4) (fun _ => rfl) (refsH_get h)
theorem ord_f3_r19_H07T : orderOfB Try.f3 19 [8] (.k 0 (.k 1 (.k 2 (.a 4 (.a 5 (.a 6 (.v 3 (.k 7 (.k 8 (.k 9 (.k 10 .done))))))))))) = true := by kernel_rfl
set_option maxHeartbeats 4000000 in
theorem TreeHeaps_law {w : World} {a : Option Addr} {len cap : Nat} {l : List Nd} {rcs : Array Value} {r : Rf} (hr : rdArg (rdSl 56 3 rdNd) w (.slice a len cap) l) (hrr : rdArg rdRf w (.agg rcs) r) :
    Law Try.prog 3 [.slice a len cap, .agg rcs] w := by
  unfold Law
  have hw := Sat.old w
  generalize w = W at hr hrr hw ⊢
  have hr : (rdSl 56 3 rdNd) (hpOf W) [.slice a len cap] l := hr
  obtain ⟨hrc, hrok⟩ : rcs.toList = r.cells ∧ r.ok := hrr
  obtain rfl : rcs = r.cells.toArray := by rw [← hrc]
  obtain ⟨rfl, hlb, hlc, _, gl⟩ := rdSl_get hr
  simp only [reachBytes] at hlb
  refine calls_of_g (n := 109) Try.func3 rfl rfl rfl ?_
  change G _ _ _ _ _ [(0, _), (1, _)] _
  refine g_seq ?_
  refine g_region ?_
  refine rl_k rfl (k_box hw rfl rfl rfl (fun bk0_0 w hw => ?_))
  refine rl_v rfl rfl rfl (S := fun _ => True) trivial (v_assign rfl) ?_
  refine rl_nil (g_le (Fr.le_keep (Fr.le_keep (Fr.le_refl _))) ?_)
  refine g_seq ?_
  refine g_region ?_
  refine rl_k rfl (k_callf Try.func12 rfl rfl rfl rfl ?_)
  refine Calls.mono (newHeap_calls hw) ?_
  rintro _ w ⟨h, rfl, hw⟩
  refine ⟨_, rfl, ?_⟩
  refine rl_v rfl rfl rfl (S := fun _ => True) trivial (v_assign rfl) ?_
  refine rl_nil (g_le (Fr.le_keep (Fr.le_skip rfl (Fr.le_refl _))) ?_)
  refine g_seq (g_seq ?_)
  refine g_region ?_
  refine rl_v rfl rfl rfl (S := fun _ => True) trivial (v_move rfl) ?_
  refine rl_v rfl rfl rfl (S := fun _ => True) trivial (v_eqlNil T.ptr_26 rfl rfl) ?_
  refine rl_nil (g_le (Fr.le_keep (Fr.le_skip rfl (Fr.le_refl _))) ?_)
  refine g_cond_false rfl ?_
  refine g_skip (g_seq ?_)
  refine g_region ?_
  refine rl_v rfl rfl rfl (S := fun _ => True) trivial (v_assign rfl) ?_
  refine rl_nil (g_le (Fr.le_keep (Fr.le_refl _)) ?_)
  refine g_seq (g_seq ?_)
  refine g_region ?_
  refine rl_v rfl rfl rfl (S := fun _ => True) trivial (v_move rfl) ?_
  refine rl_v rfl rfl rfl (S := fun _ => True) trivial (v_lenSlice T.sl_22_32_3 rfl) ?_
  refine rl_v rfl rfl rfl (S := fun _ => True) trivial (v_move rfl) ?_
  refine rl_nil (g_le (Fr.le_keep (Fr.le_keep (Fr.le_keep (Fr.le_refl _)))) ?_)
  refine g_cutc (σ := Nat × Hp × Value × List Value × Value) (fun C x => (6, x.2.2.2.2) :: C) [(0, _), (3, _), (4, _), (5, _)] (by repeat (first | exact Fr.le_nil _ | refine Fr.le_cons rfl ?_)) (fun z w => z.1 ≤ 40 ∧ z.1 ≤ l.length ∧ (hpOf W).le z.2.1 ∧ Els rdNd 3 z.2.1 z.2.2.2.1 (l.take z.1) ∧ Sat (envOf W) w (pt h (.cells [(z.2.2.1 : Value)].toArray 96 (0, 0)) :: OwnSl 32 3 z.2.2.1 ((l.take z.1) : List Nd).length z.2.2.2.1 :: OwnSl 25 4 z.2.2.2.2 z.1 ((refsH z.1).flatMap Rf.cells) :: pt bk0_0 (.cells r.cells.toArray 25 (0, 0)) :: RO z.2.1 :: [])) ?_ ?_
  · skip
    rintro ⟨m, g, lv, cells, rv⟩ w ⟨hm40, hml, hg, hels, hw⟩
    dsimp only at hm40 hml hg hels hw ⊢
    all_goals
      refine g_seq ?_
      refine g_region ?_
      refine rl_v rfl rfl rfl (S := fun _ => True) trivial (v_assign rfl) ?_
      refine rl_nil (g_le (Fr.le_keep (Fr.le_refl _)) ?_)
      refine g_seq (g_seq ?_)
      obtain ⟨ra, rc, rfl, hrc, _, hra⟩ := (hw.pick .at2).own_shape
      have htl : (l.take m).length = m := by rw [List.length_take]; omega
      refine g_region ?_
      refine rl_v rfl rfl rfl (S := fun _ => True) trivial (v_move rfl) ?_
      refine rl_v rfl rfl rfl (S := fun _ => True) trivial (v_lenSlice T.sl_28_25_4 rfl) ?_
      refine rl_v rfl rfl rfl (S := fun _ => True) trivial (v_move rfl) ?_
      refine rl_nil (g_le (Fr.le_keep (Fr.le_keep (Fr.le_keep (Fr.le_refl _)))) ?_)
      refine g_block ?_
      refine g_loopC (σ := Int × Bool) (fun C x => (64, .int .i64 x.1) :: (11, .bool x.2) :: C) [(0, _), (3, _), (4, _), (5, _), (62, _), (63, _)] (by repeat (first | exact Fr.le_nil _ | refine Fr.le_cons rfl ?_)) (fun z w => 0 ≤ z.1 ∧ z.1 ≤ m ∧ z.2 = decide (r ∈ refsH z.1.toNat) ∧ Sat (envOf W) w (pt h (.cells [(lv : Value)].toArray 96 (0, 0)) :: OwnSl 32 3 lv ((l.take m) : List Nd).length cells :: OwnSl 25 4 (.slice ra m rc) m ((refsH m).flatMap Rf.cells) :: pt bk0_0 (.cells r.cells.toArray 25 (0, 0)) :: RO g :: [])) (fun z => (m - z.1).toNat) ?_ (0, false) (by repeat (first | exact Fr.le_nil _ | refine Fr.le_cons rfl ?_)) ⟨by simp, by simp, by simp [refsH], hw.sub (by (repeat (first | with_reducible exact Sub.refl _ | exact Sub.nil _ | (apply Sub.cons; focus ((repeat (first | with_reducible exact Pick.here _ | apply Pick.there)); (first | done | fail))) | with_reducible apply Sub.drop)); first | done | fail)⟩
      rintro ⟨j, kb⟩ w ⟨hj0, hj1, hkb, hw⟩ ih2
      dsimp only at hj0 hj1 hkb hw ⊢
      refine g_seq ?_
      refine g_region ?_
      first | (refine rl_v rfl rfl rfl (S := fun _ => True) trivial (v_lssT rfl rfl (by omega)) ?_) | (refine rl_v rfl rfl rfl (S := fun _ => True) trivial (v_lssF rfl rfl (by omega)) ?_) | (refine rl_v rfl rfl rfl (S := fun _ => True) trivial (v_lss rfl rfl) ?_)
      refine rl_nil (g_le (Fr.le_keep (Fr.le_refl _)) ?_)
      refine g_seq ?_
      refine g_cond rfl (fun h5 => ?_) (fun h5 => ?_)
      · try with_reducible exact ft_elim h5
        all_goals
          try replace h5 := of_decide_eq_true h5
          refine g_skip (g_seq (g_block (g_seq ?_)))
          have hz := hw
          clear hw
          obtain ⟨gb, rfl⟩ := hra (by omega)
          have hsub := refsH_at (m := m) (j := j.toNat) (by omega)
          rw [show ((j.toNat : Nat) : Int) = j by omega] at hsub
          obtain ⟨_, _, _, _, g1⟩ := rdSl_get (mono_sl mono_Nd hg hr)
          obtain ⟨b4, o1, x, ecs, rfl, hx, hat1, hl1, hrd⟩ := g1 j hj0 (by omega)
          obtain ⟨ea, en, ec, ka, kn, kc, rfl, hnd⟩ := nd_told hrd
          have hx2 : (l.take m)[j.toNat]? = some x := by rw [List.getElem?_take, if_pos (by omega)]; exact hx
          have hw := hz
          refine g_region ?_
          refine rl_v rfl rfl rfl (S := fun _ => True) trivial (v_move rfl) ?_
          refine rl_v rfl rfl rfl (S := fun _ => True) trivial (v_indexAddr T.sl_28_25_4 rfl rfl (by omega) (by omega)) ?_
          refine rl_v rfl rfl rfl (by first | exact sat_cells hw (by (repeat (first | with_reducible exact Pick.here _ | apply Pick.there)); first | done | fail) ⟨rfl, rfl, rfl, rfl, trivial⟩ | exact ro_ats hw (by (repeat (first | with_reducible exact Pick.here _ | apply Pick.there)); first | done | fail) (by assumption) | exact own_cells hw (by (repeat (first | with_reducible exact Pick.here _ | apply Pick.there)); first | done | fail) (by assumption) | exact old_cells hw (by (repeat (first | with_reducible exact Pick.here _ | apply Pick.there)); first | done | fail) (by assumption)) (v_loadAgg (vs := [_, _, _, _]) T.agg_25_4 rfl rfl) ?_
          refine rl_k rfl (k_alloc hw T.zero_25 rfl rfl (fun bk17_3 w hw => ?_))
          refine rl_v rfl rfl rfl (S := fun _ => True) trivial (v_assign rfl) ?_
          first | (refine rl_k rfl (k_storeWhole hw T.agg_25_4 rfl rfl (by simp [Value.oneCell']) rfl (by (repeat (first | with_reducible exact Pick.here _ | apply Pick.there)); first | done | fail) rfl (fun w hw => ?_))) | (refine rl_k rfl (k_storeAgg hw T.agg_25_4 rfl rfl (by simp [Value.oneCell']) rfl (by (repeat (first | with_reducible exact Pick.here _ | apply Pick.there)); first | done | fail) rfl rfl (fun w hw => ?_))) | (refine rl_k rfl (k_storeOwnAgg hw T.agg_25_4 rfl rfl (by simp [Value.oneCell']) rfl (by (repeat (first | with_reducible exact Pick.here _ | apply Pick.there)); first | done | fail) (by assumption) (by omega) (fun w hw => ?_)))
          refine rl_nil (g_le (Fr.le_keep (Fr.le_keep (Fr.le_keep (Fr.le_keep (Fr.le_keep (Fr.le_refl _)))))) ?_)
          refine g_seq ?_
          refine g_region ?_
          refine rl_v rfl rfl rfl (S := fun _ => True) trivial (v_move rfl) ?_
          refine rl_v rfl rfl rfl (by first | exact sat_cells hw (by (repeat (first | with_reducible exact Pick.here _ | apply Pick.there)); first | done | fail) ⟨rfl, rfl, rfl, rfl, trivial⟩ | exact ro_ats hw (by (repeat (first | with_reducible exact Pick.here _ | apply Pick.there)); first | done | fail) (by assumption) | exact own_cells hw (by (repeat (first | with_reducible exact Pick.here _ | apply Pick.there)); first | done | fail) (by assumption) | exact old_cells hw (by (repeat (first | with_reducible exact Pick.here _ | apply Pick.there)); first | done | fail) (by assumption)) (v_loadAgg (vs := [_, _, _, _]) T.agg_25_4 rfl rfl) ?_
          refine rl_k rfl (k_callf Try.func15 rfl rfl rfl rfl ?_)
          refine Calls.mono (hread_calls (refO j) (refO_ok (by omega)) hels (by omega) (hw.sub (by (repeat (first | with_reducible exact Sub.refl _ | exact Sub.nil _ | (apply Sub.cons; focus ((repeat (first | with_reducible exact Pick.here _ | apply Pick.there)); (first | done | fail))) | with_reducible apply Sub.drop)); first | done | fail))) ?_
          rw [show refO j = refO (j.toNat : Nat) by rw [show ((j.toNat : Nat) : Int) = j by omega], rdH_ok hx2]
          rintro _ w ⟨ev, kv, vs, rfl, hw⟩
          obtain ⟨a4, c4, rfl, _, _, _⟩ := hw.own_shape
          obtain ⟨a5, c5, rfl, _, _, _⟩ := (hw.pick .at2).own_shape
          refine ⟨_, rfl, ?_⟩
          refine rl_v rfl rfl rfl (S := fun _ => True) trivial (v_move rfl) ?_
          refine rl_v rfl rfl rfl (S := fun _ => True) trivial (v_extract rfl rfl) ?_
          refine rl_v rfl rfl rfl (S := fun _ => True) trivial (v_extract rfl rfl) ?_
          refine rl_k rfl (k_alloc hw T.zero_32 rfl rfl (fun bk18_6 w hw => ?_))
          first | (refine rl_k rfl (k_storeWhole hw T.agg_32_3 rfl rfl (by simp [Value.oneCell']) rfl (by (repeat (first | with_reducible exact Pick.here _ | apply Pick.there)); first | done | fail) rfl (fun w hw => ?_))) | (refine rl_k rfl (k_storeAgg hw T.agg_32_3 rfl rfl (by simp [Value.oneCell']) rfl (by (repeat (first | with_reducible exact Pick.here _ | apply Pick.there)); first | done | fail) rfl rfl (fun w hw => ?_))) | (refine rl_k rfl (k_storeOwnAgg hw T.agg_32_3 rfl rfl (by simp [Value.oneCell']) rfl (by (repeat (first | with_reducible exact Pick.here _ | apply Pick.there)); first | done | fail) (by assumption) (by omega) (fun w hw => ?_)))
          refine rl_v rfl rfl rfl (S := fun _ => True) trivial (v_assign rfl) ?_
          refine rl_nil (g_le (Fr.le_keep (Fr.le_keep (Fr.le_keep (Fr.le_keep (Fr.le_keep (Fr.le_keep (Fr.le_keep (Fr.le_keep (Fr.le_refl _))))))))) ?_)
          obtain ⟨g2, hg2, hnd2, hw⟩ := nd_freeze (x := x) (Nd.fine_of hnd) (hw.sub (by (repeat (first | with_reducible exact Sub.refl _ | exact Sub.nil _ | (apply Sub.cons; focus ((repeat (first | with_reducible exact Pick.here _ | apply Pick.there)); (first | done | fail))) | with_reducible apply Sub.drop)); first | done | fail))
          have hat2 := hat1.mono hg2
          refine g_seq (g_seq ?_)
          refine g_drawR ord_f3_r19_H07T (by kernel_rfl) T.mixed hw (fun w hw => ?_)
          refine rs_kv 0 rfl rfl rfl rfl (S' := fun _ => True) trivial (v_move rfl) ?_
          first | (refine rs_kv 1 rfl rfl rfl rfl (S' := fun _ => True) trivial (v_neqT rfl rfl (by omega)) ?_) | (refine rs_kv 1 rfl rfl rfl rfl (S' := fun _ => True) trivial (v_neqF rfl rfl (by first | omega | rfl)) ?_) | (refine rs_kv 1 rfl rfl rfl rfl (S' := fun _ => True) trivial (v_neq rfl rfl) ?_)
          refine rs_kv 2 rfl rfl rfl rfl (S' := fun _ => True) trivial (v_move rfl) ?_
          first | (refine rs_ag 4 rfl (met_on rfl rfl rfl rfl) rfl rfl (v_move rfl) ?_) | (refine rs_aoff 4 rfl (by first | exact met_off rfl rfl rfl rfl rfl | exact met_gone rfl rfl rfl rfl) rfl rfl ?_)
          first | (refine rs_ag 5 rfl (met_on rfl rfl rfl rfl) rfl rfl (v_move rfl) ?_) | (refine rs_aoff 5 rfl (by first | exact met_off rfl rfl rfl rfl rfl | exact met_gone rfl rfl rfl rfl) rfl rfl ?_)
          first | (refine rs_ag 6 rfl (met_on rfl rfl rfl rfl) rfl rfl (v_indexAddr T.sl_22_32_3 rfl rfl (by omega) (by omega)) ?_) | (refine rs_aoff 6 rfl (by first | exact met_off rfl rfl rfl rfl rfl | exact met_gone rfl rfl rfl rfl) rfl rfl ?_)
          first | (refine rs_vg 3 rfl (met_on rfl rfl rfl rfl) rfl rfl (OpV.mono (v_loadAgg (vs := [_, _, _]) T.agg_32_3 rfl rfl) (fun w hw => by first | exact sat_cells hw (by (repeat (first | with_reducible exact Pick.here _ | apply Pick.there)); first | done | fail) ⟨rfl, rfl, rfl, trivial⟩ | exact ro_ats hw (by (repeat (first | with_reducible exact Pick.here _ | apply Pick.there)); first | done | fail) (by assumption) | exact own_cells hw (by (repeat (first | with_reducible exact Pick.here _ | apply Pick.there)); first | done | fail) (by assumption) | exact old_cells hw (by (repeat (first | with_reducible exact Pick.here _ | apply Pick.there)); first | done | fail) (by assumption))) (by first | exact hw | exact Sat.sub hw (by (repeat (first | with_reducible exact Sub.refl _ | exact Sub.nil _ | (apply Sub.cons; focus ((repeat (first | with_reducible exact Pick.here _ | apply Pick.there)); (first | done | fail))) | with_reducible apply Sub.drop)); first | done | fail)) ?_) | (refine rs_voff 3 rfl (by first | exact met_off rfl rfl rfl rfl rfl | exact met_gone rfl rfl rfl rfl) rfl rfl (by first | exact hw | exact Sat.sub hw (by (repeat (first | with_reducible exact Sub.refl _ | exact Sub.nil _ | (apply Sub.cons; focus ((repeat (first | with_reducible exact Pick.here _ | apply Pick.there)); (first | done | fail))) | with_reducible apply Sub.drop)); first | done | fail)) ?_)
          first | (refine rs_kvg 7 rfl (met_on rfl rfl rfl rfl) rfl rfl (by first | exact sat_cells hw (by (repeat (first | with_reducible exact Pick.here _ | apply Pick.there)); first | done | fail) ⟨rfl, rfl, rfl, trivial⟩ | exact ro_ats hw (by (repeat (first | with_reducible exact Pick.here _ | apply Pick.there)); first | done | fail) (by assumption) | exact own_cells hw (by (repeat (first | with_reducible exact Pick.here _ | apply Pick.there)); first | done | fail) (by assumption) | exact old_cells hw (by (repeat (first | with_reducible exact Pick.here _ | apply Pick.there)); first | done | fail) (by assumption)) (v_loadAgg (vs := [_, _, _]) T.agg_32_3 rfl rfl) ?_) | (refine rs_koff 7 rfl (by first | exact met_off rfl rfl rfl rfl rfl | exact met_gone rfl rfl rfl rfl) rfl rfl ?_)
          first | (refine rs_kg 8 rfl (met_on rfl rfl rfl rfl) (k_callf Try.func16 rfl rfl rfl rfl ?_); refine Calls.mono (likeNd_calls hnd2 (mono_Nd hg2 hnd) (hw.pick (by (repeat (first | with_reducible exact Pick.here _ | apply Pick.there)); first | done | fail))) ?_; rw [decide_eq_true rfl]; rintro _ w ⟨rfl, hw⟩; refine ⟨_, rfl, ?_⟩; refine ⟨fun hn => absurd (by decide) hn, ?_⟩) | (refine rs_koff 8 rfl (by first | exact met_off rfl rfl rfl rfl rfl | exact met_gone rfl rfl rfl rfl) rfl rfl ?_)
          first | (refine rs_kvg 9 rfl (met_on rfl rfl rfl rfl) rfl rfl (S' := fun _ => True) trivial (v_not rfl) ?_) | (refine rs_koff 9 rfl (by first | exact met_off rfl rfl rfl rfl rfl | exact met_gone rfl rfl rfl rfl) rfl rfl ?_)
          first | (refine rs_kv 10 rfl rfl rfl rfl (S' := fun _ => True) trivial (v_pick_true rfl rfl) ?_) | (refine rs_kv 10 rfl rfl rfl rfl (S' := fun _ => True) trivial (v_pick_false rfl rfl) ?_) | (refine rs_kv 10 rfl rfl rfl rfl (S' := fun _ => True) trivial (v_pick rfl rfl rfl) ?_)
          refine rs_done (g_le (Fr.le_keep (Fr.le_keep (Fr.le_keep (Fr.le_keep (Fr.le_keep (Fr.le_keep (Fr.le_keep (Fr.le_keep (Fr.le_keep (Fr.le_keep (Fr.le_keep (Fr.le_refl _)))))))))))) ?_)
          refine g_cond_false rfl ?_
          refine g_skip ?_
          have hw := (hw.pick (A := RO g2) (by (repeat (first | with_reducible exact Pick.here _ | apply Pick.there)); first | done | fail)).shrink hg2
          have hrs : refsH (j + 1).toNat = refsH j.toNat ++ [refO j] := by rw [show (j + 1).toNat = j.toNat + 1 by omega, refsH_succ, show ((j.toNat : Nat) : Int) = j by omega]
          refine g_region ?_
          refine rl_v rfl rfl rfl (S := fun _ => True) trivial (v_move rfl) ?_
          refine rl_v rfl rfl rfl (S := fun _ => True) trivial (v_move rfl) ?_
          refine rl_split (s := 87) rfl (fun g21_1 => ?_) (fun g21_1 => ?_)
          · try with_reducible exact ft_elim g21_1
            all_goals
              try replace g21_1 := of_decide_eq_true g21_1
              refine rl_off (met_off rfl rfl rfl rfl rfl) rfl rfl ?_
              refine rl_off (met_off rfl rfl rfl rfl rfl) rfl rfl ?_
              refine rl_off (met_off rfl rfl rfl rfl rfl) rfl rfl ?_
              first | (refine rl_v rfl rfl rfl (S := fun _ => True) trivial (v_pick_true rfl rfl) ?_) | (refine rl_v rfl rfl rfl (S := fun _ => True) trivial (v_pick_false rfl rfl) ?_) | (refine rl_v rfl rfl rfl (S := fun _ => True) trivial (v_pick rfl rfl rfl) ?_)
              refine rl_v rfl rfl rfl (S := fun _ => True) trivial (v_assign rfl) ?_
              refine rl_nil (g_le (Fr.le_keep (Fr.le_keep (Fr.le_keep (Fr.le_keep (Fr.le_keep (Fr.le_keep (Fr.le_keep (Fr.le_keep (Fr.le_refl _))))))))) ?_)
              refine g_inBlock ?_
              refine g_region ?_
              first | (refine rl_v rfl rfl rfl (S := fun _ => True) trivial (v_add rfl rfl (by omega)) ?_) | (refine rl_v rfl rfl rfl (S := fun _ => True) trivial (v_addW rfl rfl) ?_)
              refine rl_v rfl rfl rfl (S := fun _ => True) trivial (v_move rfl) ?_
              refine rl_nil (g_le (Fr.le_keep (Fr.le_keep (Fr.le_refl _))) ?_)
              refine g_le (by repeat (first | exact Fr.le_nil _ | refine Fr.le_cons rfl ?_)) (ih2 (j + 1, true) w ⟨by simp only; omega, by simp only; omega, ?_, hw.sub (by (repeat (first | with_reducible exact Sub.refl _ | exact Sub.nil _ | (apply Sub.cons; focus ((repeat (first | with_reducible exact Pick.here _ | apply Pick.there)); (first | done | fail))) | with_reducible apply Sub.drop)); first | done | fail)⟩ (by simp only; omega))
              dsimp only
              rw [hrs]
              have h9 := hkb.symm.trans g21_1
              simp only [decide_eq_true_eq] at h9
              symm
              rw [decide_eq_true_eq]
              exact List.mem_append.2 (.inl h9)
          · try with_reducible exact tf_elim g21_1
            all_goals
              try replace g21_1 := of_decide_eq_false g21_1
              refine rl_vg (met_on rfl rfl rfl rfl) rfl rfl (by first | exact sat_cells hw (by (repeat (first | with_reducible exact Pick.here _ | apply Pick.there)); first | done | fail) ⟨rfl, rfl, rfl, rfl, trivial⟩ | exact ro_ats hw (by (repeat (first | with_reducible exact Pick.here _ | apply Pick.there)); first | done | fail) (by assumption) | exact own_cells hw (by (repeat (first | with_reducible exact Pick.here _ | apply Pick.there)); first | done | fail) (by assumption) | exact old_cells hw (by (repeat (first | with_reducible exact Pick.here _ | apply Pick.there)); first | done | fail) (by assumption)) (v_loadAgg (vs := [_, _, _, _]) T.agg_25_4 rfl rfl) ?_
              refine rl_vg (met_on rfl rfl rfl rfl) rfl rfl (by first | exact sat_cells hw (by (repeat (first | with_reducible exact Pick.here _ | apply Pick.there)); first | done | fail) ⟨rfl, rfl, rfl, rfl, trivial⟩ | exact ro_ats hw (by (repeat (first | with_reducible exact Pick.here _ | apply Pick.there)); first | done | fail) (by assumption) | exact own_cells hw (by (repeat (first | with_reducible exact Pick.here _ | apply Pick.there)); first | done | fail) (by assumption) | exact old_cells hw (by (repeat (first | with_reducible exact Pick.here _ | apply Pick.there)); first | done | fail) (by assumption)) (v_loadAgg (vs := [_, _, _, _]) T.agg_25_4 rfl rfl) ?_
              refine rl_vg (met_on rfl rfl rfl rfl) rfl rfl (S := fun _ => True) trivial (v_eqlAgg T.cmp_25_iiii rfl rfl rfl rfl (by first | exact eq_Rf _ _ | rfl)) ?_
              first | (refine rl_v rfl rfl rfl (S := fun _ => True) trivial (v_pick_true rfl rfl) ?_) | (refine rl_v rfl rfl rfl (S := fun _ => True) trivial (v_pick_false rfl rfl) ?_) | (refine rl_v rfl rfl rfl (S := fun _ => True) trivial (v_pick rfl rfl rfl) ?_)
              refine rl_v rfl rfl rfl (S := fun _ => True) trivial (v_assign rfl) ?_
              refine rl_nil (g_le (Fr.le_keep (Fr.le_keep (Fr.le_keep (Fr.le_keep (Fr.le_keep (Fr.le_keep (Fr.le_keep (Fr.le_keep (Fr.le_refl _))))))))) ?_)
              refine g_inBlock ?_
              refine g_region ?_
              first | (refine rl_v rfl rfl rfl (S := fun _ => True) trivial (v_add rfl rfl (by omega)) ?_) | (refine rl_v rfl rfl rfl (S := fun _ => True) trivial (v_addW rfl rfl) ?_)
              refine rl_v rfl rfl rfl (S := fun _ => True) trivial (v_move rfl) ?_
              refine rl_nil (g_le (Fr.le_keep (Fr.le_keep (Fr.le_refl _))) ?_)
              refine g_le (by repeat (first | exact Fr.le_nil _ | refine Fr.le_cons rfl ?_)) (ih2 (j + 1, decide (refO (j.toNat : Nat) = r)) w ⟨by simp only; omega, by simp only; omega, ?_, hw.sub (by (repeat (first | with_reducible exact Sub.refl _ | exact Sub.nil _ | (apply Sub.cons; focus ((repeat (first | with_reducible exact Pick.here _ | apply Pick.there)); (first | done | fail))) | with_reducible apply Sub.drop)); first | done | fail)⟩ (by simp only; omega))
              dsimp only
              rw [hrs, show ((j.toNat : Nat) : Int) = j by omega]
              have h9 := hkb.symm.trans g21_1
              simp only [decide_eq_false_iff_not] at h9
              by_cases h8 : refO j = r
              · rw [decide_eq_true h8]; symm; rw [decide_eq_true_eq]; exact List.mem_append.2 (.inr (by simp [h8]))
              · rw [decide_eq_false h8]; symm; rw [decide_eq_false_iff_not, List.mem_append]; rintro (h7 | h7); exact h9 h7; simp at h7; exact h8 h7.symm
      · try with_reducible exact tf_elim h5
        all_goals
          try replace h5 := of_decide_eq_false h5
          refine g_exit rfl (g_seq ?_)
          have hkn := rdH_known (s := l.take m) (r := r)
          rw [htl] at hkn
          rw [show j.toNat = m by omega] at hkb
          have hfine := rdH_fine hels r
          refine g_region ?_
          refine rl_v rfl rfl rfl (S := fun _ => True) trivial (v_move rfl) ?_
          refine rl_v rfl rfl rfl (by first | exact sat_cells hw (by (repeat (first | with_reducible exact Pick.here _ | apply Pick.there)); first | done | fail) ⟨rfl, rfl, rfl, rfl, trivial⟩ | exact ro_ats hw (by (repeat (first | with_reducible exact Pick.here _ | apply Pick.there)); first | done | fail) (by assumption) | exact own_cells hw (by (repeat (first | with_reducible exact Pick.here _ | apply Pick.there)); first | done | fail) (by assumption) | exact old_cells hw (by (repeat (first | with_reducible exact Pick.here _ | apply Pick.there)); first | done | fail) (by assumption)) (v_loadAgg (vs := [_, _, _, _]) T.agg_25_4 rfl rfl) ?_
          refine rl_k rfl (k_callf Try.func15 rfl rfl rfl rfl ?_)
          refine Calls.mono (hread_calls r hrok hels (by omega) (hw.sub (by (repeat (first | with_reducible exact Sub.refl _ | exact Sub.nil _ | (apply Sub.cons; focus ((repeat (first | with_reducible exact Pick.here _ | apply Pick.there)); (first | done | fail))) | with_reducible apply Sub.drop)); first | done | fail))) ?_
          rintro _ w ⟨ev, kv, vs, rfl, hw⟩
          obtain ⟨a4, c4, rfl, _, _, _⟩ := hw.own_shape
          obtain ⟨a5, c5, rfl, _, _, _⟩ := (hw.pick .at2).own_shape
          refine ⟨_, rfl, ?_⟩
          refine rl_v rfl rfl rfl (S := fun _ => True) trivial (v_move rfl) ?_
          refine rl_v rfl rfl rfl (S := fun _ => True) trivial (v_extract rfl rfl) ?_
          refine rl_v rfl rfl rfl (S := fun _ => True) trivial (v_extract rfl rfl) ?_
          refine rl_k rfl (k_alloc hw T.zero_32 rfl rfl (fun bk23_6 w hw => ?_))
          first | (refine rl_k rfl (k_storeWhole hw T.agg_32_3 rfl rfl (by simp [Value.oneCell']) rfl (by (repeat (first | with_reducible exact Pick.here _ | apply Pick.there)); first | done | fail) rfl (fun w hw => ?_))) | (refine rl_k rfl (k_storeAgg hw T.agg_32_3 rfl rfl (by simp [Value.oneCell']) rfl (by (repeat (first | with_reducible exact Pick.here _ | apply Pick.there)); first | done | fail) rfl rfl (fun w hw => ?_))) | (refine rl_k rfl (k_storeOwnAgg hw T.agg_32_3 rfl rfl (by simp [Value.oneCell']) rfl (by (repeat (first | with_reducible exact Pick.here _ | apply Pick.there)); first | done | fail) (by assumption) (by omega) (fun w hw => ?_)))
          refine rl_v rfl rfl rfl (S := fun _ => True) trivial (v_assign rfl) ?_
          refine rl_nil (g_le (Fr.le_keep (Fr.le_keep (Fr.le_skip rfl (Fr.le_skip rfl (Fr.le_skip rfl (Fr.le_skip rfl (Fr.le_skip rfl (Fr.le_skip rfl (Fr.le_refl _))))))))) ?_)
          obtain ⟨g2, hg2, hnd2, hw⟩ := nd_freeze hfine (hw.sub (by (repeat (first | with_reducible exact Sub.refl _ | exact Sub.nil _ | (apply Sub.cons; focus ((repeat (first | with_reducible exact Pick.here _ | apply Pick.there)); (first | done | fail))) | with_reducible apply Sub.drop)); first | done | fail))
          refine g_seq (g_seq ?_)
          refine g_region ?_
          refine rl_v rfl rfl rfl (S := fun _ => True) trivial (v_move rfl) ?_
          refine rl_nil (g_le (Fr.le_keep (Fr.le_refl _)) ?_)
          refine g_cond rfl (fun h7 => ?_) (fun h7 => ?_)
          · try with_reducible exact ft_elim h7
            all_goals
              try replace h7 := of_decide_eq_true h7
              have he : (rdH (l.take m) r).2.1 = 0 := by rcases hkn with h9 | h9; exact h9.1; exact absurd (by simpa using hkb.symm.trans h7) h9.2
              rw [he]
              refine g_seq ?_
              refine g_region ?_
              refine rl_v rfl rfl rfl (S := fun _ => True) trivial (v_move rfl) ?_
              first | (refine rl_v rfl rfl rfl (S := fun _ => True) trivial (v_eqlT rfl rfl (by first | omega | rfl)) ?_) | (refine rl_v rfl rfl rfl (S := fun _ => True) trivial (v_eqlF rfl rfl (by omega)) ?_) | (refine rl_v rfl rfl rfl (S := fun _ => True) trivial (v_eql rfl rfl) ?_)
              refine rl_v rfl rfl rfl (S := fun _ => True) trivial (v_assign rfl) ?_
              refine rl_nil (g_le (Fr.le_keep (Fr.le_skip rfl (Fr.le_skip rfl (Fr.le_refl _)))) ?_)
              refine g_ret1 Try.func3 rfl rfl ?_
              exact ⟨rfl, (hw.sub (by (repeat (first | with_reducible exact Sub.refl _ | exact Sub.nil _ | (apply Sub.cons; focus ((repeat (first | with_reducible exact Pick.here _ | apply Pick.there)); (first | done | fail))) | with_reducible apply Sub.drop)); first | done | fail) : Sat (envOf W) w [RO g2]).shrink (hg.trans hg2)⟩
          · try with_reducible exact tf_elim h7
            all_goals
              try replace h7 := of_decide_eq_false h7
              have he : rdH (l.take m) r = (nd0, 71, l.take m) := by rcases hkn with h9 | h9; exact absurd h9.2 (by simpa using hkb.symm.trans h7); exact h9.1
              rw [he] at hw hnd2 ⊢
              dsimp only at hw hnd2 ⊢
              refine g_skip (g_seq ?_)
              refine g_region ?_
              refine rl_v rfl rfl rfl (S := fun _ => True) trivial (v_move rfl) ?_
              first | (refine rl_v rfl rfl rfl (S := fun _ => True) trivial (v_eqlT rfl rfl (by first | omega | rfl)) ?_) | (refine rl_v rfl rfl rfl (S := fun _ => True) trivial (v_eqlF rfl rfl (by omega)) ?_) | (refine rl_v rfl rfl rfl (S := fun _ => True) trivial (v_eql rfl rfl) ?_)
              refine rl_v rfl rfl rfl (S := fun _ => True) trivial (v_move rfl) ?_
              first | (refine rl_vg (met_on rfl rfl rfl rfl) rfl rfl (by first | exact sat_cells hw (by (repeat (first | with_reducible exact Pick.here _ | apply Pick.there)); first | done | fail) ⟨rfl, rfl, rfl, trivial⟩ | exact ro_ats hw (by (repeat (first | with_reducible exact Pick.here _ | apply Pick.there)); first | done | fail) (by assumption) | exact own_cells hw (by (repeat (first | with_reducible exact Pick.here _ | apply Pick.there)); first | done | fail) (by assumption) | exact old_cells hw (by (repeat (first | with_reducible exact Pick.here _ | apply Pick.there)); first | done | fail) (by assumption)) (v_loadAgg (vs := [_, _, _]) T.agg_32_3 rfl rfl) ?_) | (refine rl_off (by first | exact met_off rfl rfl rfl rfl rfl | exact met_gone rfl rfl rfl rfl) rfl rfl ?_)
              first | (refine rl_vg (met_on rfl rfl rfl rfl) rfl rfl (S := fun _ => True) trivial (v_build rfl (T.build_32 ..)) ?_) | (refine rl_off (by first | exact met_off rfl rfl rfl rfl rfl | exact met_gone rfl rfl rfl rfl) rfl rfl ?_)
              first | (refine rl_kg (met_on rfl rfl rfl rfl) (k_callf Try.func16 rfl rfl rfl rfl ?_); refine Calls.mono (likeNd_calls hnd2 (y := nd0) ⟨_, _, _, rfl, rfl, rdSl_nil _, rdSl_nil _⟩ (hw.pick (by (repeat (first | with_reducible exact Pick.here _ | apply Pick.there)); first | done | fail))) ?_; rw [decide_eq_true rfl]; rintro _ w ⟨rfl, hw⟩; refine ⟨_, rfl, ?_⟩) | (refine rl_off (by first | exact met_off rfl rfl rfl rfl rfl | exact met_gone rfl rfl rfl rfl) rfl rfl ?_)
              first | (refine rl_v rfl rfl rfl (S := fun _ => True) trivial (v_pick_true rfl rfl) ?_) | (refine rl_v rfl rfl rfl (S := fun _ => True) trivial (v_pick_false rfl rfl) ?_) | (refine rl_v rfl rfl rfl (S := fun _ => True) trivial (v_pick rfl rfl rfl) ?_)
              refine rl_v rfl rfl rfl (S := fun _ => True) trivial (v_assign rfl) ?_
              refine rl_nil (g_le (Fr.le_keep (Fr.le_skip rfl (Fr.le_skip rfl (Fr.le_skip rfl (Fr.le_skip rfl (Fr.le_skip rfl (Fr.le_skip rfl (Fr.le_skip rfl (Fr.le_refl _))))))))) ?_)
              refine g_ret1 Try.func3 rfl rfl ?_
              exact ⟨rfl, (hw.sub (by (repeat (first | with_reducible exact Sub.refl _ | exact Sub.nil _ | (apply Sub.cons; focus ((repeat (first | with_reducible exact Pick.here _ | apply Pick.there)); (first | done | fail))) | with_reducible apply Sub.drop)); first | done | fail) : Sat (envOf W) w [RO g2]).shrink (hg.trans hg2)⟩
  · intro joinb0
    refine g_block ?_
    refine g_loopC (σ := Int × Hp × Value × List Value × Value) (fun C x => (23, .int .i64 x.1) :: (6, x.2.2.2.2) :: C) [(0, _), (3, _), (4, _), (5, _), (21, _), (22, _)] (by repeat (first | exact Fr.le_nil _ | refine Fr.le_cons rfl ?_)) (fun z w => 0 ≤ z.1 ∧ z.1 ≤ 40 ∧ z.1 ≤ l.length ∧ (hpOf W).le z.2.1 ∧ Els rdNd 3 z.2.1 z.2.2.2.1 (l.take z.1.toNat) ∧ Sat (envOf W) w (pt h (.cells [(z.2.2.1 : Value)].toArray 96 (0, 0)) :: OwnSl 32 3 z.2.2.1 ((l.take z.1.toNat) : List Nd).length z.2.2.2.1 :: OwnSl 25 4 z.2.2.2.2 z.1.toNat ((refsH z.1.toNat).flatMap Rf.cells) :: pt bk0_0 (.cells r.cells.toArray 25 (0, 0)) :: RO z.2.1 :: [])) (fun z => (l.length - z.1).toNat) ?_ (0, hpOf W, .slice none 0 0, [], .slice none 0 0) (by repeat (first | exact Fr.le_nil _ | refine Fr.le_cons rfl ?_)) ⟨by simp, by simp, by simp, Hp.le_refl _, Els.nil, by simp only [Int.toNat_zero, List.take_zero, List.length_nil, refsH, List.range_zero, List.map_nil, List.flatMap_nil] at hw ⊢; exact (hw.own_nil 25 4).sub (by (repeat (first | with_reducible exact Sub.refl _ | exact Sub.nil _ | (apply Sub.cons; focus ((repeat (first | with_reducible exact Pick.here _ | apply Pick.there)); (first | done | fail))) | with_reducible apply Sub.drop)); first | done | fail)⟩
    rintro ⟨i, g, lv, cells, rv⟩ w ⟨hi0, hi4, hi1, hg, hels, hw⟩ ih
    dsimp only at hi0 hi4 hi1 hg hels hw ⊢
    refine g_seq ?_
    refine g_region ?_
    first | (refine rl_v rfl rfl rfl (S := fun _ => True) trivial (v_lssT rfl rfl (by omega)) ?_) | (refine rl_v rfl rfl rfl (S := fun _ => True) trivial (v_lssF rfl rfl (by omega)) ?_) | (refine rl_v rfl rfl rfl (S := fun _ => True) trivial (v_lss rfl rfl) ?_)
    refine rl_nil (g_le (Fr.le_keep (Fr.le_refl _)) ?_)
    refine g_seq ?_
    refine g_cond rfl (fun h2 => ?_) (fun h2 => ?_)
    · try with_reducible exact ft_elim h2
      all_goals
        try replace h2 := of_decide_eq_true h2
        refine g_skip (g_seq (g_block (g_seq ?_)))
        have hz := hw
        clear hw
        obtain ⟨_, _, _, _, g1⟩ := rdSl_get (mono_sl mono_Nd hg hr)
        obtain ⟨b4, o1, x, ecs, rfl, hx, hat1, hl1, hrd⟩ := g1 i hi0 (by omega)
        obtain ⟨ea, en, ec, ka, kn, kc, rfl, hnd⟩ := nd_told hrd
        have hw := hz
        have htl : ((l.take i.toNat).length : Int) = i := by rw [List.length_take]; omega
        have hu : IntKind.u64.wrap (i + 1) = i + 1 := u64_in (by omega)
        have htk : l.take (i + 1).toNat = l.take i.toNat ++ [x] := by rw [show (i + 1).toNat = i.toNat + 1 by omega, List.take_add_one, hx]; rfl
        have hlt : ((l.take i.toNat ++ [x]).length : Int) = i + 1 := by rw [List.length_append, Int.natCast_add, htl]; rfl
        refine g_region ?_
        refine rl_v rfl rfl rfl (S := fun _ => True) trivial (v_move rfl) ?_
        refine rl_v rfl rfl rfl (S := fun _ => True) trivial (v_indexAddr T.sl_22_32_3 rfl rfl (by omega) (by omega)) ?_
        refine rl_v rfl rfl rfl (by first | exact sat_cells hw (by (repeat (first | with_reducible exact Pick.here _ | apply Pick.there)); first | done | fail) ⟨rfl, rfl, rfl, trivial⟩ | exact ro_ats hw (by (repeat (first | with_reducible exact Pick.here _ | apply Pick.there)); first | done | fail) (by assumption) | exact own_cells hw (by (repeat (first | with_reducible exact Pick.here _ | apply Pick.there)); first | done | fail) (by assumption) | exact old_cells hw (by (repeat (first | with_reducible exact Pick.here _ | apply Pick.there)); first | done | fail) (by assumption)) (v_loadAgg (vs := [_, _, _]) T.agg_32_3 rfl rfl) ?_
        refine rl_k rfl (k_alloc hw T.zero_32 rfl rfl (fun bk7_3 w hw => ?_))
        refine rl_v rfl rfl rfl (S := fun _ => True) trivial (v_assign rfl) ?_
        first | (refine rl_k rfl (k_storeWhole hw T.agg_32_3 rfl rfl (by simp [Value.oneCell']) rfl (by (repeat (first | with_reducible exact Pick.here _ | apply Pick.there)); first | done | fail) rfl (fun w hw => ?_))) | (refine rl_k rfl (k_storeAgg hw T.agg_32_3 rfl rfl (by simp [Value.oneCell']) rfl (by (repeat (first | with_reducible exact Pick.here _ | apply Pick.there)); first | done | fail) rfl rfl (fun w hw => ?_))) | (refine rl_k rfl (k_storeOwnAgg hw T.agg_32_3 rfl rfl (by simp [Value.oneCell']) rfl (by (repeat (first | with_reducible exact Pick.here _ | apply Pick.there)); first | done | fail) (by assumption) (by omega) (fun w hw => ?_)))
        refine rl_nil (g_le (Fr.le_keep (Fr.le_keep (Fr.le_keep (Fr.le_keep (Fr.le_keep (Fr.le_refl _)))))) ?_)
        refine g_seq (g_seq ?_)
        refine g_region ?_
        refine rl_v rfl rfl rfl (S := fun _ => True) trivial (v_move rfl) ?_
        first | (refine rl_v rfl rfl rfl (S := fun _ => True) trivial (v_geqT rfl rfl (by omega)) ?_) | (refine rl_v rfl rfl rfl (S := fun _ => True) trivial (v_geqF rfl rfl (by omega)) ?_) | (refine rl_v rfl rfl rfl (S := fun _ => True) trivial (v_geq rfl rfl) ?_)
        refine rl_nil (g_le (Fr.le_keep (Fr.le_keep (Fr.le_refl _))) ?_)
        refine g_cond rfl (fun h3 => ?_) (fun h3 => ?_)
        · try with_reducible exact ft_elim h3
          all_goals
            try replace h3 := of_decide_eq_true h3
            refine g_exit rfl ?_
            exact joinb0 (i.toNat, g, lv, cells, rv) w _ (by repeat (first | exact Fr.le_nil _ | refine Fr.le_cons rfl ?_)) ⟨by simp only; omega, by simp only; omega, hg, hels, hw.sub (by (repeat (first | with_reducible exact Sub.refl _ | exact Sub.nil _ | (apply Sub.cons; focus ((repeat (first | with_reducible exact Pick.here _ | apply Pick.there)); (first | done | fail))) | with_reducible apply Sub.drop)); first | done | fail)⟩
        · try with_reducible exact tf_elim h3
          all_goals
            try replace h3 := of_decide_eq_false h3
            refine g_skip (g_seq ?_)
            refine g_region ?_
            refine rl_v rfl rfl rfl (S := fun _ => True) trivial (v_move rfl) ?_
            refine rl_v rfl rfl rfl (by first | exact sat_cells hw (by (repeat (first | with_reducible exact Pick.here _ | apply Pick.there)); first | done | fail) ⟨rfl, rfl, rfl, trivial⟩ | exact ro_ats hw (by (repeat (first | with_reducible exact Pick.here _ | apply Pick.there)); first | done | fail) (by assumption) | exact own_cells hw (by (repeat (first | with_reducible exact Pick.here _ | apply Pick.there)); first | done | fail) (by assumption) | exact old_cells hw (by (repeat (first | with_reducible exact Pick.here _ | apply Pick.there)); first | done | fail) (by assumption)) (v_loadAgg (vs := [_, _, _]) T.agg_32_3 rfl rfl) ?_
            refine rl_k rfl (k_callf Try.func13 rfl rfl rfl rfl ?_)
            refine Calls.mono (hwrite_calls hnd hels (by omega) (hw.sub (by (repeat (first | with_reducible exact Sub.refl _ | exact Sub.nil _ | (apply Sub.cons; focus ((repeat (first | with_reducible exact Pick.here _ | apply Pick.there)); (first | done | fail))) | with_reducible apply Sub.drop)); first | done | fail))) ?_
            rw [wrH_ok (by omega), htl]
            rintro _ w ⟨g2, lv2, cells2, hg2, rfl, hels2, hw⟩
            refine ⟨_, rfl, ?_⟩
            refine rl_v rfl rfl rfl (S := fun _ => True) trivial (v_move rfl) ?_
            refine rl_v rfl rfl rfl (S := fun _ => True) trivial (v_extract rfl rfl) ?_
            refine rl_v rfl rfl rfl (S := fun _ => True) trivial (v_extract rfl rfl) ?_
            refine rl_k rfl (k_alloc hw T.zero_25 rfl rfl (fun bk9_6 w hw => ?_))
            first | (refine rl_k rfl (k_storeWhole hw T.agg_25_4 rfl rfl (by simp [Value.oneCell']) rfl (by (repeat (first | with_reducible exact Pick.here _ | apply Pick.there)); first | done | fail) rfl (fun w hw => ?_))) | (refine rl_k rfl (k_storeAgg hw T.agg_25_4 rfl rfl (by simp [Value.oneCell']) rfl (by (repeat (first | with_reducible exact Pick.here _ | apply Pick.there)); first | done | fail) rfl rfl (fun w hw => ?_))) | (refine rl_k rfl (k_storeOwnAgg hw T.agg_25_4 rfl rfl (by simp [Value.oneCell']) rfl (by (repeat (first | with_reducible exact Pick.here _ | apply Pick.there)); first | done | fail) (by assumption) (by omega) (fun w hw => ?_)))
            refine rl_v rfl rfl rfl (S := fun _ => True) trivial (v_assign rfl) ?_
            refine rl_nil (g_le (Fr.le_keep (Fr.le_keep (Fr.le_keep (Fr.le_keep (Fr.le_keep (Fr.le_keep (Fr.le_keep (Fr.le_keep (Fr.le_refl _))))))))) ?_)
            dsimp only at hels2 hw ⊢
            obtain ⟨ra, rc, rfl, _, _, _⟩ := (hw.sub (by (repeat (first | with_reducible exact Sub.refl _ | exact Sub.nil _ | (apply Sub.cons; focus ((repeat (first | with_reducible exact Pick.here _ | apply Pick.there)); (first | done | fail))) | with_reducible apply Sub.drop)); first | done | fail) : Sat (envOf W) w (OwnSl 25 4 rv i.toNat ((refsH i.toNat).flatMap Rf.cells) :: [])).own_shape
            refine g_seq (g_seq ?_)
            refine g_region ?_
            refine rl_v rfl rfl rfl (S := fun _ => True) trivial (v_move rfl) ?_
            first | (refine rl_v rfl rfl rfl (S := fun _ => True) trivial (v_neqT rfl rfl (by omega)) ?_) | (refine rl_v rfl rfl rfl (S := fun _ => True) trivial (v_neqF rfl rfl (by first | omega | rfl)) ?_) | (refine rl_v rfl rfl rfl (S := fun _ => True) trivial (v_neq rfl rfl) ?_)
            refine rl_v rfl rfl rfl (S := fun _ => True) trivial (v_move rfl) ?_
            first | (refine rl_vg (met_on rfl rfl rfl rfl) rfl rfl (by first | exact sat_cells hw (by (repeat (first | with_reducible exact Pick.here _ | apply Pick.there)); first | done | fail) ⟨rfl, rfl, rfl, rfl, trivial⟩ | exact ro_ats hw (by (repeat (first | with_reducible exact Pick.here _ | apply Pick.there)); first | done | fail) (by assumption) | exact own_cells hw (by (repeat (first | with_reducible exact Pick.here _ | apply Pick.there)); first | done | fail) (by assumption) | exact old_cells hw (by (repeat (first | with_reducible exact Pick.here _ | apply Pick.there)); first | done | fail) (by assumption)) (v_loadAgg (vs := [_, _, _, _]) T.agg_25_4 rfl rfl) ?_) | (refine rl_off (by first | exact met_off rfl rfl rfl rfl rfl | exact met_gone rfl rfl rfl rfl) rfl rfl ?_)
            first | (refine rl_vg (met_on rfl rfl rfl rfl) rfl rfl (S := fun _ => True) trivial (v_move rfl) ?_) | (refine rl_off (by first | exact met_off rfl rfl rfl rfl rfl | exact met_gone rfl rfl rfl rfl) rfl rfl ?_)
            first | (refine rl_vg (met_on rfl rfl rfl rfl) rfl rfl (S := fun _ => True) trivial (v_convU T.int_23_u64 T.int_3_i64 rfl (by omega) (by omega)) ?_) | (refine rl_vg (met_on rfl rfl rfl rfl) rfl rfl (S := fun _ => True) trivial (v_convInt T.int_23_u64 T.int_3_i64 rfl) ?_) | (refine rl_off (by first | exact met_off rfl rfl rfl rfl rfl | exact met_gone rfl rfl rfl rfl) rfl rfl ?_)
            first | (refine rl_vg (met_on rfl rfl rfl rfl) rfl rfl (S := fun _ => True) trivial (v_addW rfl rfl) ?_) | (refine rl_off (by first | exact met_off rfl rfl rfl rfl rfl | exact met_gone rfl rfl rfl rfl) rfl rfl ?_)
            rw [hu]
            first | (refine rl_vg (met_on rfl rfl rfl rfl) rfl rfl (S := fun _ => True) trivial (v_move rfl) ?_) | (refine rl_off (by first | exact met_off rfl rfl rfl rfl rfl | exact met_gone rfl rfl rfl rfl) rfl rfl ?_)
            first | (refine rl_vg (met_on rfl rfl rfl rfl) rfl rfl (S := fun _ => True) trivial (v_quo rfl rfl (by omega) (by omega) (by omega)) ?_) | (refine rl_vg (met_on rfl rfl rfl rfl) rfl rfl (S := fun _ => True) trivial (v_quoW rfl rfl (by omega)) ?_) | (refine rl_off (by first | exact met_off rfl rfl rfl rfl rfl | exact met_gone rfl rfl rfl rfl) rfl rfl ?_)
            first | (refine rl_vg (met_on rfl rfl rfl rfl) rfl rfl (S := fun _ => True) trivial (v_move rfl) ?_) | (refine rl_off (by first | exact met_off rfl rfl rfl rfl rfl | exact met_gone rfl rfl rfl rfl) rfl rfl ?_)
            first | (refine rl_vg (met_on rfl rfl rfl rfl) rfl rfl (S := fun _ => True) trivial (v_remP rfl rfl (by omega) (by omega)) ?_) | (refine rl_vg (met_on rfl rfl rfl rfl) rfl rfl (S := fun _ => True) trivial (v_rem rfl rfl (by omega)) ?_) | (refine rl_off (by first | exact met_off rfl rfl rfl rfl rfl | exact met_gone rfl rfl rfl rfl) rfl rfl ?_)
            first | (refine rl_vg (met_on rfl rfl rfl rfl) rfl rfl (S := fun _ => True) trivial (v_build rfl (T.build_25_0_1_2_3 ..)) ?_) | (refine rl_off (by first | exact met_off rfl rfl rfl rfl rfl | exact met_gone rfl rfl rfl rfl) rfl rfl ?_)
            first | (refine rl_vg (met_on rfl rfl rfl rfl) rfl rfl (S := fun _ => True) trivial (v_neqAgg T.cmp_25_iiii rfl rfl rfl rfl (eq_refO i)) ?_) | (refine rl_off (by first | exact met_off rfl rfl rfl rfl rfl | exact met_gone rfl rfl rfl rfl) rfl rfl ?_)
            first | (refine rl_v rfl rfl rfl (S := fun _ => True) trivial (v_pick_true rfl rfl) ?_) | (refine rl_v rfl rfl rfl (S := fun _ => True) trivial (v_pick_false rfl rfl) ?_) | (refine rl_v rfl rfl rfl (S := fun _ => True) trivial (v_pick rfl rfl rfl) ?_)
            refine rl_v rfl rfl rfl (S := fun _ => True) trivial (v_move rfl) ?_
            first | (refine rl_vg (met_on rfl rfl rfl rfl) rfl rfl (S := fun _ => True) trivial (v_move rfl) ?_) | (refine rl_off (by first | exact met_off rfl rfl rfl rfl rfl | exact met_gone rfl rfl rfl rfl) rfl rfl ?_)
            first | (refine rl_kg (met_on rfl rfl rfl rfl) (k_callf Try.func14 rfl rfl rfl rfl ?_); refine Calls.mono (hlen_calls (hw.sub (by (repeat (first | with_reducible exact Sub.refl _ | exact Sub.nil _ | (apply Sub.cons; focus ((repeat (first | with_reducible exact Pick.here _ | apply Pick.there)); (first | done | fail))) | with_reducible apply Sub.drop)); first | done | fail))) ?_; rintro _ w ⟨rfl, hw⟩; refine ⟨_, rfl, ?_⟩) | (refine rl_off (by first | exact met_off rfl rfl rfl rfl rfl | exact met_gone rfl rfl rfl rfl) rfl rfl ?_)
            first | (refine rl_vg (met_on rfl rfl rfl rfl) rfl rfl (S := fun _ => True) trivial (v_move rfl) ?_) | (refine rl_off (by first | exact met_off rfl rfl rfl rfl rfl | exact met_gone rfl rfl rfl rfl) rfl rfl ?_)
            first | (refine rl_vg (met_on rfl rfl rfl rfl) rfl rfl (S := fun _ => True) trivial (v_add rfl rfl (by omega)) ?_) | (refine rl_vg (met_on rfl rfl rfl rfl) rfl rfl (S := fun _ => True) trivial (v_addW rfl rfl) ?_) | (refine rl_off (by first | exact met_off rfl rfl rfl rfl rfl | exact met_gone rfl rfl rfl rfl) rfl rfl ?_)
            first | (refine rl_vg (met_on rfl rfl rfl rfl) rfl rfl (S := fun _ => True) trivial (v_neqT rfl rfl (by omega)) ?_) | (refine rl_vg (met_on rfl rfl rfl rfl) rfl rfl (S := fun _ => True) trivial (v_neqF rfl rfl (by first | omega | rfl)) ?_) | (refine rl_vg (met_on rfl rfl rfl rfl) rfl rfl (S := fun _ => True) trivial (v_neq rfl rfl) ?_) | (refine rl_off (by first | exact met_off rfl rfl rfl rfl rfl | exact met_gone rfl rfl rfl rfl) rfl rfl ?_)
            first | (refine rl_v rfl rfl rfl (S := fun _ => True) trivial (v_pick_true rfl rfl) ?_) | (refine rl_v rfl rfl rfl (S := fun _ => True) trivial (v_pick_false rfl rfl) ?_) | (refine rl_v rfl rfl rfl (S := fun _ => True) trivial (v_pick rfl rfl rfl) ?_)
            refine rl_nil (g_le (Fr.le_keep (Fr.le_keep (Fr.le_keep (Fr.le_keep (Fr.le_keep (Fr.le_keep (Fr.le_keep (Fr.le_keep (Fr.le_keep (Fr.le_keep (Fr.le_keep (Fr.le_keep (Fr.le_keep (Fr.le_keep (Fr.le_keep (Fr.le_keep (Fr.le_keep (Fr.le_keep (Fr.le_keep (Fr.le_keep (Fr.le_keep (Fr.le_refl _)))))))))))))))))))))) ?_)
            refine g_cond_false rfl ?_
            refine g_skip ?_
            refine g_region ?_
            refine rl_v rfl rfl rfl (S := fun _ => True) trivial (v_move rfl) ?_
            refine rl_v rfl rfl rfl (by first | exact sat_cells hw (by (repeat (first | with_reducible exact Pick.here _ | apply Pick.there)); first | done | fail) ⟨rfl, rfl, rfl, rfl, trivial⟩ | exact ro_ats hw (by (repeat (first | with_reducible exact Pick.here _ | apply Pick.there)); first | done | fail) (by assumption) | exact own_cells hw (by (repeat (first | with_reducible exact Pick.here _ | apply Pick.there)); first | done | fail) (by assumption) | exact old_cells hw (by (repeat (first | with_reducible exact Pick.here _ | apply Pick.there)); first | done | fail) (by assumption)) (v_loadAgg (vs := [_, _, _, _]) T.agg_25_4 rfl rfl) ?_
            refine rl_k rfl (k_buildSlice (cells := [_, _, _, _]) hw T.sl_28_25_4 T.zero_25 rfl rfl rfl rfl rfl rfl (fun bk12_2 w hw => ?_))
            refine rl_k rfl (k_append (news := [_, _, _, _]) hw T.sl_28_25_4 T.zero_25 T.bytes_25_32 rfl (by decide) rfl rfl (by (repeat (first | with_reducible exact Pick.here _ | apply Pick.there)); first | done | fail) rfl (by first | exact sat_cells hw (by (repeat (first | with_reducible exact Pick.here _ | apply Pick.there)); first | done | fail) ⟨rfl, rfl, rfl, rfl, trivial⟩ | exact old_cells hw (by (repeat (first | with_reducible exact Pick.here _ | apply Pick.there)); first | done | fail) (by assumption)) (by simp [Value.oneCell']) (by omega) (by simp only [maxLen]; omega) rfl (fun vv12_3 w hw hnil => ?_))
            refine rl_v rfl rfl rfl (S := fun _ => True) trivial (v_assign rfl) ?_
            refine rl_nil (g_le (Fr.le_keep (Fr.le_keep (Fr.le_keep (Fr.le_keep (Fr.le_keep (Fr.le_refl _)))))) ?_)
            refine g_inBlock ?_
            refine g_region ?_
            first | (refine rl_v rfl rfl rfl (S := fun _ => True) trivial (v_add rfl rfl (by omega)) ?_) | (refine rl_v rfl rfl rfl (S := fun _ => True) trivial (v_addW rfl rfl) ?_)
            refine rl_v rfl rfl rfl (S := fun _ => True) trivial (v_move rfl) ?_
            refine rl_nil (g_le (Fr.le_keep (Fr.le_keep (Fr.le_refl _))) ?_)
            exact g_le (by repeat (first | exact Fr.le_nil _ | refine Fr.le_cons rfl ?_)) (ih (i + 1, g2, lv2, cells2, vv12_3) w ⟨by simp only; omega, by simp only; omega, by simp only; omega, hg.trans hg2, by dsimp only; rw [htk]; exact hels2, by dsimp only; rw [htk, show (i + 1).toNat = i.toNat + 1 by omega, refsH_succ, List.flatMap_append, show ((i.toNat : Nat) : Int) = i by omega, show List.flatMap Rf.cells [refO i] = (refO i).cells by simp]; exact hw.sub (by (repeat (first | with_reducible exact Sub.refl _ | exact Sub.nil _ | (apply Sub.cons; focus ((repeat (first | with_reducible exact Pick.here _ | apply Pick.there)); (first | done | fail))) | with_reducible apply Sub.drop)); first | done | fail)⟩ (by simp only; omega))
    · try with_reducible exact tf_elim h2
      all_goals
        try replace h2 := of_decide_eq_false h2
        refine g_exit rfl ?_
        exact joinb0 (i.toNat, g, lv, cells, rv) w _ (by repeat (first | exact Fr.le_nil _ | refine Fr.le_cons rfl ?_)) ⟨by simp only; omega, by simp only; omega, hg, hels, hw.sub (by (repeat (first | with_reducible exact Sub.refl _ | exact Sub.nil _ | (apply Sub.cons; focus ((repeat (first | with_reducible exact Pick.here _ | apply Pick.there)); (first | done | fail))) | with_reducible apply Sub.drop)); first | done | fail)⟩

set_option maxRecDepth 100000 in
theorem TreeHeaps_lifted (os : Os) (started : os.Started) (H : Type) (enc : TypeId × Value → H) :
    ReturnsInHanded {} Try.checked os 3 .any (Rows.treeHeapsSpec.pre6 enc Try.prog Try.f3 Rows.treeHeapsRow.domain false) (Rows.treeHeapsSpec.post enc Try.prog Try.f3 false true false false) := by
  refine returnsInHanded_of_change_sized (C := Try.checked) T.own started (by kernel_rfl) Try.func3
    (ChangeSpec.witness6 (enc := enc) (C := Try.checked) false ⟨#[], #[(.slice none 0 0), (.agg #[(.int .u64 0), (.int .i64 0), (.int .i64 0), (.int .i64 0)])], []⟩ 8 (by kernel_rfl) (by kernel_rfl) (by kernel_rfl) (by kernel_rfl)) ?_
  intro W base args ds gs before hval0 hW hcnd hsz0 _
  have hval : ∀ (j : Nat) t v, Try.f3.params[j]? = some t → args[j]? = some v → Value.okWide Try.prog W .any base t v := hval0
  have hW' := hW
  obtain ⟨p, q, hA0, hV, rfl, hfz, hnd⟩ := hW
  have hA : DataW.TrodAll enc Try.prog W 0 (fun _ => true) true Try.f3.params.toList args.toList ds p := hA0
  obtain ⟨rfl, rfl⟩ := trodVars_none hV
  have hsz : (DataW.weightsEach Try.prog (Try.f3.params.toList ++ []) (ds ++ [])).all (· ≤ reachBytes) = true := hsz0
  rw [List.append_nil, List.append_nil] at hsz
  rw [Try.params3] at hA hval hsz
  obtain ⟨v0, vs0, d0, ds0, p0, q0, hargs, rfl, rfl, h0, r0⟩ := trodAll_cons hA
  obtain ⟨v1, vs1, d1, ds1, p1, q1, rfl, rfl, rfl, h1, r1⟩ := trodAll_cons r0
  obtain ⟨rfl, rfl, rfl⟩ := trodAll_nil r1
  obtain rfl : args = #[v0, v1] := by cases args; simp_all
  have lt0 : ∀ x ∈ p0, x.block < W.heap.size := by obtain ⟨m, hm⟩ := h0; exact DataW.trod_lt m _ _ _ hm
  obtain ⟨x0, w0⟩ := arg_of (j := 0) (reads_sl T.sl_22_32_3 T.bytes_32_56 (by decide) reads_Nd) h0 hsz rfl rfl
  have lt1 : ∀ x ∈ p1, x.block < W.heap.size := by obtain ⟨m, hm⟩ := h1; exact DataW.trod_lt m _ _ _ hm
  obtain ⟨x1, w1⟩ := arg_of (j := 1) reads_Rf h1 hsz rfl rfl
  obtain ⟨a0, l0, c0, rfl⟩ := okWide_slice Try.underlying22 (hval 0 22 v0 rfl rfl)
  obtain ⟨cs1, rfl⟩ := okWide_agg T.agg_25_4 (hval 1 25 v1 rfl rfl)
  refine (TreeHeaps_law w0 w1).mono fun e W' ⟨he, hb⟩ => ?_
  have bel := hb.below
  subst he
  exact ⟨_, rfl, _, _, _, [], _, [], hW', trodAll_mk1 (shut_bool Try.underlying4 _), (trodAll_cons_mk (Below.trod T.laidOut (by kernel_rfl) (of_decide_eq_true (by kernel_rfl)) h0 bel lt0) (trodAll_cons_mk (Below.trod T.laidOut (by kernel_rfl) (of_decide_eq_true (by kernel_rfl)) h1 bel lt1) trodAll_mk0)), rfl, bel.frame _, fun h => by cases h⟩
theorem TreeHeaps_holds : Rows.TreeHeapsSaid :=
  OpenClaim.holds_of_wide 3 Try.f3 rfl rfl rfl rfl rfl rfl rfl ⟨rfl, rfl, rfl, rfl, rfl⟩ rfl rfl rfl rfl rfl (by kernel_rfl) Try.func3 (by kernel_rfl)
    (of_decide_eq_true (by kernel_rfl)) (by unfold Func.isWrapper; rw [if_neg (of_decide_eq_false (by kernel_rfl))]; exact ⟨rfl, rfl⟩)
    (fun os started H enc _ => TreeHeaps_lifted os started H enc)
#print axioms TreeHeaps_holds
end Go.Proofs.Ytmbngahboaljpaa
