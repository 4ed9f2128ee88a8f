/-
  The search tree over any pages: Move.
-/
import Derived.Test.YtmbngahboaljpaaC07j
namespace Go.Proofs.Ytmbngahboaljpaa
set_option maxRecDepth 8000
set_option linter.unusedSimpArgs false
set_option linter.unusedVariables false
open Go Xe
theorem index_calls {E : Env} {w : World} {L : List As} {g : Hp} {a : Option Addr} {n c : Nat} {l : List Int} (v : Int) (hl : (rdSl 8 1 (rdInt .i64)) g [.slice a n c] l) (hw : Sat E w (RO g :: L)) :
    Calls Try.prog 88 #[.slice a n c, .int .i64 v] w fun e w' => ∃ i : Int, e = .returned (.int .i64 i) ∧ (v ∈ l ↔ 0 ≤ i) ∧ Sat E w' (RO g :: L) := by
  obtain ⟨rfl, hb1, hc1, hm1, g1⟩ := rdSl_get hl
  simp only [reachBytes] at hb1
  refine calls_of_g (n := 19) Try.func88 rfl rfl rfl ?_
  change G _ _ _ _ _ [(0, _), (1, _)] _
  refine g_seq ?_
  refine g_region ?_
  refine xV rfl rfl rfl (v_assign rfl) ?_
  refine rl_nil (g_le (xK (Fr.le_refl _)) ?_)
  refine g_seq (g_seq ?_)
  refine g_region ?_
  refine xV rfl rfl rfl (v_move rfl) ?_
  refine xV rfl rfl rfl (v_lenSlice T.sl_44_3_1 rfl) ?_
  refine xV rfl rfl rfl (v_move rfl) ?_
  refine rl_nil (g_le (xK (xK (xS rfl (Fr.le_refl _)))) ?_)
  refine g_block ?_
  refine g_loopC (σ := Int) (fun C x => (8, .int .i64 x) :: C) [(0, _), (1, _), (4, _), (7, _)] (by repeat (first | exact Fr.le_nil _ | refine Fr.le_cons rfl ?_)) (fun z w => 0 ≤ z ∧ z ≤ l.length ∧ v ∉ l.take z.toNat ∧ Sat E w (RO g :: L)) (fun z => (l.length - z).toNat) ?_ 0 (by repeat (first | exact Fr.le_nil _ | refine Fr.le_cons rfl ?_)) ⟨by omega, by omega, by simp, hw⟩
  rintro i w ⟨hi0, hi1, hno, hw⟩ ih
  refine g_seq ?_
  refine g_region ?_
  refine xV rfl rfl rfl (v_lss rfl rfl) ?_
  refine rl_nil (g_le (xK (Fr.le_refl _)) ?_)
  refine g_seq ?_
  refine g_cond rfl (fun h1 => ?_) (fun h1 => ?_)
  · try with_reducible exact ft_elim h1
    all_goals
      try replace h1 := of_decide_eq_true h1
      refine g_skip (g_seq (g_block (g_seq ?_)))
      refine g_region ?_
      refine xV rfl rfl rfl (v_move rfl) ?_
      refine xV rfl rfl rfl (v_assign rfl) ?_
      refine rl_nil (g_le (xK (xK (Fr.le_refl _))) ?_)
      refine g_seq ?_
      have hz := hw
      clear hw
      obtain ⟨b4, o1, x, ecs, rfl, hx, hat1, hl1, rfl, hxw⟩ := g1 i hi0 (by omega)
      have hw := hz
      have htk : l.take (i + 1).toNat = l.take i.toNat ++ [x] := by rw [show (i + 1).toNat = i.toNat + 1 by omega, List.take_add_one, hx]; rfl
      refine g_region ?_
      refine xV rfl rfl rfl (v_move rfl) ?_
      refine xV rfl rfl rfl (v_move rfl) ?_
      refine xV rfl rfl rfl (v_move rfl) ?_
      refine xV rfl rfl rfl (v_indexAddr T.sl_44_3_1 rfl rfl (by omega) (by omega)) ?_
      refine rl_v rfl rfl rfl (by exact ro_at0 hw (by (repeat first | with_reducible exact xH | apply xT); first | done | fail) (by assumption) rfl) (v_load T.scal_3 rfl) ?_
      refine xV rfl rfl rfl (v_eql rfl rfl) ?_
      refine rl_nil (g_le (xK (xK (xK (xK (xK (xK (Fr.le_refl _))))))) ?_)
      refine g_cond rfl (fun h2 => ?_) (fun h2 => ?_)
      · try with_reducible exact ft_elim h2
        all_goals
          try replace h2 := of_decide_eq_true h2
          refine g_seq ?_
          refine g_region ?_
          refine xV rfl rfl rfl (v_move rfl) ?_
          refine xV rfl rfl rfl (v_assign rfl) ?_
          refine rl_nil (g_le (xK (xK (Fr.le_refl _))) ?_)
          refine g_ret1 Try.func88 rfl rfl ?_
          exact ⟨i, rfl, ⟨fun _ => hi0, fun _ => h2 ▸ List.mem_of_getElem? hx⟩, hw⟩
      · try with_reducible exact tf_elim h2
        all_goals
          try replace h2 := of_decide_eq_false h2
          refine g_skip (g_inBlock ?_)
          refine g_region ?_
          refine xV rfl rfl rfl (v_add rfl rfl (by omega)) ?_
          refine xV rfl rfl rfl (v_move rfl) ?_
          refine rl_nil (g_le (xK (xK (Fr.le_refl _))) ?_)
          exact g_le (by repeat (first | exact Fr.le_nil _ | refine Fr.le_cons rfl ?_)) (ih (i + 1) w ⟨by omega, by omega, by rw [htk, List.mem_append]; rintro (h | h); exact hno h; exact h2 (List.mem_singleton.1 h), hw⟩ (by omega))
  · try with_reducible exact tf_elim h1
    all_goals
      try replace h1 := of_decide_eq_false h1
      refine g_exit rfl (g_seq ?_)
      refine g_region ?_
      refine xV rfl rfl rfl (v_assign rfl) ?_
      refine rl_nil (g_le (xK (Fr.le_refl _)) ?_)
      refine g_ret1 Try.func88 rfl rfl ?_
      rw [List.take_of_length_le (by omega)] at hno
      exact ⟨-1, rfl, ⟨fun h => absurd h hno, fun h => by omega⟩, hw⟩
theorem contains_calls {E : Env} {w : World} {L : List As} {g : Hp} {a : Option Addr} {n c : Nat} {l : List Int} (v : Int) (hl : (rdSl 8 1 (rdInt .i64)) g [.slice a n c] l) (hw : Sat E w (RO g :: L)) :
    Calls Try.prog 70 #[.slice a n c, .int .i64 v] w fun e w' => e = .returned (.bool (decide (v ∈ l))) ∧ Sat E w' (RO g :: L) := by
  refine calls_of_g (n := 9) Try.func70 rfl rfl rfl ?_
  change G _ _ _ _ _ [(0, _), (1, _)] _
  refine g_seq ?_
  refine g_region ?_
  refine xV rfl rfl rfl (v_assign rfl) ?_
  refine rl_nil (g_le (xK (Fr.le_refl _)) ?_)
  refine g_seq ?_
  refine g_region ?_
  refine xV rfl rfl rfl (v_move rfl) ?_
  refine xV rfl rfl rfl (v_move rfl) ?_
  refine rl_k rfl (k_callf Try.func88 rfl rfl rfl rfl ?_)
  refine Calls.mono (index_calls v hl hw) ?_
  rintro _ w ⟨i, rfl, hiff, hw⟩
  refine ⟨_, rfl, ?_⟩
  refine xV rfl rfl rfl (v_geq rfl rfl) ?_
  refine xV rfl rfl rfl (v_assign rfl) ?_
  refine rl_nil (g_le (xK (xS rfl (xS rfl (xS rfl (xS rfl (Fr.le_refl _)))))) ?_)
  refine g_ret1 Try.func70 rfl rfl ?_
  exact ⟨by rw [decide_eq_decide.2 hiff], hw⟩
section
variable {τ : Type} (P : PgOps τ)
theorem moveO_bad {segs : List Int} {k : Nat} {s s1 : τ} {r : Rf} {x : Nd} {bad : Int} (h : atO P k s r = (x, bad, s1)) (hb : bad ≠ 0) : moveO P segs k s r = (rf0, 0, bad, s1) := by
  cases k with
  | zero => simp only [atO, Prod.mk.injEq] at h; obtain ⟨_, rfl, rfl⟩ := h; rfl
  | succ k => simp only [atO] at h; simp only [moveO, h]; exact if_pos hb
theorem moveO_ok {segs : List Int} {k : Nat} {s s1 : τ} {r : Rf} {x : Nd} (h : at1 P s r = (x, 0, s1)) {ks : List Kd} {n bad : Int} {s2 : τ} (hm : movesO (moveO P segs k) x.kids 0 s1 = (ks, n, bad, s2)) :
    moveO P segs (k + 1) s r = if bad ≠ 0 then (rf0, 0, bad, s2) else if n = 0 ∧ r.seg ∉ segs then (r, 0, 0, s2) else if (P.wr s2 ⟨x.leaf, x.entries, ks⟩).2.1 ≠ 0 then (rf0, 0, (P.wr s2 ⟨x.leaf, x.entries, ks⟩).2.1, (P.wr s2 ⟨x.leaf, x.entries, ks⟩).2.2) else ((P.wr s2 ⟨x.leaf, x.entries, ks⟩).1, n + 1, 0, (P.wr s2 ⟨x.leaf, x.entries, ks⟩).2.2) := by
  simp only [moveO, h]; rw [if_neg (by simp)]; simp only [hm]
theorem movesO_cons {f : τ → Rf → Rf × Int × Int × τ} {k : Kd} {ks : List Kd} {n : Int} {s : τ} : movesO f (k :: ks) n s = if (f s k.ref).2.2.1 ≠ 0 then ([], 0, (f s k.ref).2.2.1, (f s k.ref).2.2.2) else
    (⟨k.low, (f s k.ref).1⟩ :: (movesO f ks (n + (f s k.ref).2.1) (f s k.ref).2.2.2).1, (movesO f ks (n + (f s k.ref).2.1) (f s k.ref).2.2.2).2.1, (movesO f ks (n + (f s k.ref).2.1) (f s k.ref).2.2.2).2.2.1, (movesO f ks (n + (f s k.ref).2.1) (f s k.ref).2.2.2).2.2.2) := rfl
end
def mvB : Nat → Int
  | 0 => 0
  | k + 1 => 4 * mvB k + 1
theorem mvB_pos : ∀ k, 0 ≤ mvB k
  | 0 => by simp [mvB]
  | k + 1 => by have := mvB_pos k; simp only [mvB]; omega
theorem mvB_mono : ∀ {k m : Nat}, k ≤ m → mvB k ≤ mvB m
  | _, 0, h => by rw [Nat.le_zero.1 h]; exact Int.le_refl _
  | k, m + 1, h => by
    rcases Nat.lt_or_ge m k with h1 | h1
    · rw [show k = m + 1 by omega]; exact Int.le_refl _
    · have h2 := mvB_mono h1
      have h3 := mvB_pos m
      simp only [mvB]; omega
theorem mvB_le {k : Nat} (h : k ≤ 9) : mvB k ≤ 100000 := Int.le_trans (mvB_mono h) (by decide)
/-- The cells of a row of kids of which one leads elsewhere. -/
theorem kid_set {done rest : List Kd} {y : Kd} {r : Rf} {o : Nat} (ho : o = done.length * 5 + 1) :
    ((done ++ y :: rest).flatMap Kd.cells).take o ++ r.cells ++ ((done ++ y :: rest).flatMap Kd.cells).drop (o + 4) = (done ++ ⟨y.low, r⟩ :: rest).flatMap Kd.cells := by
  subst ho
  have hl := kids_len done
  rw [List.flatMap_append, List.flatMap_append, List.flatMap_cons, List.flatMap_cons, ← hl, List.take_length_add_append, show (done.flatMap Kd.cells).length + 1 + 4 = (done.flatMap Kd.cells).length + 5 by omega, List.drop_length_add_append]
  simp
set_option maxHeartbeats 4000000 in
theorem move_calls {τ : Type} (D : Pg τ) {segs : List Int} (k : Nat) : ∀ {E : Env} {w : World} {L : List As} {g : Hp} {s : τ} {A : As} (r : Rf) (_ : r.ok) {sa : Option Addr} {sn sc : Nat} (_ : (rdSl 8 1 (rdInt .i64)) g [.slice sa sn sc] segs) (deep : Int) (_ : 0 ≤ deep) (_ : deep + k = 9) (_ : D.I g s A) (_ : Sat E w (A :: RO g :: L)),
    Calls Try.prog 50 #[.agg #[.iface D.t D.u], .agg r.cells.toArray, .slice sa sn sc, .int .i64 deep] w fun v w' =>
    ∃ g' A', g.le g' ∧ D.I g' (moveO D.ops segs k s r).2.2.2 A' ∧ v = .returned (.tuple #[.agg (moveO D.ops segs k s r).1.cells.toArray, .int .i64 (moveO D.ops segs k s r).2.1, .int .i64 (moveO D.ops segs k s r).2.2.1]) ∧ (moveO D.ops segs k s r).1.ok ∧ 0 ≤ (moveO D.ops segs k s r).2.1 ∧ (moveO D.ops segs k s r).2.1 ≤ mvB k ∧ Sat E w' (A' :: RO g' :: L) := by
  induction k using Nat.strongRecOn with
  | ind k ih =>
  intro E w L g s A r hr sa sn sc hsegs deep hd0 hk hI hw
  have hmk := mvB_pos k
  refine calls_of_g (n := 91) Try.func50 rfl rfl rfl ?_
  change G _ _ _ _ _ [(0, _), (1, _), (2, _), (3, _)] _
  refine g_seq ?_
  refine g_region ?_
  refine rl_k rfl (k_box hw rfl rfl rfl (fun bk0_0 w hw => ?_))
  refine rl_k rfl (k_box hw rfl rfl rfl (fun bk0_1 w hw => ?_))
  refine rl_k rfl (k_alloc hw T.zero_25 rfl rfl (fun bk0_2 w hw => ?_))
  refine xV rfl rfl rfl (v_assign rfl) ?_
  refine xV rfl rfl rfl (v_assign rfl) ?_
  refine rl_nil (g_le (xK (xK (xK (xK (xK (Fr.le_refl _)))))) ?_)
  refine g_seq ?_
  refine g_region ?_
  refine rl_v rfl rfl rfl (by exact sat_cells hw (by (repeat first | with_reducible exact xH | apply xT); first | done | fail) ⟨rfl, trivial⟩) (v_loadAgg (vs := [_]) T.agg_102_1 rfl rfl) ?_
  refine rl_v rfl rfl rfl (by exact sat_cells hw (by (repeat first | with_reducible exact xH | apply xT); first | done | fail) ⟨rfl, rfl, rfl, rfl, trivial⟩) (v_loadAgg (vs := [_, _, _, _]) T.agg_25_4 rfl rfl) ?_
  refine xV rfl rfl rfl (v_move rfl) ?_
  refine rl_k rfl (k_callf Try.func46 rfl rfl rfl rfl ?_)
  refine Calls.mono (at_calls D r hr k deep hk hI (hw.xQ)) ?_
  generalize hq : atO D.ops k s r = q
  obtain ⟨x, bad, s1⟩ := q
  dsimp only
  rintro _ w ⟨g1, A1, ea, ec, ka, kc, cells, hg1, hI1, rfl, hels, hfine, hsm, hw⟩
  refine ⟨_, rfl, ?_⟩
  refine xV rfl rfl rfl (v_move rfl) ?_
  refine xV rfl rfl rfl (v_extract rfl rfl) ?_
  refine xV rfl rfl rfl (v_extract rfl rfl) ?_
  refine rl_k rfl (k_alloc hw T.zero_110 rfl rfl (fun bk1_7 w hw => ?_))
  refine rl_k rfl (k_storeWhole hw T.agg_110_3 rfl rfl (by simp [Value.oneCell']) rfl (by (repeat first | with_reducible exact xH | apply xT); first | done | fail) rfl (fun w hw => ?_))
  refine xV rfl rfl rfl (v_assign rfl) ?_
  refine rl_nil (g_le (xK (xK (xS rfl (xS rfl (xS rfl (xS rfl (xS rfl (xS rfl (xS rfl (Fr.le_refl _)))))))))) ?_)
  refine g_seq (g_seq ?_)
  refine g_region ?_
  refine xV rfl rfl rfl (v_move rfl) ?_
  refine xV rfl rfl rfl (v_neq rfl rfl) ?_
  refine rl_nil (g_le (xK (xS rfl (Fr.le_refl _))) ?_)
  refine g_cond rfl (fun h1 => ?_) (fun h1 => ?_)
  · try with_reducible exact ft_elim h1
    all_goals
      try replace h1 := of_decide_eq_true h1
      refine g_seq ?_
      refine g_region ?_
      refine xV rfl rfl rfl (v_build rfl (T.build_25 ..)) ?_
      refine xV rfl rfl rfl (v_move rfl) ?_
      refine rl_k rfl (k_storeWhole hw T.agg_25_4 rfl rfl (by simp [Value.oneCell']) rfl (by (repeat first | with_reducible exact xH | apply xT); first | done | fail) rfl (fun w hw => ?_))
      refine xV rfl rfl rfl (v_assign rfl) ?_
      refine xV rfl rfl rfl (v_assign rfl) ?_
      refine rl_nil (g_le (xK (xK (xS rfl (xS rfl (Fr.le_refl _))))) ?_)
      refine g_res3 Try.func50 rfl ⟨_, rfl, holds_agg (vs := [_, _, _, _]) T.agg_25_4 rfl (by exact sat_cells hw (by (repeat first | with_reducible exact xH | apply xT); first | done | fail) ⟨rfl, rfl, rfl, rfl, trivial⟩)⟩ rfl rfl ?_
      rw [moveO_bad D.ops hq h1]
      exact ⟨g1, A1, hg1, hI1, rfl, rf0_ok, by simp, hmk, hw.xQ⟩
  · try with_reducible exact tf_elim h1
    all_goals
      try replace h1 := of_decide_eq_false h1
      obtain rfl : bad = 0 := by omega
      obtain ⟨q, rfl, hat⟩ := atO_zero D.ops hq
      have hsm1 := hsm.1
      have hsm2 := hsm.2.1
      have hmq := mvB_pos q
      have hmq2 := mvB_le (k := q) (by omega)
      simp only [mvB] at hmk ⊢
      obtain ⟨B, hB⟩ : ∃ B, mvB q = B := ⟨_, rfl⟩
      rw [hB] at hmq hmq2 hmk ⊢
      obtain ⟨a9, c9, hv9, _, _, ha9⟩ := (hw.xP (A := OwnSl 70 5 (.slice ka x.kids.length kc) x.kids.length (x.kids.flatMap Kd.cells))).own_shape
      simp only [Value.slice.injEq] at hv9
      obtain ⟨rfl, _, rfl⟩ := hv9
      have hmv := moveO_ok D.ops (segs := segs) (k := q) hat (ks := (movesO (moveO D.ops segs q) x.kids 0 s1).1) (n := (movesO (moveO D.ops segs q) x.kids 0 s1).2.1) (bad := (movesO (moveO D.ops segs q) x.kids 0 s1).2.2.1) (s2 := (movesO (moveO D.ops segs q) x.kids 0 s1).2.2.2) rfl
      refine g_skip (g_seq ?_)
      refine g_region ?_
      refine xV rfl rfl rfl (v_assign rfl) ?_
      refine rl_nil (g_le (xK (Fr.le_refl _)) ?_)
      refine g_seq (g_seq ?_)
      refine g_region ?_
      refine xV rfl rfl rfl (v_fieldAddr0 T.fld_110_0_0 rfl) ?_
      refine xV rfl rfl rfl (v_fieldAddr0 T.fld_32_2_2 rfl) ?_
      refine rl_v rfl rfl rfl (by exact sat_cell hw (by (repeat first | with_reducible exact xH | apply xT); first | done | fail) rfl) (v_load T.scal_30 rfl) ?_
      refine xV rfl rfl rfl (v_lenSlice T.sl_30_70_5 rfl) ?_
      refine xV rfl rfl rfl (v_move rfl) ?_
      refine rl_nil (g_le (xK (xK (xK (xS rfl (xS rfl (Fr.le_refl _)))))) ?_)
      refine g_block ?_
      refine g_loopC (σ := Int × Int × Hp × τ × As × List Kd) (fun C x => (35, .int .i64 x.1) :: (13, .int .i64 x.2.1) :: C) [(2, _), (3, _), (4, _), (5, _), (8, _), (9, _), (10, _), (11, _), (12, _), (33, _), (34, _)] (by repeat (first | exact Fr.le_nil _ | refine Fr.le_cons rfl ?_)) (fun z w => 0 ≤ z.1 ∧ z.1 ≤ x.kids.length ∧ (z.2.2.2.2.2.length : Int) = z.1 ∧ (∀ k ∈ z.2.2.2.2.2, k.ok) ∧ g1.le z.2.2.1 ∧ D.I z.2.2.1 z.2.2.2.1 z.2.2.2.2.1 ∧ 0 ≤ z.2.1 ∧ z.2.1 ≤ z.1 * B ∧ (movesO (moveO D.ops segs q) x.kids 0 s1).2 = (movesO (moveO D.ops segs q) (x.kids.drop z.1.toNat) z.2.1 z.2.2.2.1).2 ∧ ((movesO (moveO D.ops segs q) (x.kids.drop z.1.toNat) z.2.1 z.2.2.2.1).2.2.1 = 0 → (movesO (moveO D.ops segs q) x.kids 0 s1).1 = z.2.2.2.2.2 ++ (movesO (moveO D.ops segs q) (x.kids.drop z.1.toNat) z.2.1 z.2.2.2.1).1) ∧
        Sat E w (z.2.2.2.2.1 :: pt bk1_7 (.cells [.bool x.leaf, .slice ea x.entries.length ec, .slice ka x.kids.length kc].toArray 110 (0, 0)) :: OwnSl 49 2 (.slice ea x.entries.length ec) x.entries.length cells :: OwnSl 70 5 (.slice ka x.kids.length kc) x.kids.length ((z.2.2.2.2.2 ++ x.kids.drop z.1.toNat).flatMap Kd.cells) :: pt bk0_0 (.cells [Value.iface D.t D.u].toArray 102 (0, 0)) :: pt bk0_1 (.cells r.cells.toArray 25 (0, 0)) :: pt bk0_2 (.cells [.int .u64 0, .int .i64 0, .int .i64 0, .int .i64 0].toArray 25 (0, 0)) :: RO z.2.2.1 :: L)) (fun z => (x.kids.length - z.1).toNat) ?_ (0, 0, g1, s1, A1, []) (by repeat (first | exact Fr.le_nil _ | refine Fr.le_cons rfl ?_)) ⟨by simp, by simp, by simp, by simp, Hp.le_refl _, hI1, by simp, by simp, by simp, fun _ => by simp, by simp only [Int.toNat_zero, List.drop_zero, List.nil_append]; exact hw.xQ⟩
      rintro ⟨i, n, g2, s2, A2, done⟩ w ⟨hi0, hi1, hdl, hdk, hg2, hI2, hn0, hnB, hm1, hm2, hw⟩ ih2
      dsimp only at hi0 hi1 hdl hdk hg2 hI2 hn0 hnB hm1 hm2 hw ⊢
      refine g_seq ?_
      refine g_region ?_
      refine xV rfl rfl rfl (v_lss rfl rfl) ?_
      refine rl_nil (g_le (xK (Fr.le_refl _)) ?_)
      refine g_seq ?_
      refine g_cond rfl (fun h2 => ?_) (fun h2 => ?_)
      · try with_reducible exact ft_elim h2
        all_goals
          try replace h2 := of_decide_eq_true h2
          refine g_skip (g_seq (g_block (g_seq ?_)))
          have hz := hw
          clear hw
          obtain ⟨gb, rfl⟩ := ha9 (by omega)
          obtain ⟨y, hy⟩ : ∃ y, x.kids[i.toNat]? = some y := ⟨_, List.getElem?_eq_getElem (by omega)⟩
          have hyok := hfine.2.2.1 y (List.mem_of_getElem? hy)
          have hdr : x.kids.drop i.toNat = y :: x.kids.drop (i.toNat + 1) := by obtain ⟨h9, h8⟩ := List.getElem?_eq_some_iff.1 hy; rw [List.drop_eq_getElem_cons h9, h8]
          rw [hdr] at hm1 hm2 hz
          have hget : (done ++ y :: x.kids.drop (i.toNat + 1))[i.toNat]? = some y := by rw [List.getElem?_append_right (by omega), show i.toNat - done.length = 0 by omega]; rfl
          have hsub := subAt_flat (f := Kd.cells) (sz := 5) (fun _ => rfl) hget
          have hst : 0 + i.toNat * 5 + 1 + 4 ≤ ((done ++ y :: x.kids.drop (i.toNat + 1)).flatMap Kd.cells).length := by rw [kids_len, List.length_append, List.length_cons, List.length_drop]; omega
          rw [movesO_cons] at hm1 hm2
          have hw := hz
          refine g_region ?_
          refine xV rfl rfl rfl (v_move rfl) ?_
          refine xV rfl rfl rfl (v_indexAddr T.sl_30_70_5 rfl rfl (by omega) (by omega)) ?_
          refine rl_v rfl rfl rfl (by exact own_cells hw (by (repeat first | with_reducible exact xH | apply xT); first | done | fail) (by assumption)) (v_loadAgg (vs := [_, _, _, _, _]) T.agg_70_5 rfl rfl) ?_
          refine rl_k rfl (k_alloc hw T.zero_70 rfl rfl (fun bk7_3 w hw => ?_))
          refine xV rfl rfl rfl (v_assign rfl) ?_
          refine rl_k rfl (k_storeWhole hw T.agg_70_5 rfl rfl (by simp [Value.oneCell']) rfl (by (repeat first | with_reducible exact xH | apply xT); first | done | fail) rfl (fun w hw => ?_))
          refine rl_nil (g_le (xK (xK (xK (xK (xK (Fr.le_refl _)))))) ?_)
          refine g_seq ?_
          refine g_region ?_
          refine rl_v rfl rfl rfl (by exact sat_cells hw (by (repeat first | with_reducible exact xH | apply xT); first | done | fail) ⟨rfl, trivial⟩) (v_loadAgg (vs := [_]) T.agg_102_1 rfl rfl) ?_
          refine xV rfl rfl rfl (v_fieldAddr0 T.fld_70_1_1 rfl) ?_
          refine rl_v rfl rfl rfl (by exact sat_cells hw (by (repeat first | with_reducible exact xH | apply xT); first | done | fail) ⟨rfl, rfl, rfl, rfl, trivial⟩) (v_loadAgg (vs := [_, _, _, _]) T.agg_25_4 rfl rfl) ?_
          refine xV rfl rfl rfl (v_move rfl) ?_
          refine xV rfl rfl rfl (v_move rfl) ?_
          refine xV rfl rfl rfl (v_add rfl rfl (by omega)) ?_
          refine rl_k rfl (k_callf Try.func50 rfl rfl rfl rfl ?_)
          refine Calls.mono (ih q (by omega) y.ref hyok.2 (mono_sl mono_int (hg1.trans hg2) hsegs) (deep + 1) (by omega) (by omega) hI2 (hw.xQ)) ?_
          rw [hB]
          generalize hp : moveO D.ops segs q s2 y.ref = pq at hm1 hm2 ⊢
          obtain ⟨to, more, b3, s3⟩ := pq
          dsimp only at hm1 hm2 ⊢
          rintro _ w ⟨g3, A3, hg3, hI3, rfl, htok, hmo0, hmoB, hw⟩
          refine ⟨_, rfl, ?_⟩
          refine xV rfl rfl rfl (v_move rfl) ?_
          refine xV rfl rfl rfl (v_extract rfl rfl) ?_
          refine xV rfl rfl rfl (v_extract rfl rfl) ?_
          refine xV rfl rfl rfl (v_extract rfl rfl) ?_
          refine rl_k rfl (k_alloc hw T.zero_25 rfl rfl (fun bk8_11 w hw => ?_))
          refine rl_k rfl (k_storeWhole hw T.agg_25_4 rfl rfl (by simp [Value.oneCell']) rfl (by (repeat first | with_reducible exact xH | apply xT); first | done | fail) rfl (fun w hw => ?_))
          refine xV rfl rfl rfl (v_assign rfl) ?_
          refine xV rfl rfl rfl (v_assign rfl) ?_
          refine rl_nil (g_le (xK (xK (xK (xK (xK (xK (xK (xK (xK (xK (xK (xK (xK (xK (Fr.le_refl _))))))))))))))) ?_)
          refine g_seq (g_seq ?_)
          refine g_region ?_
          refine xV rfl rfl rfl (v_move rfl) ?_
          refine xV rfl rfl rfl (v_neq rfl rfl) ?_
          refine rl_nil (g_le (xK (xK (Fr.le_refl _))) ?_)
          refine g_cond rfl (fun h3 => ?_) (fun h3 => ?_)
          · try with_reducible exact ft_elim h3
            all_goals
              try replace h3 := of_decide_eq_true h3
              refine g_seq ?_
              refine g_region ?_
              refine xV rfl rfl rfl (v_build rfl (T.build_25 ..)) ?_
              refine xV rfl rfl rfl (v_move rfl) ?_
              refine rl_k rfl (k_storeWhole hw T.agg_25_4 rfl rfl (by simp [Value.oneCell']) rfl (by (repeat first | with_reducible exact xH | apply xT); first | done | fail) rfl (fun w hw => ?_))
              refine xV rfl rfl rfl (v_assign rfl) ?_
              refine xV rfl rfl rfl (v_assign rfl) ?_
              refine rl_nil (g_le (xK (xK (xK (xK (Fr.le_refl _))))) ?_)
              refine g_res3 Try.func50 rfl ⟨_, rfl, holds_agg (vs := [_, _, _, _]) T.agg_25_4 rfl (by exact sat_cells hw (by (repeat first | with_reducible exact xH | apply xT); first | done | fail) ⟨rfl, rfl, rfl, rfl, trivial⟩)⟩ rfl rfl ?_
              rw [if_pos h3] at hm1
              rw [hm1] at hmv
              rw [if_pos h3] at hmv
              rw [hmv]
              exact ⟨g3, A3, (hg1.trans hg2).trans hg3, hI3, rfl, rf0_ok, by simp, hmk, hw.xQ⟩
          · try with_reducible exact tf_elim h3
            all_goals
              try replace h3 := of_decide_eq_false h3
              obtain rfl : b3 = 0 := by omega
              rw [if_neg h3] at hm1 hm2
              have hb9 : (i + 1) * B = i * B + B := by rw [Int.add_mul, Int.one_mul]
              have hb8 : i * B ≤ 4 * B := Int.mul_le_mul_of_nonneg_right (by omega) hmq
              refine g_skip (g_seq ?_)
              refine g_region ?_
              refine xV rfl rfl rfl (v_fieldAddr0 T.fld_110_0_0 rfl) ?_
              refine xV rfl rfl rfl (v_fieldAddr0 T.fld_32_2_2 rfl) ?_
              refine rl_v rfl rfl rfl (by exact sat_cell hw (by (repeat first | with_reducible exact xH | apply xT); first | done | fail) rfl) (v_load T.scal_30 rfl) ?_
              refine xV rfl rfl rfl (v_move rfl) ?_
              refine rl_v rfl rfl rfl (by exact sat_cells hw (by (repeat first | with_reducible exact xH | apply xT); first | done | fail) ⟨rfl, rfl, rfl, rfl, trivial⟩) (v_loadAgg (vs := [_, _, _, _]) T.agg_25_4 rfl rfl) ?_
              refine xV rfl rfl rfl (v_indexAddr T.sl_30_70_5 rfl rfl (by omega) (by omega)) ?_
              refine xV rfl rfl rfl (v_fieldAddr T.fld_70_1_1 rfl) ?_
              refine rl_k rfl (k_storeOwnAgg hw T.agg_25_4 rfl rfl (by simp [Value.oneCell']) rfl (by (repeat first | with_reducible exact xH | apply xT); first | done | fail) (by assumption) (by omega) (fun w hw => ?_))
              refine rl_nil (g_le (xK (xK (xK (xK (xK (xK (xK (Fr.le_refl _)))))))) ?_)
              refine g_region ?_
              refine xV rfl rfl rfl (v_move rfl) ?_
              refine xV rfl rfl rfl (v_move rfl) ?_
              refine xV rfl rfl rfl (v_add rfl rfl (by omega)) ?_
              refine xV rfl rfl rfl (v_assign rfl) ?_
              refine rl_nil (g_le (xK (xK (xK (xK (Fr.le_refl _))))) ?_)
              refine g_inBlock ?_
              refine g_region ?_
              refine xV rfl rfl rfl (v_add rfl rfl (by omega)) ?_
              refine xV rfl rfl rfl (v_move rfl) ?_
              refine rl_nil (g_le (xK (xK (Fr.le_refl _))) ?_)
              exact g_le (by repeat (first | exact Fr.le_nil _ | refine Fr.le_cons rfl ?_)) (ih2 (i + 1, n + more, g3, s3, A3, done ++ [⟨y.low, to⟩]) w ⟨by simp only; omega, by simp only; omega, by simp; omega, fun k hk => (List.mem_append.1 hk).elim (hdk k) (fun h => by rw [List.mem_singleton.1 h]; exact ⟨hyok.1, htok⟩), hg2.trans hg3, hI3, by simp only; omega, by simp only; omega, by simp only; rw [show (i + 1).toNat = i.toNat + 1 by omega]; exact hm1, fun hh => by simp only at hh ⊢; rw [show (i + 1).toNat = i.toNat + 1 by omega] at hh ⊢; rw [hm2 hh, List.append_assoc]; rfl, by dsimp only; rw [show (i + 1).toNat = i.toNat + 1 by omega]; rw [kid_set (by omega)] at hw; rw [List.append_assoc, List.singleton_append]; exact hw.xQ⟩ (by simp only; omega))
      · try with_reducible exact tf_elim h2
        all_goals
          try replace h2 := of_decide_eq_false h2
          refine g_exit rfl (g_seq (g_seq ?_))
          rw [List.drop_eq_nil_of_le (by omega)] at hm1 hm2 hw
          have hm2 := hm2 rfl
          simp only [movesO, List.append_nil] at hm1 hm2 hw
          rw [hm1, hm2] at hmv
          rw [if_neg (by simp)] at hmv
          have hb8 : i * B ≤ 4 * B := Int.mul_le_mul_of_nonneg_right (by omega) hmq
          refine g_region ?_
          refine xV rfl rfl rfl (v_move rfl) ?_
          refine xV rfl rfl rfl (v_eql rfl rfl) ?_
          refine xV rfl rfl rfl (v_move rfl) ?_
          refine rl_split (s := 68) rfl (fun g14_2 => ?_) (fun g14_2 => ?_)
          · try with_reducible exact ft_elim g14_2
            all_goals
              try replace g14_2 := of_decide_eq_true g14_2
              refine rl_vg (met_on rfl rfl rfl rfl) rfl rfl (S := fun _ => True) trivial (v_move rfl) ?_
              refine rl_vg (met_on rfl rfl rfl rfl) rfl rfl (S := fun _ => True) trivial (v_fieldAddr0 T.fld_25_1_1 rfl) ?_
              refine rl_vg (met_on rfl rfl rfl rfl) rfl rfl (by exact sat_cell hw (by (repeat first | with_reducible exact xH | apply xT); first | done | fail) rfl) (v_load T.scal_3 rfl) ?_
              refine rl_kg (met_on rfl rfl rfl rfl) (k_callf Try.func70 rfl rfl rfl rfl ?_)
              refine Calls.mono (contains_calls r.seg (mono_sl mono_int (hg1.trans hg2) hsegs) (hw.xP)) ?_
              rintro _ w ⟨rfl, hw⟩
              refine ⟨_, rfl, ?_⟩
              refine rl_vg (met_on rfl rfl rfl rfl) rfl rfl (S := fun _ => True) trivial (v_not rfl) ?_
              refine xV rfl rfl rfl (v_pick_true rfl rfl) ?_
              refine rl_nil (g_le (xK (xS rfl (xS rfl (xS rfl (xS rfl (xS rfl (xS rfl (xS rfl (xS rfl (xS rfl (Fr.le_refl _))))))))))) ?_)
              refine g_cond rfl (fun h4 => ?_) (fun h4 => ?_)
              · try with_reducible exact ft_elim h4
                all_goals
                  try replace h4 := of_decide_eq_true h4
                  refine g_seq ?_
                  refine g_region ?_
                  refine rl_v rfl rfl rfl (by exact sat_cells hw (by (repeat first | with_reducible exact xH | apply xT); first | done | fail) ⟨rfl, rfl, rfl, rfl, trivial⟩) (v_loadAgg (vs := [_, _, _, _]) T.agg_25_4 rfl rfl) ?_
                  refine rl_k rfl (k_storeWhole hw T.agg_25_4 rfl rfl (by simp [Value.oneCell']) rfl (by (repeat first | with_reducible exact xH | apply xT); first | done | fail) rfl (fun w hw => ?_))
                  refine xV rfl rfl rfl (v_assign rfl) ?_
                  refine xV rfl rfl rfl (v_assign rfl) ?_
                  refine rl_nil (g_le (xK (xK (xS rfl (Fr.le_refl _)))) ?_)
                  refine g_res3 Try.func50 rfl ⟨_, rfl, holds_agg (vs := [_, _, _, _]) T.agg_25_4 rfl (by exact sat_cells hw (by (repeat first | with_reducible exact xH | apply xT); first | done | fail) ⟨rfl, rfl, rfl, rfl, trivial⟩)⟩ rfl rfl ?_
                  rw [if_pos ⟨by simpa using g14_2, by simpa using h4⟩] at hmv
                  rw [hmv]
                  exact ⟨g2, A2, hg1.trans hg2, hI2, rfl, hr, by simp, hmk, hw.xQ⟩
              · try with_reducible exact tf_elim h4
                all_goals
                  try replace h4 := of_decide_eq_false h4
                  refine g_skip (g_seq ?_)
                  refine g_region ?_
                  refine xV rfl rfl rfl (v_fieldAddr0 T.fld_102_0_0 rfl) ?_
                  refine rl_v rfl rfl rfl (by exact sat_cell hw (by (repeat first | with_reducible exact xH | apply xT); first | done | fail) rfl) (v_load T.scal_100 rfl) ?_
                  refine xV rfl rfl rfl (v_fieldAddr0 T.fld_110_0_0 rfl) ?_
                  refine rl_v rfl rfl rfl (by exact sat_cells hw (by (repeat first | with_reducible exact xH | apply xT); first | done | fail) ⟨rfl, rfl, rfl, trivial⟩) (v_loadAgg (vs := [_, _, _]) T.agg_32_3 rfl rfl) ?_
                  have hxk : done.length = x.kids.length := by omega
                  have hmv2 := hmv
                  rw [if_neg (fun hh => by simp_all; done)] at hmv2
                  rw [← hxk] at hw
                  obtain ⟨g3, hg3, hnd, hw⟩ := nd_stands (x := ⟨x.leaf, x.entries, done⟩) (hels.mono mono_En hg2) hdk ⟨by simp only; omega, by simp only; omega⟩ (hw.xQ : Sat E w (RO g2 :: OwnSl 49 2 (.slice ea x.entries.length ec) x.entries.length cells :: OwnSl 70 5 (.slice ka done.length kc) done.length (done.flatMap Kd.cells) :: A2 :: pt bk0_2 (.cells [.int .u64 0, .int .i64 0, .int .i64 0, .int .i64 0].toArray 25 (0, 0)) :: L))
                  have hsm9 : (⟨x.leaf, x.entries, done⟩ : Nd).small := ⟨hsm.1, by simp only; omega, fun h => List.eq_nil_of_length_eq_zero (by rw [hxk, hsm.2.2.1 h]; rfl), hsm.2.2.2⟩
                  rw [hxk] at hnd
                  refine rl_k rfl (k_callm rfl rfl rfl ?_)
                  refine CallsM.mono (D.write hnd hsm9 (D.mono hg3 hI2) (hw.xQ)) ?_
                  generalize hq5 : D.ops.wr s2 ⟨x.leaf, x.entries, done⟩ = q5 at hmv2 ⊢
                  obtain ⟨to, b4, s4⟩ := q5
                  dsimp only at hmv2 ⊢
                  rintro _ w ⟨g4, A4, hg4, hI4, rfl, htok, hw⟩
                  refine ⟨_, rfl, ?_⟩
                  refine xV rfl rfl rfl (v_move rfl) ?_
                  refine xV rfl rfl rfl (v_extract rfl rfl) ?_
                  refine xV rfl rfl rfl (v_extract rfl rfl) ?_
                  refine rl_k rfl (k_alloc hw T.zero_25 rfl rfl (fun bk16_8 w hw => ?_))
                  refine rl_k rfl (k_storeWhole hw T.agg_25_4 rfl rfl (by simp [Value.oneCell']) rfl (by (repeat first | with_reducible exact xH | apply xT); first | done | fail) rfl (fun w hw => ?_))
                  refine xV rfl rfl rfl (v_assign rfl) ?_
                  refine rl_nil (g_le (xK (xK (xS rfl (xS rfl (xS rfl (xS rfl (xS rfl (xS rfl (xS rfl (xS rfl (Fr.le_refl _))))))))))) ?_)
                  refine g_seq (g_seq ?_)
                  refine g_region ?_
                  refine xV rfl rfl rfl (v_move rfl) ?_
                  refine xV rfl rfl rfl (v_neq rfl rfl) ?_
                  refine rl_nil (g_le (xK (xS rfl (Fr.le_refl _))) ?_)
                  refine g_cond rfl (fun h5 => ?_) (fun h5 => ?_)
                  · try with_reducible exact ft_elim h5
                    all_goals
                      try replace h5 := of_decide_eq_true h5
                      refine g_seq ?_
                      refine g_region ?_
                      refine xV rfl rfl rfl (v_build rfl (T.build_25 ..)) ?_
                      refine xV rfl rfl rfl (v_move rfl) ?_
                      refine rl_k rfl (k_storeWhole hw T.agg_25_4 rfl rfl (by simp [Value.oneCell']) rfl (by (repeat first | with_reducible exact xH | apply xT); first | done | fail) rfl (fun w hw => ?_))
                      refine xV rfl rfl rfl (v_assign rfl) ?_
                      refine xV rfl rfl rfl (v_assign rfl) ?_
                      refine rl_nil (g_le (xK (xK (xS rfl (xS rfl (Fr.le_refl _))))) ?_)
                      refine g_res3 Try.func50 rfl ⟨_, rfl, holds_agg (vs := [_, _, _, _]) T.agg_25_4 rfl (by exact sat_cells hw (by (repeat first | with_reducible exact xH | apply xT); first | done | fail) ⟨rfl, rfl, rfl, rfl, trivial⟩)⟩ rfl rfl ?_
                      rw [if_pos h5] at hmv2
                      rw [hmv2]
                      exact ⟨g4, A4, ((hg1.trans hg2).trans hg3).trans hg4, hI4, rfl, rf0_ok, by simp, hmk, hw.xQ⟩
                  · try with_reducible exact tf_elim h5
                    all_goals
                      try replace h5 := of_decide_eq_false h5
                      obtain rfl : b4 = 0 := by omega
                      rw [if_neg h5] at hmv2
                      refine g_skip (g_seq ?_)
                      refine g_region ?_
                      refine rl_v rfl rfl rfl (by exact sat_cells hw (by (repeat first | with_reducible exact xH | apply xT); first | done | fail) ⟨rfl, rfl, rfl, rfl, trivial⟩) (v_loadAgg (vs := [_, _, _, _]) T.agg_25_4 rfl rfl) ?_
                      refine xV rfl rfl rfl (v_move rfl) ?_
                      refine xV rfl rfl rfl (v_add rfl rfl (by omega)) ?_
                      refine rl_k rfl (k_storeWhole hw T.agg_25_4 rfl rfl (by simp [Value.oneCell']) rfl (by (repeat first | with_reducible exact xH | apply xT); first | done | fail) rfl (fun w hw => ?_))
                      refine xV rfl rfl rfl (v_assign rfl) ?_
                      refine xV rfl rfl rfl (v_assign rfl) ?_
                      refine rl_nil (g_le (xK (xK (xS rfl (xS rfl (xS rfl (Fr.le_refl _)))))) ?_)
                      refine g_res3 Try.func50 rfl ⟨_, rfl, holds_agg (vs := [_, _, _, _]) T.agg_25_4 rfl (by exact sat_cells hw (by (repeat first | with_reducible exact xH | apply xT); first | done | fail) ⟨rfl, rfl, rfl, rfl, trivial⟩)⟩ rfl rfl ?_
                      rw [hmv2]
                      exact ⟨g4, A4, ((hg1.trans hg2).trans hg3).trans hg4, hI4, rfl, htok, by simp only; omega, by simp only; omega, hw.xQ⟩
          · try with_reducible exact tf_elim g14_2
            all_goals
              try replace g14_2 := of_decide_eq_false g14_2
              refine rl_off (met_off rfl rfl rfl rfl rfl) rfl rfl ?_
              refine rl_off (met_off rfl rfl rfl rfl rfl) rfl rfl ?_
              refine rl_off (met_off rfl rfl rfl rfl rfl) rfl rfl ?_
              refine rl_off (met_off rfl rfl rfl rfl rfl) rfl rfl ?_
              refine rl_off (met_off rfl rfl rfl rfl rfl) rfl rfl ?_
              refine xV rfl rfl rfl (v_pick_false rfl rfl) ?_
              refine rl_nil (g_le (xK (xS rfl (xS rfl (xS rfl (xS rfl (xS rfl (xS rfl (xS rfl (xS rfl (xS rfl (Fr.le_refl _))))))))))) ?_)
              refine g_cond_false rfl ?_
              refine g_skip (g_seq ?_)
              refine g_region ?_
              refine xV rfl rfl rfl (v_fieldAddr0 T.fld_102_0_0 rfl) ?_
              refine rl_v rfl rfl rfl (by exact sat_cell hw (by (repeat first | with_reducible exact xH | apply xT); first | done | fail) rfl) (v_load T.scal_100 rfl) ?_
              refine xV rfl rfl rfl (v_fieldAddr0 T.fld_110_0_0 rfl) ?_
              refine rl_v rfl rfl rfl (by exact sat_cells hw (by (repeat first | with_reducible exact xH | apply xT); first | done | fail) ⟨rfl, rfl, rfl, trivial⟩) (v_loadAgg (vs := [_, _, _]) T.agg_32_3 rfl rfl) ?_
              have hxk : done.length = x.kids.length := by omega
              have hmv2 := hmv
              rw [if_neg (fun hh => by omega)] at hmv2
              rw [← hxk] at hw
              obtain ⟨g3, hg3, hnd, hw⟩ := nd_stands (x := ⟨x.leaf, x.entries, done⟩) (hels.mono mono_En hg2) hdk ⟨by simp only; omega, by simp only; omega⟩ (hw.xQ : Sat E w (RO g2 :: OwnSl 49 2 (.slice ea x.entries.length ec) x.entries.length cells :: OwnSl 70 5 (.slice ka done.length kc) done.length (done.flatMap Kd.cells) :: A2 :: pt bk0_2 (.cells [.int .u64 0, .int .i64 0, .int .i64 0, .int .i64 0].toArray 25 (0, 0)) :: L))
              have hsm9 : (⟨x.leaf, x.entries, done⟩ : Nd).small := ⟨hsm.1, by simp only; omega, fun h => List.eq_nil_of_length_eq_zero (by rw [hxk, hsm.2.2.1 h]; rfl), hsm.2.2.2⟩
              rw [hxk] at hnd
              refine rl_k rfl (k_callm rfl rfl rfl ?_)
              refine CallsM.mono (D.write hnd hsm9 (D.mono hg3 hI2) (hw.xQ)) ?_
              generalize hq5 : D.ops.wr s2 ⟨x.leaf, x.entries, done⟩ = q5 at hmv2 ⊢
              obtain ⟨to, b4, s4⟩ := q5
              dsimp only at hmv2 ⊢
              rintro _ w ⟨g4, A4, hg4, hI4, rfl, htok, hw⟩
              refine ⟨_, rfl, ?_⟩
              refine xV rfl rfl rfl (v_move rfl) ?_
              refine xV rfl rfl rfl (v_extract rfl rfl) ?_
              refine xV rfl rfl rfl (v_extract rfl rfl) ?_
              refine rl_k rfl (k_alloc hw T.zero_25 rfl rfl (fun bk16_8 w hw => ?_))
              refine rl_k rfl (k_storeWhole hw T.agg_25_4 rfl rfl (by simp [Value.oneCell']) rfl (by (repeat first | with_reducible exact xH | apply xT); first | done | fail) rfl (fun w hw => ?_))
              refine xV rfl rfl rfl (v_assign rfl) ?_
              refine rl_nil (g_le (xK (xK (xS rfl (xS rfl (xS rfl (xS rfl (xS rfl (xS rfl (xS rfl (xS rfl (Fr.le_refl _))))))))))) ?_)
              refine g_seq (g_seq ?_)
              refine g_region ?_
              refine xV rfl rfl rfl (v_move rfl) ?_
              refine xV rfl rfl rfl (v_neq rfl rfl) ?_
              refine rl_nil (g_le (xK (xS rfl (Fr.le_refl _))) ?_)
              refine g_cond rfl (fun h5 => ?_) (fun h5 => ?_)
              · try with_reducible exact ft_elim h5
                all_goals
                  try replace h5 := of_decide_eq_true h5
                  refine g_seq ?_
                  refine g_region ?_
                  refine xV rfl rfl rfl (v_build rfl (T.build_25 ..)) ?_
                  refine xV rfl rfl rfl (v_move rfl) ?_
                  refine rl_k rfl (k_storeWhole hw T.agg_25_4 rfl rfl (by simp [Value.oneCell']) rfl (by (repeat first | with_reducible exact xH | apply xT); first | done | fail) rfl (fun w hw => ?_))
                  refine xV rfl rfl rfl (v_assign rfl) ?_
                  refine xV rfl rfl rfl (v_assign rfl) ?_
                  refine rl_nil (g_le (xK (xK (xS rfl (xS rfl (Fr.le_refl _))))) ?_)
                  refine g_res3 Try.func50 rfl ⟨_, rfl, holds_agg (vs := [_, _, _, _]) T.agg_25_4 rfl (by exact sat_cells hw (by (repeat first | with_reducible exact xH | apply xT); first | done | fail) ⟨rfl, rfl, rfl, rfl, trivial⟩)⟩ rfl rfl ?_
                  rw [if_pos h5] at hmv2
                  rw [hmv2]
                  exact ⟨g4, A4, ((hg1.trans hg2).trans hg3).trans hg4, hI4, rfl, rf0_ok, by simp, hmk, hw.xQ⟩
              · try with_reducible exact tf_elim h5
                all_goals
                  try replace h5 := of_decide_eq_false h5
                  obtain rfl : b4 = 0 := by omega
                  rw [if_neg h5] at hmv2
                  refine g_skip (g_seq ?_)
                  refine g_region ?_
                  refine rl_v rfl rfl rfl (by exact sat_cells hw (by (repeat first | with_reducible exact xH | apply xT); first | done | fail) ⟨rfl, rfl, rfl, rfl, trivial⟩) (v_loadAgg (vs := [_, _, _, _]) T.agg_25_4 rfl rfl) ?_
                  refine xV rfl rfl rfl (v_move rfl) ?_
                  refine xV rfl rfl rfl (v_add rfl rfl (by omega)) ?_
                  refine rl_k rfl (k_storeWhole hw T.agg_25_4 rfl rfl (by simp [Value.oneCell']) rfl (by (repeat first | with_reducible exact xH | apply xT); first | done | fail) rfl (fun w hw => ?_))
                  refine xV rfl rfl rfl (v_assign rfl) ?_
                  refine xV rfl rfl rfl (v_assign rfl) ?_
                  refine rl_nil (g_le (xK (xK (xS rfl (xS rfl (xS rfl (Fr.le_refl _)))))) ?_)
                  refine g_res3 Try.func50 rfl ⟨_, rfl, holds_agg (vs := [_, _, _, _]) T.agg_25_4 rfl (by exact sat_cells hw (by (repeat first | with_reducible exact xH | apply xT); first | done | fail) ⟨rfl, rfl, rfl, rfl, trivial⟩)⟩ rfl rfl ?_
                  rw [hmv2]
                  exact ⟨g4, A4, ((hg1.trans hg2).trans hg3).trans hg4, hI4, rfl, htok, by simp only; omega, by simp only; omega, hw.xQ⟩
theorem Move_calls {τ : Type} (D : Pg τ) {segs : List Int} {E : Env} {w : World} {L : List As} {g : Hp} {s : τ} {A : As} (r : Rf) (hr : r.ok) {sa : Option Addr} {sn sc : Nat} (hsegs : (rdSl 8 1 (rdInt .i64)) g [.slice sa sn sc] segs) (hI : D.I g s A) (hw : Sat E w (A :: RO g :: L)) :
    Calls Try.prog 26 #[.iface D.t D.u, .agg r.cells.toArray, .slice sa sn sc] w fun v w' =>
    ∃ g' A', g.le g' ∧ D.I g' (moveO D.ops segs 8 s r).2.2.2 A' ∧ v = .returned (.tuple #[.agg (moveO D.ops segs 8 s r).1.cells.toArray, .int .i64 (moveO D.ops segs 8 s r).2.1, .int .i64 (moveO D.ops segs 8 s r).2.2.1]) ∧ (moveO D.ops segs 8 s r).1.ok ∧ Sat E w' (A' :: RO g' :: L) := by
  refine calls_of_g (n := 17) Try.func26 rfl rfl rfl ?_
  change G _ _ _ _ _ [(0, _), (1, _), (2, _)] _
  refine g_seq ?_
  refine g_region ?_
  refine rl_k rfl (k_box hw rfl rfl rfl (fun bk0_0 w hw => ?_))
  refine rl_k rfl (k_alloc hw T.zero_25 rfl rfl (fun bk0_1 w hw => ?_))
  refine xV rfl rfl rfl (v_assign rfl) ?_
  refine xV rfl rfl rfl (v_assign rfl) ?_
  refine rl_nil (g_le (xK (xK (xK (xK (Fr.le_refl _))))) ?_)
  refine g_seq ?_
  refine g_region ?_
  refine xV rfl rfl rfl (v_move rfl) ?_
  refine xV rfl rfl rfl (v_build rfl (T.build_102_0 ..)) ?_
  refine rl_v rfl rfl rfl (by exact sat_cells hw (by (repeat first | with_reducible exact xH | apply xT); first | done | fail) ⟨rfl, rfl, rfl, rfl, trivial⟩) (v_loadAgg (vs := [_, _, _, _]) T.agg_25_4 rfl rfl) ?_
  refine xV rfl rfl rfl (v_move rfl) ?_
  refine rl_k rfl (k_callf Try.func50 rfl rfl rfl rfl ?_)
  refine Calls.mono (move_calls D 8 r hr hsegs 1 (by omega) (by omega) hI (hw.xQ)) ?_
  rintro _ w ⟨g1, A1, hg1, hI1, rfl, hok, _, _, hw⟩
  refine ⟨_, rfl, ?_⟩
  refine xV rfl rfl rfl (v_extract rfl rfl) ?_
  refine xV rfl rfl rfl (v_extract rfl rfl) ?_
  refine xV rfl rfl rfl (v_extract rfl rfl) ?_
  refine rl_k rfl (k_storeWhole hw T.agg_25_4 rfl rfl (by simp [Value.oneCell']) rfl (by (repeat first | with_reducible exact xH | apply xT); first | done | fail) rfl (fun w hw => ?_))
  refine xV rfl rfl rfl (v_assign rfl) ?_
  refine xV rfl rfl rfl (v_assign rfl) ?_
  refine rl_nil (g_le (xK (xK (xS rfl (xS rfl (xS rfl (xS rfl (xS rfl (xS rfl (xS rfl (xS rfl (Fr.le_refl _))))))))))) ?_)
  refine g_res3 Try.func26 rfl ⟨_, rfl, holds_agg (vs := [_, _, _, _]) T.agg_25_4 rfl (by exact sat_cells hw (by (repeat first | with_reducible exact xH | apply xT); first | done | fail) ⟨rfl, rfl, rfl, rfl, trivial⟩)⟩ rfl rfl ?_
  exact ⟨g1, A1, hg1, hI1, rfl, hok, hw.xQ⟩
end Go.Proofs.Ytmbngahboaljpaa
