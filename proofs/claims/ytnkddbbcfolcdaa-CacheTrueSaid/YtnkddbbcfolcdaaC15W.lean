/-
  CacheWiped: of what was dropped or wiped nothing is told any more, pinned or not.
-/
import Derived.Test.YtnkddbbcfolcdaaC15f
namespace Go.Proofs.Ytnkddbbcfolcdaa
set_option linter.unusedSimpArgs false
set_option linter.unusedVariables false
open Go Xe Go.Lib Go.RowKit Go.ChangeShapes Go.WideShapes Go.ChangeAt
theorem idx_none {α : Type} {p : α → Bool} : ∀ {l : List α} {i : Int}, 0 ≤ i → (idx p l i < 0 ↔ ∀ x ∈ l, p x = false)
  | [], i, h => by simp [idx]
  | x :: xs, i, h => by
    simp only [idx]
    split
    · rename_i hx
      constructor
      · intro h2; omega
      · intro h2; have := h2 x (by simp); rw [hx] at this; cases this
    · rename_i hx
      rw [idx_none (by omega)]
      simp only [List.mem_cons, forall_eq_or_imp]
      exact ⟨fun h2 => ⟨by simpa using hx, h2⟩, fun h2 => h2.2⟩
theorem idx_some {α : Type} {p : α → Bool} : ∀ {l : List α} {i : Int} {k : Nat}, 0 ≤ i → idx p l i = i + k → ∃ x, l[k]? = some x ∧ p x = true
  | [], i, k, h, h2 => by simp [idx] at h2; omega
  | x :: xs, i, k, h, h2 => by
    simp only [idx] at h2
    split at h2
    · rename_i hx
      have : k = 0 := by omega
      subst this
      exact ⟨x, rfl, hx⟩
    · have hb := idx_bound (p := p) (l := xs) (i := i + 1) (by omega)
      obtain ⟨q, rfl⟩ : ∃ q, k = q + 1 := ⟨k - 1, by omega⟩
      obtain ⟨y, hy, hp⟩ := idx_some (p := p) (l := xs) (i := i + 1) (k := q) (by omega) (by omega)
      exact ⟨y, by simpa using hy, hp⟩
theorem Ch.pl_none {s : Ch} {r : Rf} : s.pl r = -1 ↔ ∀ x ∈ s.l, x.ref ≠ r := by
  have hb := s.pl_bound r
  have := idx_none (p := fun h : Hd => decide (h.ref = r)) (l := s.l) (i := 0) (by omega)
  simp only [decide_eq_false_iff_not] at this
  rw [← this]
  unfold Ch.pl at *; omega
def Ch.uniq (s : Ch) : Prop := (s.l.map Hd.ref).Nodup
theorem map_eraseIdx {α β : Type} (f : α → β) : ∀ (l : List α) (i : Nat), (l.eraseIdx i).map f = (l.map f).eraseIdx i
  | [], _ => rfl
  | _ :: _, 0 => rfl
  | x :: xs, i + 1 => by simp [map_eraseIdx f xs i]
theorem uniq_erase {s : Ch} (h : s.uniq) (i : Nat) : ((s.l.eraseIdx i).map Hd.ref).Nodup := by
  rw [map_eraseIdx]; exact h.sublist (List.eraseIdx_sublist ..)
theorem erase_gone : ∀ {l : List Hd} {i : Nat} {x : Hd}, (l.map Hd.ref).Nodup → l[i]? = some x → ∀ y ∈ l.eraseIdx i, y.ref ≠ x.ref
  | [], i, x, _, hx => by simp at hx
  | z :: zs, 0, x, h, hx => by
    simp only [List.getElem?_cons_zero, Option.some.injEq] at hx
    subst hx
    rw [List.map_cons, List.nodup_cons] at h
    intro y hy he
    simp only [List.eraseIdx_cons_zero] at hy
    exact h.1 (he ▸ List.mem_map_of_mem hy)
  | z :: zs, i + 1, x, h, hx => by
    simp only [List.getElem?_cons_succ] at hx
    rw [List.map_cons, List.nodup_cons] at h
    intro y hy
    simp only [List.eraseIdx_cons_succ, List.mem_cons] at hy
    rcases hy with rfl | hy
    · intro he
      exact h.1 (he ▸ List.mem_map_of_mem (List.mem_of_getElem? hx))
    · exact erase_gone h.2 hx y hy
theorem drop1_facts {s : Ch} {n : Int} (r : Rf) (h : s.uniq) : (Ch.drop1 (s, n) r).1.uniq ∧ (∀ x ∈ (Ch.drop1 (s, n) r).1.l, x ∈ s.l) ∧ (∀ x ∈ (Ch.drop1 (s, n) r).1.l, x.ref ≠ r) ∧
    ((Ch.drop1 (s, n) r).1.l.length : Int) + (Ch.drop1 (s, n) r).2 = s.l.length + n ∧ n ≤ (Ch.drop1 (s, n) r).2 := by
  have hb := s.pl_bound r
  by_cases h0 : s.pl r < 0
  · rw [drop1_no h0]
    exact ⟨h, fun x hx => hx, (Ch.pl_none (s := s) (r := r)).1 (by omega), rfl, Int.le_refl _⟩
  · obtain ⟨i, hi⟩ : ∃ i : Nat, s.pl r = i := ⟨(s.pl r).toNat, by omega⟩
    rw [drop1_yes hi]
    obtain ⟨x, hx, hp⟩ := idx_some (p := fun h : Hd => decide (h.ref = r)) (l := s.l) (i := 0) (k := i) (by omega) (by unfold Ch.pl at hi; omega)
    have hp : x.ref = r := by simpa using hp
    refine ⟨uniq_erase h i, fun y hy => (List.eraseIdx_sublist ..).subset hy, fun y hy => hp ▸ erase_gone h hx y hy, ?_, by simp only; omega⟩
    have : i < s.l.length := by omega
    simp only [List.length_eraseIdx_of_lt this]; omega
theorem drops_facts : ∀ (rs : List Rf) (p : Ch × Int), p.1.uniq → (rs.foldl Ch.drop1 p).1.uniq ∧ (∀ x ∈ (rs.foldl Ch.drop1 p).1.l, x ∈ p.1.l) ∧ (∀ r ∈ rs, ∀ x ∈ (rs.foldl Ch.drop1 p).1.l, x.ref ≠ r) ∧
    ((rs.foldl Ch.drop1 p).1.l.length : Int) + (rs.foldl Ch.drop1 p).2 = p.1.l.length + p.2 ∧ p.2 ≤ (rs.foldl Ch.drop1 p).2
  | [], p, h => by simp [h]
  | r :: rs, (s, n), h => by
    obtain ⟨a1, a2, a3, a4, a5⟩ := drop1_facts (n := n) r h
    obtain ⟨b1, b2, b3, b4, b5⟩ := drops_facts rs (Ch.drop1 (s, n) r) a1
    rw [List.foldl_cons]
    refine ⟨b1, fun x hx => a2 x (b2 x hx), fun q hq x hx => ?_, by simp only at *; omega, by simp only at *; omega⟩
    rcases List.mem_cons.1 hq with rfl | hq
    · exact a3 x (b2 x hx)
    · exact b3 q hq x hx
theorem pin_uniq {s : Ch} (h : s.uniq) (r : Rf) : (s.pin r).2.uniq := by
  unfold Ch.pin Ch.repin; split
  · exact h
  · split
    · rename_i x hx
      have : ((s.l.set (s.pl r).toNat (x.pin 1)).map Hd.ref) = s.l.map Hd.ref := by
        apply List.ext_getElem?
        intro j
        simp only [List.getElem?_map, List.getElem?_set]
        split
        · rename_i hj; subst hj
          split
          · rw [hx]; rfl
          · rename_i h2; rw [List.getElem?_eq_none (by omega)]; 
        · rfl
      unfold Ch.uniq; simp only; rw [this]; exact h
    · exact h
theorem put_uniq {s : Ch} (h : s.uniq) (r : Rf) (n : Nd) : (s.put r n).2.uniq := by
  have app {l : List Hd} {x : Hd} (h : (l.map Hd.ref).Nodup) (hn : ∀ y ∈ l, y.ref ≠ x.ref) : ((l ++ [x]).map Hd.ref).Nodup := by
    rw [List.map_append, List.nodup_append]
    refine ⟨h, by simp, ?_⟩
    intro a ha b hb
    obtain ⟨y, hy, rfl⟩ := List.mem_map.1 ha
    simp at hb
    rw [hb]; exact hn y hy
  have hb := s.pl_bound r
  by_cases h0 : s.pl r < 0
  · have hne := Ch.pl_none.1 (show s.pl r = -1 by omega)
    by_cases h1 : s.room ≤ s.l.length
    · by_cases h2 : idx (fun h : Hd => decide (h.pins = 0)) s.l 0 < 0
      · rw [put_full h0 h1 h2]; exact h
      · have hib := idx_bound (p := fun h : Hd => decide (h.pins = 0)) (l := s.l) (i := 0) (by omega)
        rw [put_free (i := (idx (fun h : Hd => decide (h.pins = 0)) s.l 0).toNat) h0 h1 (by omega) (by omega)]
        exact app (uniq_erase h _) (fun y hy => hne y ((List.eraseIdx_sublist ..).subset hy))
    · rw [put_room h0 h1]
      exact app h hne
  · obtain ⟨i, hi⟩ : ∃ i : Nat, s.pl r = i := ⟨(s.pl r).toNat, by omega⟩
    obtain ⟨x, hx, hp⟩ := idx_some (p := fun h : Hd => decide (h.ref = r)) (l := s.l) (i := 0) (k := i) (by omega) (by unfold Ch.pl at hi; omega)
    have hp : x.ref = r := by simpa using hp
    have e : s.put r n = (0, ⟨s.room, s.l.eraseIdx i ++ [⟨r, n, x.pins⟩], s.hits, s.misses⟩) := by
      unfold Ch.put; rw [hi, Int.toNat_natCast, hx]; exact if_pos (by omega)
    rw [e]
    exact app (uniq_erase h _) (fun y hy => hp ▸ erase_gone h hx y hy)
theorem cpinNo_calls {E : Env} {w : World} {L : List As} {g : Hp} {c : Nat} {s : Ch} {lv : Value} {cells : List Value} (r : Rf) (hno : s.pl r = -1) (hels : Els rdHd 8 g cells s.l) (hb : s.l.length ≤ 100000) (hw : Sat E w (pt c (.cells [Value.int .i64 (s : Ch).room, lv, .int .i64 (s : Ch).hits, .int .i64 (s : Ch).misses].toArray 70 (0, 0)) :: OwnSl 42 8 lv (s : Ch).l.length cells :: RO g :: L)) :
    Calls Try.prog 17 #[.pointer (some ⟨c, 0, none⟩), .agg r.cells.toArray] w fun e w' => e = .returned (.int .i64 3) ∧ Sat E w' (pt c (.cells [Value.int .i64 (s : Ch).room, lv, .int .i64 (s : Ch).hits, .int .i64 (s : Ch).misses].toArray 70 (0, 0)) :: OwnSl 42 8 lv (s : Ch).l.length cells :: RO g :: L) := by
  refine calls_of_g (n := 22) Try.func17 rfl rfl rfl ?_
  change G _ _ _ _ _ [(0, _), (1, _)] _
  refine g_seq ?_
  refine g_region ?_
  refine rl_k rfl (k_box hw rfl rfl rfl (fun bk0_0 w hw => ?_))
  refine rl_v rfl rfl rfl (S := fun _ => True) trivial (v_assign rfl) ?_
  refine rl_nil (g_le (Fr.le_keep (Fr.le_keep (Fr.le_refl _))) ?_)
  refine g_seq ?_
  refine g_region ?_
  refine rl_v rfl rfl rfl (S := fun _ => True) trivial (v_move rfl) ?_
  refine rl_v rfl rfl rfl (by first | exact sat_cells hw (by (repeat (first | with_reducible exact Pick.here _ | apply Pick.there)); first | done | fail) ⟨rfl, rfl, rfl, rfl, trivial⟩ | exact ro_ats hw (by (repeat (first | with_reducible exact Pick.here _ | apply Pick.there)); first | done | fail) (by assumption) | exact own_cells hw (by (repeat (first | with_reducible exact Pick.here _ | apply Pick.there)); first | done | fail) (by assumption) | exact old_cells hw (by (repeat (first | with_reducible exact Pick.here _ | apply Pick.there)); first | done | fail) (by assumption)) (v_loadAgg (vs := [_, _, _, _]) T.agg_34_4 rfl rfl) ?_
  refine rl_k rfl (k_callf Try.func35 rfl rfl rfl rfl ?_)
  refine Calls.mono (catm_calls r (-1) hno hels hb (hw.sub (by (repeat (first | with_reducible exact Sub.refl _ | exact Sub.nil _ | (apply Sub.cons; focus ((repeat (first | with_reducible exact Pick.here _ | apply Pick.there)); (first | done | fail))) | with_reducible apply Sub.drop)); first | done | fail))) ?_
  rintro _ w ⟨rfl, hw⟩
  refine ⟨_, rfl, ?_⟩
  refine rl_v rfl rfl rfl (S := fun _ => True) trivial (v_assign rfl) ?_
  refine rl_nil (g_le (Fr.le_keep (Fr.le_skip rfl (Fr.le_skip rfl (Fr.le_skip rfl (Fr.le_refl _))))) ?_)
  refine g_seq (g_seq ?_)
  refine g_region ?_
  refine rl_v rfl rfl rfl (S := fun _ => True) trivial (v_move rfl) ?_
  first | (refine rl_v rfl rfl rfl (S := fun _ => True) trivial (v_lssT rfl rfl (by omega)) ?_) | (refine rl_v rfl rfl rfl (S := fun _ => True) trivial (v_lssF rfl rfl (by omega)) ?_) | (refine rl_v rfl rfl rfl (S := fun _ => True) trivial (v_lss rfl rfl) ?_)
  refine rl_nil (g_le (Fr.le_keep (Fr.le_skip rfl (Fr.le_refl _))) ?_)
  refine g_cond_true rfl ?_
  refine g_seq ?_
  refine g_region ?_
  refine rl_v rfl rfl rfl (S := fun _ => True) trivial (v_assign rfl) ?_
  refine rl_nil (g_le (Fr.le_keep (Fr.le_refl _)) ?_)
  refine g_ret1 Try.func17 rfl rfl ?_
  exact ⟨rfl, hw.sub (by (repeat (first | with_reducible exact Sub.refl _ | exact Sub.nil _ | (apply Sub.cons; focus ((repeat (first | with_reducible exact Pick.here _ | apply Pick.there)); (first | done | fail))) | with_reducible apply Sub.drop)); first | done | fail)⟩
theorem hasNo_calls {E : Env} {w : World} {L : List As} {g : Hp} {a : Option Addr} {n c : Nat} {l : List Hd} (r : Rf) (hl : (rdSl 96 8 rdHd) g [.slice a n c] l) (hno : ∀ x ∈ l, x.ref ≠ r) (hw : Sat E w (RO g :: L)) :
    Calls Try.prog 21 #[.slice a n c, .agg r.cells.toArray] w fun e w' => e = .returned (.bool false) ∧ Sat E w' (RO g :: L) := by
  obtain ⟨rfl, hb1, hc1, hm1, g1⟩ := rdSl_get hl
  simp only [reachBytes] at hb1
  refine calls_of_g (n := 18) Try.func21 rfl rfl rfl ?_
  change G _ _ _ _ _ [(0, _), (1, _)] _
  refine g_seq ?_
  refine g_region ?_
  refine rl_k rfl (k_box hw rfl rfl rfl (fun bk0_0 w hw => ?_))
  refine rl_v rfl rfl rfl (S := fun _ => True) trivial (v_assign rfl) ?_
  refine rl_nil (g_le (Fr.le_keep (Fr.le_keep (Fr.le_refl _))) ?_)
  refine g_seq (g_seq ?_)
  refine g_region ?_
  refine rl_v rfl rfl rfl (S := fun _ => True) trivial (v_move rfl) ?_
  refine rl_v rfl rfl rfl (S := fun _ => True) trivial (v_lenSlice T.sl_39_42_8 rfl) ?_
  refine rl_v rfl rfl rfl (S := fun _ => True) trivial (v_move rfl) ?_
  refine rl_nil (g_le (Fr.le_keep (Fr.le_keep (Fr.le_keep (Fr.le_refl _)))) ?_)
  refine g_block ?_
  refine g_loopC (σ := Int) (fun C x => (9, .int .i64 x) :: C) [(3, _), (4, _), (7, _), (8, _)] (by repeat (first | exact Fr.le_nil _ | refine Fr.le_cons rfl ?_)) (fun z w => 0 ≤ z ∧ z ≤ l.length ∧ Sat E w (pt bk0_0 (.cells r.cells.toArray 34 (0, 0)) :: RO g :: L)) (fun z => (l.length - z).toNat) ?_ 0 (by repeat (first | exact Fr.le_nil _ | refine Fr.le_cons rfl ?_)) ⟨by omega, by omega, hw⟩
  rintro i w ⟨hi0, hi1, hw⟩ ih
  refine g_seq ?_
  refine g_region ?_
  first | (refine rl_v rfl rfl rfl (S := fun _ => True) trivial (v_lssT rfl rfl (by omega)) ?_) | (refine rl_v rfl rfl rfl (S := fun _ => True) trivial (v_lssF rfl rfl (by omega)) ?_) | (refine rl_v rfl rfl rfl (S := fun _ => True) trivial (v_lss rfl rfl) ?_)
  refine rl_nil (g_le (Fr.le_keep (Fr.le_refl _)) ?_)
  refine g_seq ?_
  refine g_cond rfl (fun h1 => ?_) (fun h1 => ?_)
  · try with_reducible exact ft_elim h1
    all_goals
      try replace h1 := of_decide_eq_true h1
      refine g_skip (g_seq (g_block (g_seq ?_)))
      have hz := hw
      clear hw
      obtain ⟨b4, o1, x, ecs, rfl, hx, hat1, hl1, hrd⟩ := g1 i hi0 (by omega)
      have hxr := hno x (List.mem_of_getElem? hx)
      obtain ⟨c0, c1, c2, c3, c4, c5, c6, c7, rfl, ⟨r1, r2⟩, hn, ⟨p1, p2⟩⟩ := id hrd
      obtain ⟨n4, n5, n6, hq, e4, n7, n8⟩ := id hn
      simp only [List.cons.injEq, and_true] at r1 p1 hq
      obtain ⟨rfl, rfl, rfl, rfl⟩ := r1
      obtain ⟨rfl, rfl, rfl⟩ := hq
      simp only [rdBool, List.cons.injEq, and_true] at e4
      subst p1 e4
      obtain ⟨ea, en, ec, rfl⟩ := rdSl_shape n7
      obtain ⟨ka, kn, kc, rfl⟩ := rdSl_shape n8
      have hw := hz
      refine g_region ?_
      refine rl_v rfl rfl rfl (S := fun _ => True) trivial (v_indexAddr T.sl_39_42_8 rfl rfl (by omega) (by omega)) ?_
      refine rl_v rfl rfl rfl (by first | exact sat_cells hw (by (repeat (first | with_reducible exact Pick.here _ | apply Pick.there)); first | done | fail) ⟨rfl, rfl, rfl, rfl, rfl, rfl, rfl, rfl, trivial⟩ | exact ro_ats hw (by (repeat (first | with_reducible exact Pick.here _ | apply Pick.there)); first | done | fail) (by assumption) | exact own_cells hw (by (repeat (first | with_reducible exact Pick.here _ | apply Pick.there)); first | done | fail) (by assumption) | exact old_cells hw (by (repeat (first | with_reducible exact Pick.here _ | apply Pick.there)); first | done | fail) (by assumption)) (v_loadAgg (vs := [_, _, _, _, _, _, _, _]) T.agg_42_8 rfl rfl) ?_
      refine rl_k rfl (k_alloc hw T.zero_42 rfl rfl (fun bk3_2 w hw => ?_))
      first | (refine rl_k rfl (k_storeWhole hw T.agg_42_8 rfl rfl (by simp [Value.oneCell']) rfl (by (repeat (first | with_reducible exact Pick.here _ | apply Pick.there)); first | done | fail) rfl (fun w hw => ?_))) | (refine rl_k rfl (k_storeAgg hw T.agg_42_8 rfl rfl (by simp [Value.oneCell']) rfl (by (repeat (first | with_reducible exact Pick.here _ | apply Pick.there)); first | done | fail) rfl rfl (fun w hw => ?_))) | (refine rl_k rfl (k_storeOwnAgg hw T.agg_42_8 rfl rfl (by simp [Value.oneCell']) rfl (by (repeat (first | with_reducible exact Pick.here _ | apply Pick.there)); first | done | fail) (by assumption) (by omega) (fun w hw => ?_)))
      refine rl_nil (g_le (Fr.le_keep (Fr.le_keep (Fr.le_keep (Fr.le_refl _)))) ?_)
      refine g_seq ?_
      refine g_region ?_
      first | (refine rl_v rfl rfl rfl (S := fun _ => True) trivial (v_fieldAddr0 T.fld_42_0_0 rfl) ?_) | (refine rl_v rfl rfl rfl (S := fun _ => True) trivial (v_fieldAddr T.fld_42_0_0 rfl) ?_)
      refine rl_v rfl rfl rfl (by first | exact sat_cells hw (by (repeat (first | with_reducible exact Pick.here _ | apply Pick.there)); first | done | fail) ⟨rfl, rfl, rfl, rfl, trivial⟩ | exact ro_ats hw (by (repeat (first | with_reducible exact Pick.here _ | apply Pick.there)); first | done | fail) (by assumption) | exact own_cells hw (by (repeat (first | with_reducible exact Pick.here _ | apply Pick.there)); first | done | fail) (by assumption) | exact old_cells hw (by (repeat (first | with_reducible exact Pick.here _ | apply Pick.there)); first | done | fail) (by assumption)) (v_loadAgg (vs := [_, _, _, _]) T.agg_34_4 rfl rfl) ?_
      refine rl_v rfl rfl rfl (by first | exact sat_cells hw (by (repeat (first | with_reducible exact Pick.here _ | apply Pick.there)); first | done | fail) ⟨rfl, rfl, rfl, rfl, trivial⟩ | exact ro_ats hw (by (repeat (first | with_reducible exact Pick.here _ | apply Pick.there)); first | done | fail) (by assumption) | exact own_cells hw (by (repeat (first | with_reducible exact Pick.here _ | apply Pick.there)); first | done | fail) (by assumption) | exact old_cells hw (by (repeat (first | with_reducible exact Pick.here _ | apply Pick.there)); first | done | fail) (by assumption)) (v_loadAgg (vs := [_, _, _, _]) T.agg_34_4 rfl rfl) ?_
      refine rl_v rfl rfl rfl (S := fun _ => True) trivial (v_eqlAgg T.cmp_34_iiii rfl rfl rfl rfl (by first | exact eq_Rf _ _ | rfl)) ?_
      refine rl_nil (g_le (Fr.le_keep (Fr.le_keep (Fr.le_keep (Fr.le_keep (Fr.le_refl _))))) ?_)
      refine g_cond rfl (fun h2 => ?_) (fun h2 => ?_)
      · try with_reducible exact ft_elim h2
        all_goals
          try replace h2 := of_decide_eq_true h2
          exact absurd h2 hxr
      · try with_reducible exact tf_elim h2
        all_goals
          try replace h2 := of_decide_eq_false h2
          refine g_skip (g_inBlock ?_)
          refine g_region ?_
          first | (refine rl_v rfl rfl rfl (S := fun _ => True) trivial (v_add rfl rfl (by omega)) ?_) | (refine rl_v rfl rfl rfl (S := fun _ => True) trivial (v_addW rfl rfl) ?_)
          refine rl_v rfl rfl rfl (S := fun _ => True) trivial (v_move rfl) ?_
          refine rl_nil (g_le (Fr.le_keep (Fr.le_keep (Fr.le_refl _))) ?_)
          exact g_le (by repeat (first | exact Fr.le_nil _ | refine Fr.le_cons rfl ?_)) (ih (i + 1) w ⟨by omega, by omega, hw.sub (by (repeat (first | with_reducible exact Sub.refl _ | exact Sub.nil _ | (apply Sub.cons; focus ((repeat (first | with_reducible exact Pick.here _ | apply Pick.there)); (first | done | fail))) | with_reducible apply Sub.drop)); first | done | fail)⟩ (by omega))
  · try with_reducible exact tf_elim h1
    all_goals
      try replace h1 := of_decide_eq_false h1
      refine g_exit rfl (g_seq ?_)
      refine g_region ?_
      refine rl_v rfl rfl rfl (S := fun _ => True) trivial (v_assign rfl) ?_
      refine rl_nil (g_le (Fr.le_keep (Fr.le_refl _)) ?_)
      refine g_ret1 Try.func21 rfl rfl ?_
      exact ⟨rfl, hw.sub (by (repeat (first | with_reducible exact Sub.refl _ | exact Sub.nil _ | (apply Sub.cons; focus ((repeat (first | with_reducible exact Pick.here _ | apply Pick.there)); (first | done | fail))) | with_reducible apply Sub.drop)); first | done | fail)⟩
theorem ord_f4_r9_C15W : orderOfB Try.f4 9 [6] (.a 0 (.a 1 (.a 4 (.v 2 (.v 5 (.k 3 (.k 6 .done))))))) = true := by kernel_rfl
theorem ord_f4_r19_C15W : orderOfB Try.f4 19 [5, 10] (.k 0 (.k 1 (.a 2 (.v 4 (.k 3 (.k 5 (.k 6 (.k 7 (.a 8 (.k 9 (.k 10 (.k 11 (.k 12 .done))))))))))))) = true := by kernel_rfl
set_option maxHeartbeats 4000000 in
theorem CacheWiped_law {w : World} {room : Int} {a : Option Addr} {len cap : Nat} {xs : List Op} {ga : Option Addr} {glen gcap : Nat} {gone : List Int} (hrw : (Lit.int .i64 room).wf = true) (hr : rdArg (rdSl 96 6 rdOp) w (.slice a len cap) xs) (hgn : rdArg (rdSl 8 1 (rdInt .i64)) w (.slice ga glen gcap) gone) :
    Law Try.prog 4 [.int .i64 room, .slice a len cap, .slice ga glen gcap] w := by
  unfold Law
  have hw := Sat.old w
  generalize w = W at hr hgn hw ⊢
  have hr : (rdSl 96 6 rdOp) (hpOf W) [.slice a len cap] xs := hr
  have hgn : (rdSl 8 1 (rdInt .i64)) (hpOf W) [.slice ga glen gcap] gone := hgn
  obtain ⟨hlen, _, hlc, _, _⟩ := rdSl_get hr
  have hrl := refsOf_len gone
  refine calls_of_g (n := 114) Try.func4 rfl rfl rfl ?_
  change G _ _ _ _ _ [(0, _), (1, _), (2, _)] _
  refine g_seq ?_
  refine g_region ?_
  refine rl_v rfl rfl rfl (S := fun _ => True) trivial (v_assign rfl) ?_
  refine rl_nil (g_le (Fr.le_keep (Fr.le_refl _)) ?_)
  refine g_seq (g_seq ?_)
  refine g_cutc2 (σ := Int) (fun C x => (0, .int .i64 x) :: C) [(1, _), (2, _), (6, _)] (by repeat (first | exact Fr.le_nil _ | refine Fr.le_cons rfl ?_)) (fun x w => 1 ≤ x ∧ x ≤ 32 ∧ Sat (envOf W) w [Old W]) ?_ ?_
  · skip
    rintro rm w ⟨hrm0, hrm1, hw⟩
    all_goals
      refine g_seq ?_
      refine g_region ?_
      refine rl_v rfl rfl rfl (S := fun _ => True) trivial (v_move rfl) ?_
      refine rl_k rfl (k_callf Try.func8 rfl rfl rfl rfl ?_)
      refine Calls.mono (cnew_calls rm hw) ?_
      rintro _ w ⟨hn, _⟩
      obtain ⟨c, rfl, hw⟩ := hn ⟨by omega, hrm1⟩
      refine ⟨_, rfl, ?_⟩
      refine rl_v rfl rfl rfl (S := fun _ => True) trivial (v_move rfl) ?_
      refine rl_v rfl rfl rfl (S := fun _ => True) trivial (v_extract rfl rfl) ?_
      refine rl_v rfl rfl rfl (S := fun _ => True) trivial (v_extract rfl rfl) ?_
      refine rl_v rfl rfl rfl (S := fun _ => True) trivial (v_assign rfl) ?_
      refine rl_v rfl rfl rfl (S := fun _ => True) trivial (v_assign rfl) ?_
      refine rl_nil (g_le (Fr.le_keep (Fr.le_keep (Fr.le_skip rfl (Fr.le_skip rfl (Fr.le_skip rfl (Fr.le_skip rfl (Fr.le_skip rfl (Fr.le_refl _)))))))) ?_)
      refine g_seq (g_seq ?_)
      refine g_region ?_
      refine rl_v rfl rfl rfl (S := fun _ => True) trivial (v_move rfl) ?_
      first | (refine rl_v rfl rfl rfl (S := fun _ => True) trivial (v_neqT rfl rfl (by omega)) ?_) | (refine rl_v rfl rfl rfl (S := fun _ => True) trivial (v_neqF rfl rfl (by first | omega | rfl)) ?_) | (refine rl_v rfl rfl rfl (S := fun _ => True) trivial (v_neq rfl rfl) ?_)
      refine rl_v rfl rfl rfl (S := fun _ => True) trivial (v_move rfl) ?_
      first | (refine rl_vg (met_on rfl rfl rfl rfl) rfl rfl (S := fun _ => True) trivial (v_move rfl) ?_) | (refine rl_off (by first | exact met_off rfl rfl rfl rfl rfl | exact met_gone rfl rfl rfl rfl) rfl rfl ?_)
      first | (refine rl_vg (met_on rfl rfl rfl rfl) rfl rfl (S := fun _ => True) trivial (v_eqlNil T.ptr_26 rfl rfl) ?_) | (refine rl_off (by first | exact met_off rfl rfl rfl rfl rfl | exact met_gone rfl rfl rfl rfl) rfl rfl ?_)
      first | (refine rl_v rfl rfl rfl (S := fun _ => True) trivial (v_pick_true rfl rfl) ?_) | (refine rl_v rfl rfl rfl (S := fun _ => True) trivial (v_pick_false rfl rfl) ?_) | (refine rl_v rfl rfl rfl (S := fun _ => True) trivial (v_pick rfl rfl rfl) ?_)
      refine rl_nil (g_le (Fr.le_keep (Fr.le_skip rfl (Fr.le_skip rfl (Fr.le_skip rfl (Fr.le_skip rfl (Fr.le_skip rfl (Fr.le_refl _))))))) ?_)
      refine g_cond_false rfl ?_
      refine g_skip (g_seq (g_seq ?_))
      refine g_region ?_
      refine rl_v rfl rfl rfl (S := fun _ => True) trivial (v_move rfl) ?_
      refine rl_k rfl (k_callf Try.func16 rfl rfl rfl rfl ?_)
      refine Calls.mono (short_calls a len cap 40 (by omega) hlc hw) ?_
      rintro _ w ⟨rfl, hw⟩
      refine ⟨_, rfl, ?_⟩
      refine rl_v rfl rfl rfl (S := fun _ => True) trivial (v_lenSlice T.sl_45_49_6 rfl) ?_
      refine rl_v rfl rfl rfl (S := fun _ => True) trivial (v_move rfl) ?_
      refine rl_nil (g_le (Fr.le_keep (Fr.le_keep (Fr.le_keep (Fr.le_skip rfl (Fr.le_refl _))))) ?_)
      refine g_block ?_
      refine g_loopC (σ := Int × Ch × Hp × Value × List Value) (fun C x => (38, .int .i64 x.1) :: C) [(2, _), (6, _), (7, _), (36, _), (37, _)] (by repeat (first | exact Fr.le_nil _ | refine Fr.le_cons rfl ?_)) (fun z w => 0 ≤ z.1 ∧ z.1 ≤ (min len 40 : Nat) ∧ z.2.1.uniq ∧ z.2.1.room = rm ∧ z.2.1.l.length ≤ z.1 ∧ (hpOf W).le z.2.2.1 ∧ Els rdHd 8 z.2.2.1 z.2.2.2.2 z.2.1.l ∧ Sat (envOf W) w (pt c (.cells [Value.int .i64 (z.2.1 : Ch).room, z.2.2.2.1, .int .i64 (z.2.1 : Ch).hits, .int .i64 (z.2.1 : Ch).misses].toArray 70 (0, 0)) :: OwnSl 42 8 z.2.2.2.1 (z.2.1 : Ch).l.length z.2.2.2.2 :: RO z.2.2.1 :: [])) (fun z => ((min len 40 : Nat) - z.1).toNat) ?_ (0, ⟨rm, [], 0, 0⟩, hpOf W, .slice none 0 0, []) (by repeat (first | exact Fr.le_nil _ | refine Fr.le_cons rfl ?_)) ⟨by simp, by simp only; omega, by simp [Ch.uniq], rfl, by simp, Hp.le_refl _, Els.nil, hw.sub (by (repeat (first | with_reducible exact Sub.refl _ | exact Sub.nil _ | (apply Sub.cons; focus ((repeat (first | with_reducible exact Pick.here _ | apply Pick.there)); (first | done | fail))) | with_reducible apply Sub.drop)); first | done | fail)⟩
      rintro ⟨i, s, g, lv, cells⟩ w ⟨hi0, hi1, hu, hrm, hb, hg, hels, hw⟩ ih
      dsimp only at hi0 hi1 hu hrm hb hg hels hw ⊢
      have hb' : s.l.length ≤ 100000 := by omega
      refine g_seq ?_
      refine g_region ?_
      first | (refine rl_v rfl rfl rfl (S := fun _ => True) trivial (v_lssT rfl rfl (by omega)) ?_) | (refine rl_v rfl rfl rfl (S := fun _ => True) trivial (v_lssF rfl rfl (by omega)) ?_) | (refine rl_v rfl rfl rfl (S := fun _ => True) trivial (v_lss rfl rfl) ?_)
      refine rl_nil (g_le (Fr.le_keep (Fr.le_refl _)) ?_)
      refine g_seq ?_
      refine g_cond rfl (fun h3 => ?_) (fun h3 => ?_)
      · try with_reducible exact ft_elim h3
        all_goals
          try replace h3 := of_decide_eq_true h3
          refine g_skip (g_seq (g_block (g_seq ?_)))
          have hz := hw
          clear hw
          obtain ⟨_, _, _, _, g1⟩ := rdSl_get (rdSl_take (min len 40) (mono_sl mono_Op hg hr) (by omega))
          obtain ⟨b4, o1, x, ecs, rfl, hx, hat1, hl1, hro⟩ := g1 i hi0 (by omega)
          obtain ⟨q0, q1, q2, q3, q4, q5, rfl, ⟨hd0, _⟩, ⟨hd1, _⟩, hnd, hrf⟩ := hro
          simp only [List.cons.injEq, and_true] at hd0 hd1
          subst hd0 hd1
          obtain ⟨n0, n1, n2, hq, hq0, hq1, hq2⟩ := id hnd
          simp only [List.cons.injEq, and_true] at hq
          obtain ⟨rfl, rfl, rfl⟩ := hq
          simp only [rdBool, List.cons.injEq, and_true] at hq0
          subst hq0
          obtain ⟨qa1, qn1, qk1, rfl⟩ := rdSl_shape hq1
          obtain ⟨qa2, qn2, qk2, rfl⟩ := rdSl_shape hq2
          obtain ⟨qa3, qn3, qk3, rfl⟩ := rdSl_shape hrf
          have hw := hz
          refine g_region ?_
          refine rl_v rfl rfl rfl (S := fun _ => True) trivial (v_indexAddr T.sl_45_49_6 rfl rfl (by omega) (by omega)) ?_
          refine rl_v rfl rfl rfl (by first | exact sat_cells hw (by (repeat (first | with_reducible exact Pick.here _ | apply Pick.there)); first | done | fail) ⟨rfl, rfl, rfl, rfl, rfl, rfl, trivial⟩ | exact ro_ats hw (by (repeat (first | with_reducible exact Pick.here _ | apply Pick.there)); first | done | fail) (by assumption) | exact own_cells hw (by (repeat (first | with_reducible exact Pick.here _ | apply Pick.there)); first | done | fail) (by assumption) | exact old_cells hw (by (repeat (first | with_reducible exact Pick.here _ | apply Pick.there)); first | done | fail) (by assumption)) (v_loadAgg (vs := [_, _, _, _, _, _]) T.agg_49_6 rfl rfl) ?_
          refine rl_k rfl (k_alloc hw T.zero_49 rfl rfl (fun bk8_2 w hw => ?_))
          first | (refine rl_k rfl (k_storeWhole hw T.agg_49_6 rfl rfl (by simp [Value.oneCell']) rfl (by (repeat (first | with_reducible exact Pick.here _ | apply Pick.there)); first | done | fail) rfl (fun w hw => ?_))) | (refine rl_k rfl (k_storeAgg hw T.agg_49_6 rfl rfl (by simp [Value.oneCell']) rfl (by (repeat (first | with_reducible exact Pick.here _ | apply Pick.there)); first | done | fail) rfl rfl (fun w hw => ?_))) | (refine rl_k rfl (k_storeOwnAgg hw T.agg_49_6 rfl rfl (by simp [Value.oneCell']) rfl (by (repeat (first | with_reducible exact Pick.here _ | apply Pick.there)); first | done | fail) (by assumption) (by omega) (fun w hw => ?_)))
          refine rl_nil (g_le (Fr.le_keep (Fr.le_keep (Fr.le_keep (Fr.le_refl _)))) ?_)
          refine g_seq ?_
          refine g_drawR ord_f4_r9_C15W (by kernel_rfl) T.mixed hw (fun w hw => ?_)
          refine rs_a 0 rfl rfl rfl rfl (v_move rfl) ?_
          first | (refine rs_a 1 rfl rfl rfl rfl (v_fieldAddr0 T.fld_49_1_1 rfl) ?_) | (refine rs_a 1 rfl rfl rfl rfl (v_fieldAddr T.fld_49_1_1 rfl) ?_)
          first | (refine rs_a 4 rfl rfl rfl rfl (v_fieldAddr0 T.fld_49_2_2 rfl) ?_) | (refine rs_a 4 rfl rfl rfl rfl (v_fieldAddr T.fld_49_2_2 rfl) ?_)
          refine rs_v 2 rfl rfl rfl rfl (OpV.mono (v_load T.scal_3 rfl) (fun w hw => by first | exact sat_cell hw (by (repeat (first | with_reducible exact Pick.here _ | apply Pick.there)); first | done | fail) rfl | exact own_cell hw (by (repeat (first | with_reducible exact Pick.here _ | apply Pick.there)); first | done | fail) (by first | rfl | assumption) | exact ro_at0 hw (by (repeat (first | with_reducible exact Pick.here _ | apply Pick.there)); first | done | fail) (by assumption) rfl | exact ro_at hw (by (repeat (first | with_reducible exact Pick.here _ | apply Pick.there)); first | done | fail) (by assumption) rfl | exact own_at0 hw (by (repeat (first | with_reducible exact Pick.here _ | apply Pick.there)); first | done | fail) (by assumption) rfl | exact own_at hw (by (repeat (first | with_reducible exact Pick.here _ | apply Pick.there)); first | done | fail) (by assumption) rfl | exact old_cell hw (by (repeat (first | with_reducible exact Pick.here _ | apply Pick.there)); first | done | fail) (by assumption) | assumption)) (by first | exact hw | exact Sat.sub hw (by (repeat (first | with_reducible exact Sub.refl _ | exact Sub.nil _ | (apply Sub.cons; focus ((repeat (first | with_reducible exact Pick.here _ | apply Pick.there)); (first | done | fail))) | with_reducible apply Sub.drop)); first | done | fail)) ?_
          refine rs_v 5 rfl rfl rfl rfl (OpV.mono (v_loadAgg (vs := [_, _, _]) T.agg_25_3 rfl rfl) (fun w hw => by first | exact sat_cells hw (by (repeat (first | with_reducible exact Pick.here _ | apply Pick.there)); first | done | fail) ⟨rfl, rfl, rfl, trivial⟩ | exact ro_ats hw (by (repeat (first | with_reducible exact Pick.here _ | apply Pick.there)); first | done | fail) (by assumption) | exact own_cells hw (by (repeat (first | with_reducible exact Pick.here _ | apply Pick.there)); first | done | fail) (by assumption) | exact old_cells hw (by (repeat (first | with_reducible exact Pick.here _ | apply Pick.there)); first | done | fail) (by assumption))) (by first | exact hw | exact Sat.sub hw (by (repeat (first | with_reducible exact Sub.refl _ | exact Sub.nil _ | (apply Sub.cons; focus ((repeat (first | with_reducible exact Pick.here _ | apply Pick.there)); (first | done | fail))) | with_reducible apply Sub.drop)); first | done | fail)) ?_
          refine rs_k 3 rfl rfl (k_callf Try.func11 rfl rfl rfl rfl ?_)
          refine Calls.mono (of_calls _ hw) ?_
          rintro _ w ⟨rfl, hw⟩
          refine ⟨_, rfl, ?_⟩
          refine ⟨fun _ => (by first | exact hw | exact Sat.sub hw (by (repeat (first | with_reducible exact Sub.refl _ | exact Sub.nil _ | (apply Sub.cons; focus ((repeat (first | with_reducible exact Pick.here _ | apply Pick.there)); (first | done | fail))) | with_reducible apply Sub.drop)); first | done | fail) | exact Sat.sub (Sat.shrink (Sat.pick hw (by (repeat (first | with_reducible exact Pick.here _ | apply Pick.there)); first | done | fail)) (by assumption)) (by (repeat (first | with_reducible exact Sub.refl _ | exact Sub.nil _ | (apply Sub.cons; focus ((repeat (first | with_reducible exact Pick.here _ | apply Pick.there)); (first | done | fail))) | with_reducible apply Sub.drop)); first | done | fail)), ?_⟩
          refine rs_k 6 rfl rfl (k_callf Try.func10 rfl rfl rfl rfl ?_)
          have hpf := put_facts s (ofR x.r) x.n
          have hpu := put_uniq hu (ofR x.r) x.n
          refine Calls.mono (cput_calls (ofR x.r) (ofR_ok _) hnd hels hb' (hw.sub (by (repeat (first | with_reducible exact Sub.refl _ | exact Sub.nil _ | (apply Sub.cons; focus ((repeat (first | with_reducible exact Pick.here _ | apply Pick.there)); (first | done | fail))) | with_reducible apply Sub.drop)); first | done | fail))) ?_
          rintro _ w ⟨g2, lv2, cells2, hg2, rfl, hels2, hw⟩
          refine ⟨_, rfl, ?_⟩
          refine ⟨fun hn => absurd (by decide) hn, ?_⟩
          refine rs_done (g_le (Fr.le_skip rfl (Fr.le_keep (Fr.le_keep (Fr.le_keep (Fr.le_keep (Fr.le_keep (Fr.le_keep (Fr.le_refl _)))))))) ?_)
          generalize (s.put (ofR x.r) x.n).2 = s2 at hpf hpu hels2 hw
          refine g_seq ?_
          refine g_region ?_
          first | (refine rl_v rfl rfl rfl (S := fun _ => True) trivial (v_fieldAddr0 T.fld_49_0_0 rfl) ?_) | (refine rl_v rfl rfl rfl (S := fun _ => True) trivial (v_fieldAddr T.fld_49_0_0 rfl) ?_)
          refine rl_v rfl rfl rfl (by first | exact sat_cell hw (by (repeat (first | with_reducible exact Pick.here _ | apply Pick.there)); first | done | fail) rfl | exact own_cell hw (by (repeat (first | with_reducible exact Pick.here _ | apply Pick.there)); first | done | fail) (by first | rfl | assumption) | exact ro_at0 hw (by (repeat (first | with_reducible exact Pick.here _ | apply Pick.there)); first | done | fail) (by assumption) rfl | exact ro_at hw (by (repeat (first | with_reducible exact Pick.here _ | apply Pick.there)); first | done | fail) (by assumption) rfl | exact own_at0 hw (by (repeat (first | with_reducible exact Pick.here _ | apply Pick.there)); first | done | fail) (by assumption) rfl | exact own_at hw (by (repeat (first | with_reducible exact Pick.here _ | apply Pick.there)); first | done | fail) (by assumption) rfl | exact old_cell hw (by (repeat (first | with_reducible exact Pick.here _ | apply Pick.there)); first | done | fail) (by assumption) | assumption) (v_load T.scal_3 rfl) ?_
          first | (refine rl_v rfl rfl rfl (S := fun _ => True) trivial (v_eqlT rfl rfl (by first | omega | rfl)) ?_) | (refine rl_v rfl rfl rfl (S := fun _ => True) trivial (v_eqlF rfl rfl (by omega)) ?_) | (refine rl_v rfl rfl rfl (S := fun _ => True) trivial (v_eql rfl rfl) ?_)
          refine rl_nil (g_le (Fr.le_keep (Fr.le_keep (Fr.le_keep (Fr.le_refl _)))) ?_)
          refine g_cond rfl (fun h4 => ?_) (fun h4 => ?_)
          · try with_reducible exact ft_elim h4
            all_goals
              try replace h4 := of_decide_eq_true h4
              refine g_region ?_
              refine rl_v rfl rfl rfl (S := fun _ => True) trivial (v_move rfl) ?_
              first | (refine rl_v rfl rfl rfl (S := fun _ => True) trivial (v_fieldAddr0 T.fld_49_1_1 rfl) ?_) | (refine rl_v rfl rfl rfl (S := fun _ => True) trivial (v_fieldAddr T.fld_49_1_1 rfl) ?_)
              refine rl_v rfl rfl rfl (by first | exact sat_cell hw (by (repeat (first | with_reducible exact Pick.here _ | apply Pick.there)); first | done | fail) rfl | exact own_cell hw (by (repeat (first | with_reducible exact Pick.here _ | apply Pick.there)); first | done | fail) (by first | rfl | assumption) | exact ro_at0 hw (by (repeat (first | with_reducible exact Pick.here _ | apply Pick.there)); first | done | fail) (by assumption) rfl | exact ro_at hw (by (repeat (first | with_reducible exact Pick.here _ | apply Pick.there)); first | done | fail) (by assumption) rfl | exact own_at0 hw (by (repeat (first | with_reducible exact Pick.here _ | apply Pick.there)); first | done | fail) (by assumption) rfl | exact own_at hw (by (repeat (first | with_reducible exact Pick.here _ | apply Pick.there)); first | done | fail) (by assumption) rfl | exact old_cell hw (by (repeat (first | with_reducible exact Pick.here _ | apply Pick.there)); first | done | fail) (by assumption) | assumption) (v_load T.scal_3 rfl) ?_
              refine rl_k rfl (k_callf Try.func11 rfl rfl rfl rfl ?_)
              refine Calls.mono (of_calls _ hw) ?_
              rintro _ w ⟨rfl, hw⟩
              refine ⟨_, rfl, ?_⟩
              refine rl_k rfl (k_callf Try.func17 rfl rfl rfl rfl ?_)
              have hqf := pin_facts s2 (ofR x.r)
              have hqu := pin_uniq hpu (ofR x.r)
              refine Calls.mono (cpin_calls (ofR x.r) hels2 (by omega) (hw.sub (by (repeat (first | with_reducible exact Sub.refl _ | exact Sub.nil _ | (apply Sub.cons; focus ((repeat (first | with_reducible exact Pick.here _ | apply Pick.there)); (first | done | fail))) | with_reducible apply Sub.drop)); first | done | fail))) ?_
              rintro _ w ⟨cells3, rfl, hels3, hw⟩
              refine ⟨_, rfl, ?_⟩
              refine rl_nil (g_le (Fr.le_skip rfl (Fr.le_keep (Fr.le_keep (Fr.le_keep (Fr.le_keep (Fr.le_refl _)))))) ?_)
              refine g_inBlock ?_
              refine g_region ?_
              first | (refine rl_v rfl rfl rfl (S := fun _ => True) trivial (v_add rfl rfl (by omega)) ?_) | (refine rl_v rfl rfl rfl (S := fun _ => True) trivial (v_addW rfl rfl) ?_)
              refine rl_v rfl rfl rfl (S := fun _ => True) trivial (v_move rfl) ?_
              refine rl_nil (g_le (Fr.le_keep (Fr.le_keep (Fr.le_refl _))) ?_)
              exact g_le (by repeat (first | exact Fr.le_nil _ | refine Fr.le_cons rfl ?_)) (ih (i + 1, (s2.pin (ofR x.r)).2, g2, lv2, cells3) w ⟨by simp only; omega, by simp only; omega, hqu, by simp only; rw [hqf.2.2.2, hpf.2.2.2, hrm], by simp only; omega, hg.trans hg2, hels3, hw.sub (by (repeat (first | with_reducible exact Sub.refl _ | exact Sub.nil _ | (apply Sub.cons; focus ((repeat (first | with_reducible exact Pick.here _ | apply Pick.there)); (first | done | fail))) | with_reducible apply Sub.drop)); first | done | fail)⟩ (by simp only; omega))
          · try with_reducible exact tf_elim h4
            all_goals
              try replace h4 := of_decide_eq_false h4
              refine g_skip (g_inBlock ?_)
              refine g_region ?_
              first | (refine rl_v rfl rfl rfl (S := fun _ => True) trivial (v_add rfl rfl (by omega)) ?_) | (refine rl_v rfl rfl rfl (S := fun _ => True) trivial (v_addW rfl rfl) ?_)
              refine rl_v rfl rfl rfl (S := fun _ => True) trivial (v_move rfl) ?_
              refine rl_nil (g_le (Fr.le_keep (Fr.le_keep (Fr.le_refl _))) ?_)
              exact g_le (by repeat (first | exact Fr.le_nil _ | refine Fr.le_cons rfl ?_)) (ih (i + 1, s2, g2, lv2, cells2) w ⟨by simp only; omega, by simp only; omega, hpu, by simp only; rw [hpf.2.2.2, hrm], by simp only; omega, hg.trans hg2, hels2, hw.sub (by (repeat (first | with_reducible exact Sub.refl _ | exact Sub.nil _ | (apply Sub.cons; focus ((repeat (first | with_reducible exact Pick.here _ | apply Pick.there)); (first | done | fail))) | with_reducible apply Sub.drop)); first | done | fail)⟩ (by simp only; omega))
      · try with_reducible exact tf_elim h3
        all_goals
          try replace h3 := of_decide_eq_false h3
          refine g_exit rfl (g_seq ?_)
          refine g_region ?_
          refine rl_v rfl rfl rfl (S := fun _ => True) trivial (v_move rfl) ?_
          refine rl_k rfl (k_callf Try.func18 rfl rfl rfl rfl ?_)
          refine Calls.mono (ckept_calls (hw.sub (by (repeat (first | with_reducible exact Sub.refl _ | exact Sub.nil _ | (apply Sub.cons; focus ((repeat (first | with_reducible exact Pick.here _ | apply Pick.there)); (first | done | fail))) | with_reducible apply Sub.drop)); first | done | fail))) ?_
          rintro _ w ⟨rfl, hw⟩
          refine ⟨_, rfl, ?_⟩
          refine rl_v rfl rfl rfl (S := fun _ => True) trivial (v_assign rfl) ?_
          refine rl_nil (g_le (Fr.le_keep (Fr.le_skip rfl (Fr.le_skip rfl (Fr.le_refl _)))) ?_)
          refine g_seq ?_
          refine g_region ?_
          refine rl_v rfl rfl rfl (S := fun _ => True) trivial (v_move rfl) ?_
          refine rl_v rfl rfl rfl (S := fun _ => True) trivial (v_move rfl) ?_
          refine rl_k rfl (k_callf Try.func20 rfl rfl rfl rfl ?_)
          refine Calls.mono (refs_calls (mono_sl mono_int hg hgn) (hw.sub (by (repeat (first | with_reducible exact Sub.refl _ | exact Sub.nil _ | (apply Sub.cons; focus ((repeat (first | with_reducible exact Pick.here _ | apply Pick.there)); (first | done | fail))) | with_reducible apply Sub.drop)); first | done | fail))) ?_
          rintro _ w ⟨g2, ra, rm2, rk, hg2, rfl, hrs, hw⟩
          refine ⟨_, rfl, ?_⟩
          refine rl_k rfl (k_callf Try.func19 rfl rfl rfl rfl ?_)
          have hdf := drop_facts (refsOf gone) (s, 0)
          have hdu := drops_facts (refsOf gone) (s, 0) hu
          refine Calls.mono (cdrop_calls hrs (hels.mono mono_Hd hg2) hb' (hw.sub (by (repeat (first | with_reducible exact Sub.refl _ | exact Sub.nil _ | (apply Sub.cons; focus ((repeat (first | with_reducible exact Pick.here _ | apply Pick.there)); (first | done | fail))) | with_reducible apply Sub.drop)); first | done | fail))) ?_
          rintro _ w ⟨lv2, cells2, rfl, hels2, hw⟩
          refine ⟨_, rfl, ?_⟩
          refine rl_v rfl rfl rfl (S := fun _ => True) trivial (v_assign rfl) ?_
          refine rl_nil (g_le (Fr.le_keep (Fr.le_skip rfl (Fr.le_skip rfl (Fr.le_skip rfl (Fr.le_skip rfl (Fr.le_refl _)))))) ?_)
          generalize (refsOf gone).foldl Ch.drop1 (s, 0) = p at hdf hdu hels2 hw
          obtain ⟨s2, n2⟩ := p
          dsimp only at hdf hdu hels2 hw ⊢
          obtain ⟨hu2, _, hgo, hcnt, hn20⟩ := hdu
          have hb2 : s2.l.length ≤ 100000 := by omega
          refine g_seq (g_seq ?_)
          refine g_region ?_
          refine rl_v rfl rfl rfl (S := fun _ => True) trivial (v_move rfl) ?_
          refine rl_k rfl (k_callf Try.func20 rfl rfl rfl rfl ?_)
          refine Calls.mono (refs_calls (mono_sl mono_int (hg.trans hg2) hgn) (hw.sub (by (repeat (first | with_reducible exact Sub.refl _ | exact Sub.nil _ | (apply Sub.cons; focus ((repeat (first | with_reducible exact Pick.here _ | apply Pick.there)); (first | done | fail))) | with_reducible apply Sub.drop)); first | done | fail))) ?_
          rintro _ w ⟨g3, ra3, rm3, rk3, hg3, rfl, hrs3, hw⟩
          refine ⟨_, rfl, ?_⟩
          refine rl_v rfl rfl rfl (S := fun _ => True) trivial (v_lenSlice T.sl_53_34_4 rfl) ?_
          refine rl_v rfl rfl rfl (S := fun _ => True) trivial (v_move rfl) ?_
          refine rl_nil (g_le (Fr.le_keep (Fr.le_keep (Fr.le_keep (Fr.le_skip rfl (Fr.le_refl _))))) ?_)
          obtain ⟨rfl, _, _, _, gg⟩ := rdSl_get hrs3
          have hels3 := hels2.mono mono_Hd hg3
          refine g_block ?_
          refine g_loopC (σ := Int × Int × Hp) (fun C x => (67, .int .i64 x.1) :: C) [(6, _), (7, _), (11, _), (12, _), (65, _), (66, _)] (by repeat (first | exact Fr.le_nil _ | refine Fr.le_cons rfl ?_)) (fun z w => 0 ≤ z.1 ∧ z.1 ≤ (refsOf gone).length ∧ g3.le z.2.2 ∧ Sat (envOf W) w (pt c (.cells [Value.int .i64 (⟨s2.room, s2.l, s2.hits, z.2.1⟩ : Ch).room, lv2, .int .i64 (⟨s2.room, s2.l, s2.hits, z.2.1⟩ : Ch).hits, .int .i64 (⟨s2.room, s2.l, s2.hits, z.2.1⟩ : Ch).misses].toArray 70 (0, 0)) :: OwnSl 42 8 lv2 (⟨s2.room, s2.l, s2.hits, z.2.1⟩ : Ch).l.length cells2 :: RO z.2.2 :: [])) (fun z => ((refsOf gone).length - z.1).toNat) ?_ (0, s2.misses, g3) (by repeat (first | exact Fr.le_nil _ | refine Fr.le_cons rfl ?_)) ⟨by simp, by simp, Hp.le_refl _, hw.sub (by (repeat (first | with_reducible exact Sub.refl _ | exact Sub.nil _ | (apply Sub.cons; focus ((repeat (first | with_reducible exact Pick.here _ | apply Pick.there)); (first | done | fail))) | with_reducible apply Sub.drop)); first | done | fail)⟩
          rintro ⟨j, ms, g4⟩ w ⟨hj0, hj1, hg4, hw⟩ ih2
          dsimp only at hj0 hj1 hg4 hw ⊢
          refine g_seq ?_
          refine g_region ?_
          first | (refine rl_v rfl rfl rfl (S := fun _ => True) trivial (v_lssT rfl rfl (by omega)) ?_) | (refine rl_v rfl rfl rfl (S := fun _ => True) trivial (v_lssF rfl rfl (by omega)) ?_) | (refine rl_v rfl rfl rfl (S := fun _ => True) trivial (v_lss rfl rfl) ?_)
          refine rl_nil (g_le (Fr.le_keep (Fr.le_refl _)) ?_)
          refine g_seq ?_
          refine g_cond rfl (fun h5 => ?_) (fun h5 => ?_)
          · try with_reducible exact ft_elim h5
            all_goals
              try replace h5 := of_decide_eq_true h5
              refine g_skip (g_seq (g_block (g_seq ?_)))
              have hz := hw
              clear hw
              obtain ⟨b5, o5, r, ecs5, rfl, hx5, hat5, hl5, rfl, hrok⟩ := gg j hj0 (by omega)
              have hat5 := hat5.mono hg4
              have hw := hz
              have hne := hgo r (List.mem_of_getElem? hx5)
              have hpl : (⟨s2.room, s2.l, s2.hits, ms⟩ : Ch).pl r = -1 := Ch.pl_none.2 hne
              refine g_region ?_
              refine rl_v rfl rfl rfl (S := fun _ => True) trivial (v_indexAddr T.sl_53_34_4 rfl rfl (by omega) (by omega)) ?_
              refine rl_v rfl rfl rfl (by first | exact sat_cells hw (by (repeat (first | with_reducible exact Pick.here _ | apply Pick.there)); first | done | fail) ⟨rfl, rfl, rfl, rfl, trivial⟩ | exact ro_ats hw (by (repeat (first | with_reducible exact Pick.here _ | apply Pick.there)); first | done | fail) (by assumption) | exact own_cells hw (by (repeat (first | with_reducible exact Pick.here _ | apply Pick.there)); first | done | fail) (by assumption) | exact old_cells hw (by (repeat (first | with_reducible exact Pick.here _ | apply Pick.there)); first | done | fail) (by assumption)) (v_loadAgg (vs := [_, _, _, _]) T.agg_34_4 rfl rfl) ?_
              refine rl_k rfl (k_alloc hw T.zero_34 rfl rfl (fun bk17_2 w hw => ?_))
              first | (refine rl_k rfl (k_storeWhole hw T.agg_34_4 rfl rfl (by simp [Value.oneCell']) rfl (by (repeat (first | with_reducible exact Pick.here _ | apply Pick.there)); first | done | fail) rfl (fun w hw => ?_))) | (refine rl_k rfl (k_storeAgg hw T.agg_34_4 rfl rfl (by simp [Value.oneCell']) rfl (by (repeat (first | with_reducible exact Pick.here _ | apply Pick.there)); first | done | fail) rfl rfl (fun w hw => ?_))) | (refine rl_k rfl (k_storeOwnAgg hw T.agg_34_4 rfl rfl (by simp [Value.oneCell']) rfl (by (repeat (first | with_reducible exact Pick.here _ | apply Pick.there)); first | done | fail) (by assumption) (by omega) (fun w hw => ?_)))
              refine rl_nil (g_le (Fr.le_keep (Fr.le_keep (Fr.le_keep (Fr.le_refl _)))) ?_)
              refine g_seq ?_
              refine g_region ?_
              refine rl_v rfl rfl rfl (S := fun _ => True) trivial (v_move rfl) ?_
              refine rl_v rfl rfl rfl (by first | exact sat_cells hw (by (repeat (first | with_reducible exact Pick.here _ | apply Pick.there)); first | done | fail) ⟨rfl, rfl, rfl, rfl, trivial⟩ | exact ro_ats hw (by (repeat (first | with_reducible exact Pick.here _ | apply Pick.there)); first | done | fail) (by assumption) | exact own_cells hw (by (repeat (first | with_reducible exact Pick.here _ | apply Pick.there)); first | done | fail) (by assumption) | exact old_cells hw (by (repeat (first | with_reducible exact Pick.here _ | apply Pick.there)); first | done | fail) (by assumption)) (v_loadAgg (vs := [_, _, _, _]) T.agg_34_4 rfl rfl) ?_
              refine rl_k rfl (k_callf Try.func13 rfl rfl rfl rfl ?_)
              refine Calls.mono (cgetNo_calls r hpl (hels3.mono mono_Hd hg4) hb2 (hw.sub (by (repeat (first | with_reducible exact Sub.refl _ | exact Sub.nil _ | (apply Sub.cons; focus ((repeat (first | with_reducible exact Pick.here _ | apply Pick.there)); (first | done | fail))) | with_reducible apply Sub.drop)); first | done | fail))) ?_
              rintro _ w ⟨rfl, hw⟩
              refine ⟨_, rfl, ?_⟩
              refine rl_v rfl rfl rfl (S := fun _ => True) trivial (v_move rfl) ?_
              refine rl_v rfl rfl rfl (S := fun _ => True) trivial (v_extract rfl rfl) ?_
              refine rl_v rfl rfl rfl (S := fun _ => True) trivial (v_extract rfl rfl) ?_
              refine rl_k rfl (k_alloc hw T.zero_25 rfl rfl (fun bk18_6 w hw => ?_))
              first | (refine rl_k rfl (k_storeWhole hw T.agg_25_3 rfl rfl (by simp [Value.oneCell']) rfl (by (repeat (first | with_reducible exact Pick.here _ | apply Pick.there)); first | done | fail) rfl (fun w hw => ?_))) | (refine rl_k rfl (k_storeAgg hw T.agg_25_3 rfl rfl (by simp [Value.oneCell']) rfl (by (repeat (first | with_reducible exact Pick.here _ | apply Pick.there)); first | done | fail) rfl rfl (fun w hw => ?_))) | (refine rl_k rfl (k_storeOwnAgg hw T.agg_25_3 rfl rfl (by simp [Value.oneCell']) rfl (by (repeat (first | with_reducible exact Pick.here _ | apply Pick.there)); first | done | fail) (by assumption) (by omega) (fun w hw => ?_)))
              refine rl_v rfl rfl rfl (S := fun _ => True) trivial (v_assign rfl) ?_
              refine rl_nil (g_le (Fr.le_keep (Fr.le_keep (Fr.le_keep (Fr.le_keep (Fr.le_keep (Fr.le_keep (Fr.le_keep (Fr.le_keep (Fr.le_refl _))))))))) ?_)
              simp only [Ch.miss] at hw
              refine g_seq ?_
              refine g_drawR ord_f4_r19_C15W (by kernel_rfl) T.mixed hw (fun w hw => ?_)
              refine rs_kv 0 rfl rfl rfl rfl (S' := fun _ => True) trivial (v_move rfl) ?_
              refine rs_kv 1 rfl rfl rfl rfl (S' := fun _ => True) trivial (v_move rfl) ?_
              first | (refine rs_ag 2 rfl (met_on rfl rfl rfl rfl) rfl rfl (v_move rfl) ?_) | (refine rs_aoff 2 rfl (by first | exact met_off rfl rfl rfl rfl rfl | exact met_gone rfl rfl rfl rfl) rfl rfl ?_)
              first | (refine rs_vg 4 rfl (met_on rfl rfl rfl rfl) rfl rfl (OpV.mono (v_loadAgg (vs := [_, _, _, _]) T.agg_34_4 rfl rfl) (fun w hw => by first | exact sat_cells hw (by (repeat (first | with_reducible exact Pick.here _ | apply Pick.there)); first | done | fail) ⟨rfl, rfl, rfl, rfl, trivial⟩ | exact ro_ats hw (by (repeat (first | with_reducible exact Pick.here _ | apply Pick.there)); first | done | fail) (by assumption) | exact own_cells hw (by (repeat (first | with_reducible exact Pick.here _ | apply Pick.there)); first | done | fail) (by assumption) | exact old_cells hw (by (repeat (first | with_reducible exact Pick.here _ | apply Pick.there)); first | done | fail) (by assumption))) (by first | exact hw | exact Sat.sub hw (by (repeat (first | with_reducible exact Sub.refl _ | exact Sub.nil _ | (apply Sub.cons; focus ((repeat (first | with_reducible exact Pick.here _ | apply Pick.there)); (first | done | fail))) | with_reducible apply Sub.drop)); first | done | fail)) ?_) | (refine rs_voff 4 rfl (by first | exact met_off rfl rfl rfl rfl rfl | exact met_gone rfl rfl rfl rfl) rfl rfl (by first | exact hw | exact Sat.sub hw (by (repeat (first | with_reducible exact Sub.refl _ | exact Sub.nil _ | (apply Sub.cons; focus ((repeat (first | with_reducible exact Pick.here _ | apply Pick.there)); (first | done | fail))) | with_reducible apply Sub.drop)); first | done | fail)) ?_)
              first | (refine rs_kg 3 rfl (met_on rfl rfl rfl rfl) (k_callf Try.func14 rfl rfl rfl rfl ?_); refine Calls.mono (choldsC_calls (s := ⟨s2.room, s2.l, s2.hits, IntKind.i64.wrap (ms + 1)⟩) (hels3.mono mono_Hd hg4) hb2 (hw.sub (by (repeat (first | with_reducible exact Sub.refl _ | exact Sub.nil _ | (apply Sub.cons; focus ((repeat (first | with_reducible exact Pick.here _ | apply Pick.there)); (first | done | fail))) | with_reducible apply Sub.drop)); first | done | fail))) ?_; rintro _ w ⟨g5, ha5, hn5, hk5, hg5, rfl, hrd5, hw⟩; refine ⟨_, rfl, ?_⟩; refine ⟨fun _ => (by first | exact hw | exact Sat.sub hw (by (repeat (first | with_reducible exact Sub.refl _ | exact Sub.nil _ | (apply Sub.cons; focus ((repeat (first | with_reducible exact Pick.here _ | apply Pick.there)); (first | done | fail))) | with_reducible apply Sub.drop)); first | done | fail) | exact Sat.sub (Sat.shrink (Sat.pick hw (by (repeat (first | with_reducible exact Pick.here _ | apply Pick.there)); first | done | fail)) (by assumption)) (by (repeat (first | with_reducible exact Sub.refl _ | exact Sub.nil _ | (apply Sub.cons; focus ((repeat (first | with_reducible exact Pick.here _ | apply Pick.there)); (first | done | fail))) | with_reducible apply Sub.drop)); first | done | fail)), ?_⟩) | (refine rs_koff 3 rfl (by first | exact met_off rfl rfl rfl rfl rfl | exact met_gone rfl rfl rfl rfl) rfl rfl ?_)
              first | (refine rs_kg 5 rfl (met_on rfl rfl rfl rfl) (k_callf Try.func21 rfl rfl rfl rfl ?_); refine Calls.mono (hasNo_calls r hrd5 hne (hw.sub (by (repeat (first | with_reducible exact Sub.refl _ | exact Sub.nil _ | (apply Sub.cons; focus ((repeat (first | with_reducible exact Pick.here _ | apply Pick.there)); (first | done | fail))) | with_reducible apply Sub.drop)); first | done | fail))) ?_; rintro _ w ⟨rfl, hw⟩; refine ⟨_, rfl, ?_⟩; refine ⟨fun hn => absurd (by decide) hn, ?_⟩) | (refine rs_koff 5 rfl (by first | exact met_off rfl rfl rfl rfl rfl | exact met_gone rfl rfl rfl rfl) rfl rfl ?_)
              first | (refine rs_kv 6 rfl rfl rfl rfl (S' := fun _ => True) trivial (v_pick_true rfl rfl) ?_) | (refine rs_kv 6 rfl rfl rfl rfl (S' := fun _ => True) trivial (v_pick_false rfl rfl) ?_) | (refine rs_kv 6 rfl rfl rfl rfl (S' := fun _ => True) trivial (v_pick rfl rfl rfl) ?_)
              refine rs_kv 7 rfl rfl rfl rfl (S' := fun _ => True) trivial (v_move rfl) ?_
              first | (refine rs_ag 8 rfl (met_on rfl rfl rfl rfl) rfl rfl (v_move rfl) ?_) | (refine rs_aoff 8 rfl (by first | exact met_off rfl rfl rfl rfl rfl | exact met_gone rfl rfl rfl rfl) rfl rfl ?_)
              first | (refine rs_kvg 9 rfl (met_on rfl rfl rfl rfl) rfl rfl (by first | exact sat_cells hw (by (repeat (first | with_reducible exact Pick.here _ | apply Pick.there)); first | done | fail) ⟨rfl, rfl, rfl, rfl, trivial⟩ | exact ro_ats hw (by (repeat (first | with_reducible exact Pick.here _ | apply Pick.there)); first | done | fail) (by assumption) | exact own_cells hw (by (repeat (first | with_reducible exact Pick.here _ | apply Pick.there)); first | done | fail) (by assumption) | exact old_cells hw (by (repeat (first | with_reducible exact Pick.here _ | apply Pick.there)); first | done | fail) (by assumption)) (v_loadAgg (vs := [_, _, _, _]) T.agg_34_4 rfl rfl) ?_) | (refine rs_koff 9 rfl (by first | exact met_off rfl rfl rfl rfl rfl | exact met_gone rfl rfl rfl rfl) rfl rfl ?_)
              first | (refine rs_kg 10 rfl (met_on rfl rfl rfl rfl) (k_callf Try.func17 rfl rfl rfl rfl ?_); refine Calls.mono (cpinNo_calls (s := ⟨s2.room, s2.l, s2.hits, IntKind.i64.wrap (ms + 1)⟩) r (Ch.pl_none.2 hne) ((hels3.mono mono_Hd hg4).mono mono_Hd hg5) hb2 (hw.sub (by (repeat (first | with_reducible exact Sub.refl _ | exact Sub.nil _ | (apply Sub.cons; focus ((repeat (first | with_reducible exact Pick.here _ | apply Pick.there)); (first | done | fail))) | with_reducible apply Sub.drop)); first | done | fail))) ?_; rintro _ w ⟨rfl, hw⟩; refine ⟨_, rfl, ?_⟩; refine ⟨fun hn => absurd (by decide) hn, ?_⟩) | (refine rs_koff 10 rfl (by first | exact met_off rfl rfl rfl rfl rfl | exact met_gone rfl rfl rfl rfl) rfl rfl ?_)
              first | (refine rs_kvg 11 rfl (met_on rfl rfl rfl rfl) rfl rfl (S' := fun _ => True) trivial (v_neqT rfl rfl (by omega)) ?_) | (refine rs_kvg 11 rfl (met_on rfl rfl rfl rfl) rfl rfl (S' := fun _ => True) trivial (v_neqF rfl rfl (by first | omega | rfl)) ?_) | (refine rs_kvg 11 rfl (met_on rfl rfl rfl rfl) rfl rfl (S' := fun _ => True) trivial (v_neq rfl rfl) ?_) | (refine rs_koff 11 rfl (by first | exact met_off rfl rfl rfl rfl rfl | exact met_gone rfl rfl rfl rfl) rfl rfl ?_)
              first | (refine rs_kv 12 rfl rfl rfl rfl (S' := fun _ => True) trivial (v_pick_true rfl rfl) ?_) | (refine rs_kv 12 rfl rfl rfl rfl (S' := fun _ => True) trivial (v_pick_false rfl rfl) ?_) | (refine rs_kv 12 rfl rfl rfl rfl (S' := fun _ => True) trivial (v_pick rfl rfl rfl) ?_)
              refine rs_done (g_le (Fr.le_keep (Fr.le_keep (Fr.le_keep (Fr.le_keep (Fr.le_keep (Fr.le_keep (Fr.le_keep (Fr.le_keep (Fr.le_keep (Fr.le_keep (Fr.le_keep (Fr.le_keep (Fr.le_keep (Fr.le_refl _)))))))))))))) ?_)
              refine g_cond_false rfl ?_
              refine g_skip (g_inBlock ?_)
              refine g_region ?_
              first | (refine rl_v rfl rfl rfl (S := fun _ => True) trivial (v_add rfl rfl (by omega)) ?_) | (refine rl_v rfl rfl rfl (S := fun _ => True) trivial (v_addW rfl rfl) ?_)
              refine rl_v rfl rfl rfl (S := fun _ => True) trivial (v_move rfl) ?_
              refine rl_nil (g_le (Fr.le_keep (Fr.le_keep (Fr.le_refl _))) ?_)
              exact g_le (by repeat (first | exact Fr.le_nil _ | refine Fr.le_cons rfl ?_)) (ih2 (j + 1, IntKind.i64.wrap (ms + 1), g5) w ⟨by simp only; omega, by simp only; omega, hg4.trans hg5, hw.sub (by (repeat (first | with_reducible exact Sub.refl _ | exact Sub.nil _ | (apply Sub.cons; focus ((repeat (first | with_reducible exact Pick.here _ | apply Pick.there)); (first | done | fail))) | with_reducible apply Sub.drop)); first | done | fail)⟩ (by simp only; omega))
          · try with_reducible exact tf_elim h5
            all_goals
              try replace h5 := of_decide_eq_false h5
              refine g_exit rfl (g_seq (g_seq ?_))
              refine g_region ?_
              refine rl_v rfl rfl rfl (S := fun _ => True) trivial (v_move rfl) ?_
              first | (refine rl_v rfl rfl rfl (S := fun _ => True) trivial (v_lssT rfl rfl (by omega)) ?_) | (refine rl_v rfl rfl rfl (S := fun _ => True) trivial (v_lssF rfl rfl (by omega)) ?_) | (refine rl_v rfl rfl rfl (S := fun _ => True) trivial (v_lss rfl rfl) ?_)
              refine rl_v rfl rfl rfl (S := fun _ => True) trivial (v_move rfl) ?_
              first | (refine rl_vg (met_on rfl rfl rfl rfl) rfl rfl (S := fun _ => True) trivial (v_move rfl) ?_) | (refine rl_off (by first | exact met_off rfl rfl rfl rfl rfl | exact met_gone rfl rfl rfl rfl) rfl rfl ?_)
              first | (refine rl_kg (met_on rfl rfl rfl rfl) (k_callf Try.func18 rfl rfl rfl rfl ?_); refine Calls.mono (ckept_calls (s := ⟨s2.room, s2.l, s2.hits, ms⟩) (hw.sub (by (repeat (first | with_reducible exact Sub.refl _ | exact Sub.nil _ | (apply Sub.cons; focus ((repeat (first | with_reducible exact Pick.here _ | apply Pick.there)); (first | done | fail))) | with_reducible apply Sub.drop)); first | done | fail))) ?_; dsimp only; rintro _ w ⟨rfl, hw⟩; refine ⟨_, rfl, ?_⟩) | (refine rl_off (by first | exact met_off rfl rfl rfl rfl rfl | exact met_gone rfl rfl rfl rfl) rfl rfl ?_)
              first | (refine rl_vg (met_on rfl rfl rfl rfl) rfl rfl (S := fun _ => True) trivial (v_move rfl) ?_) | (refine rl_off (by first | exact met_off rfl rfl rfl rfl rfl | exact met_gone rfl rfl rfl rfl) rfl rfl ?_)
              first | (refine rl_vg (met_on rfl rfl rfl rfl) rfl rfl (S := fun _ => True) trivial (v_move rfl) ?_) | (refine rl_off (by first | exact met_off rfl rfl rfl rfl rfl | exact met_gone rfl rfl rfl rfl) rfl rfl ?_)
              first | (refine rl_vg (met_on rfl rfl rfl rfl) rfl rfl (S := fun _ => True) trivial (v_sub rfl rfl (by omega)) ?_) | (refine rl_vg (met_on rfl rfl rfl rfl) rfl rfl (S := fun _ => True) trivial (v_subW rfl rfl) ?_) | (refine rl_off (by first | exact met_off rfl rfl rfl rfl rfl | exact met_gone rfl rfl rfl rfl) rfl rfl ?_)
              first | (refine rl_vg (met_on rfl rfl rfl rfl) rfl rfl (S := fun _ => True) trivial (v_neqT rfl rfl (by omega)) ?_) | (refine rl_vg (met_on rfl rfl rfl rfl) rfl rfl (S := fun _ => True) trivial (v_neqF rfl rfl (by first | omega | rfl)) ?_) | (refine rl_vg (met_on rfl rfl rfl rfl) rfl rfl (S := fun _ => True) trivial (v_neq rfl rfl) ?_) | (refine rl_off (by first | exact met_off rfl rfl rfl rfl rfl | exact met_gone rfl rfl rfl rfl) rfl rfl ?_)
              first | (refine rl_v rfl rfl rfl (S := fun _ => True) trivial (v_pick_true rfl rfl) ?_) | (refine rl_v rfl rfl rfl (S := fun _ => True) trivial (v_pick_false rfl rfl) ?_) | (refine rl_v rfl rfl rfl (S := fun _ => True) trivial (v_pick rfl rfl rfl) ?_)
              refine rl_nil (g_le (Fr.le_keep (Fr.le_skip rfl (Fr.le_skip rfl (Fr.le_skip rfl (Fr.le_skip rfl (Fr.le_skip rfl (Fr.le_skip rfl (Fr.le_skip rfl (Fr.le_skip rfl (Fr.le_skip rfl (Fr.le_refl _))))))))))) ?_)
              refine g_cond_false rfl ?_
              refine g_skip (g_seq ?_)
              refine g_region ?_
              refine rl_v rfl rfl rfl (S := fun _ => True) trivial (v_move rfl) ?_
              refine rl_k rfl (k_callf Try.func22 rfl rfl rfl rfl ?_)
              refine Calls.mono (cwipe_calls (s := ⟨s2.room, s2.l, s2.hits, ms⟩) (hw.sub (by (repeat (first | with_reducible exact Sub.refl _ | exact Sub.nil _ | (apply Sub.cons; focus ((repeat (first | with_reducible exact Pick.here _ | apply Pick.there)); (first | done | fail))) | with_reducible apply Sub.drop)); first | done | fail))) ?_
              dsimp only
              rintro _ w ⟨rfl, hw⟩
              refine ⟨_, rfl, ?_⟩
              refine rl_nil (g_le (Fr.le_skip rfl (Fr.le_skip rfl (Fr.le_refl _))) ?_)
              refine g_seq ?_
              refine g_region ?_
              refine rl_v rfl rfl rfl (S := fun _ => True) trivial (v_move rfl) ?_
              refine rl_k rfl (k_callf Try.func11 rfl rfl rfl rfl ?_)
              refine Calls.mono (of_calls _ hw) ?_
              rintro _ w ⟨rfl, hw⟩
              refine ⟨_, rfl, ?_⟩
              refine rl_v rfl rfl rfl (S := fun _ => True) trivial (v_build rfl (T.build_25_0 ..)) ?_
              refine rl_k rfl (k_callf Try.func10 rfl rfl rfl rfl ?_)
              have hput := put_room (s := ⟨s2.room, [], s2.hits, ms⟩) (r := ofR 1) (n := ⟨true, [], []⟩) (by simp [Ch.pl, idx]) (by simp only [List.length_nil]; omega)
              refine Calls.mono (cput_calls (s := ⟨s2.room, [], s2.hits, ms⟩) (ofR 1) (ofR_ok _) (n := ⟨true, [], []⟩) (g := g4) ⟨_, _, _, rfl, rfl, rdSl_nil _, rdSl_nil _⟩ Els.nil (by simp) (hw.sub (by (repeat (first | with_reducible exact Sub.refl _ | exact Sub.nil _ | (apply Sub.cons; focus ((repeat (first | with_reducible exact Pick.here _ | apply Pick.there)); (first | done | fail))) | with_reducible apply Sub.drop)); first | done | fail))) ?_
              rw [hput]
              rintro _ w ⟨g5, lv5, cells5, hg5, rfl, hels5, hw⟩
              refine ⟨_, rfl, ?_⟩
              refine rl_v rfl rfl rfl (S := fun _ => True) trivial (v_assign rfl) ?_
              refine rl_nil (g_le (Fr.le_keep (Fr.le_skip rfl (Fr.le_skip rfl (Fr.le_skip rfl (Fr.le_skip rfl (Fr.le_refl _)))))) ?_)
              refine g_seq ?_
              refine g_region ?_
              refine rl_v rfl rfl rfl (S := fun _ => True) trivial (v_move rfl) ?_
              first | (refine rl_v rfl rfl rfl (S := fun _ => True) trivial (v_eqlT rfl rfl (by first | omega | rfl)) ?_) | (refine rl_v rfl rfl rfl (S := fun _ => True) trivial (v_eqlF rfl rfl (by omega)) ?_) | (refine rl_v rfl rfl rfl (S := fun _ => True) trivial (v_eql rfl rfl) ?_)
              refine rl_v rfl rfl rfl (S := fun _ => True) trivial (v_move rfl) ?_
              first | (refine rl_vg (met_on rfl rfl rfl rfl) rfl rfl (S := fun _ => True) trivial (v_move rfl) ?_) | (refine rl_off (by first | exact met_off rfl rfl rfl rfl rfl | exact met_gone rfl rfl rfl rfl) rfl rfl ?_)
              first | (refine rl_kg (met_on rfl rfl rfl rfl) (k_callf Try.func18 rfl rfl rfl rfl ?_); refine Calls.mono (ckept_calls (s := ⟨s2.room, [] ++ [⟨ofR 1, ⟨true, [], []⟩, 0⟩], s2.hits, ms⟩) (hw.sub (by (repeat (first | with_reducible exact Sub.refl _ | exact Sub.nil _ | (apply Sub.cons; focus ((repeat (first | with_reducible exact Pick.here _ | apply Pick.there)); (first | done | fail))) | with_reducible apply Sub.drop)); first | done | fail))) ?_; dsimp only; rintro _ w ⟨rfl, hw⟩; refine ⟨_, rfl, ?_⟩) | (refine rl_off (by first | exact met_off rfl rfl rfl rfl rfl | exact met_gone rfl rfl rfl rfl) rfl rfl ?_)
              first | (refine rl_vg (met_on rfl rfl rfl rfl) rfl rfl (S := fun _ => True) trivial (v_eqlT rfl rfl (by first | omega | rfl)) ?_) | (refine rl_vg (met_on rfl rfl rfl rfl) rfl rfl (S := fun _ => True) trivial (v_eqlF rfl rfl (by omega)) ?_) | (refine rl_vg (met_on rfl rfl rfl rfl) rfl rfl (S := fun _ => True) trivial (v_eql rfl rfl) ?_) | (refine rl_off (by first | exact met_off rfl rfl rfl rfl rfl | exact met_gone rfl rfl rfl rfl) rfl rfl ?_)
              first | (refine rl_v rfl rfl rfl (S := fun _ => True) trivial (v_pick_true rfl rfl) ?_) | (refine rl_v rfl rfl rfl (S := fun _ => True) trivial (v_pick_false rfl rfl) ?_) | (refine rl_v rfl rfl rfl (S := fun _ => True) trivial (v_pick rfl rfl rfl) ?_)
              refine rl_v rfl rfl rfl (S := fun _ => True) trivial (v_assign rfl) ?_
              refine rl_nil (g_le (Fr.le_keep (Fr.le_skip rfl (Fr.le_skip rfl (Fr.le_skip rfl (Fr.le_skip rfl (Fr.le_skip rfl (Fr.le_skip rfl (Fr.le_skip rfl (Fr.le_refl _))))))))) ?_)
              refine g_ret1 Try.func4 rfl rfl ?_
              exact ⟨rfl, (hw.sub (by (repeat (first | with_reducible exact Sub.refl _ | exact Sub.nil _ | (apply Sub.cons; focus ((repeat (first | with_reducible exact Pick.here _ | apply Pick.there)); (first | done | fail))) | with_reducible apply Sub.drop)); first | done | fail) : Sat (envOf W) w [RO g5]).shrink ((hg.trans hg2).trans ((hg3.trans hg4).trans hg5))⟩
  · intro joinr1
    refine g_region ?_
    refine rl_v rfl rfl rfl (S := fun _ => True) trivial (v_move rfl) ?_
    first | (refine rl_v rfl rfl rfl (S := fun _ => True) trivial (v_lssT rfl rfl (by omega)) ?_) | (refine rl_v rfl rfl rfl (S := fun _ => True) trivial (v_lssF rfl rfl (by omega)) ?_) | (refine rl_v rfl rfl rfl (S := fun _ => True) trivial (v_lss rfl rfl) ?_)
    refine rl_v rfl rfl rfl (S := fun _ => True) trivial (v_move rfl) ?_
    refine rl_split (s := 20) rfl (fun g1_2 => ?_) (fun g1_2 => ?_)
    · try with_reducible exact ft_elim g1_2
      all_goals
        try replace g1_2 := of_decide_eq_true g1_2
        refine rl_off (met_off rfl rfl rfl rfl rfl) rfl rfl ?_
        refine rl_off (met_off rfl rfl rfl rfl rfl) rfl rfl ?_
        first | (refine rl_v rfl rfl rfl (S := fun _ => True) trivial (v_pick_true rfl rfl) ?_) | (refine rl_v rfl rfl rfl (S := fun _ => True) trivial (v_pick_false rfl rfl) ?_) | (refine rl_v rfl rfl rfl (S := fun _ => True) trivial (v_pick rfl rfl rfl) ?_)
        refine rl_nil (g_le (Fr.le_keep (Fr.le_skip rfl (Fr.le_skip rfl (Fr.le_skip rfl (Fr.le_skip rfl (Fr.le_skip rfl (Fr.le_skip rfl (Fr.le_refl _)))))))) ?_)
        refine g_cond_true rfl ?_
        refine g_region ?_
        refine rl_v rfl rfl rfl (S := fun _ => True) trivial (v_assign rfl) ?_
        refine rl_nil (g_le (Fr.le_keep (Fr.le_refl _)) ?_)
        exact joinr1 _ _ _ (by repeat (first | exact Fr.le_nil _ | refine Fr.le_cons rfl ?_)) ⟨by omega, by omega, hw⟩
    · try with_reducible exact tf_elim g1_2
      all_goals
        try replace g1_2 := of_decide_eq_false g1_2
        refine rl_vg (met_on rfl rfl rfl rfl) rfl rfl (S := fun _ => True) trivial (v_move rfl) ?_
        first | (refine rl_vg (met_on rfl rfl rfl rfl) rfl rfl (S := fun _ => True) trivial (v_gtrT rfl rfl (by omega)) ?_) | (refine rl_vg (met_on rfl rfl rfl rfl) rfl rfl (S := fun _ => True) trivial (v_gtrF rfl rfl (by omega)) ?_) | (refine rl_vg (met_on rfl rfl rfl rfl) rfl rfl (S := fun _ => True) trivial (v_gtr rfl rfl) ?_)
        first | (refine rl_v rfl rfl rfl (S := fun _ => True) trivial (v_pick_true rfl rfl) ?_) | (refine rl_v rfl rfl rfl (S := fun _ => True) trivial (v_pick_false rfl rfl) ?_) | (refine rl_v rfl rfl rfl (S := fun _ => True) trivial (v_pick rfl rfl rfl) ?_)
        refine rl_nil (g_le (Fr.le_keep (Fr.le_skip rfl (Fr.le_skip rfl (Fr.le_skip rfl (Fr.le_skip rfl (Fr.le_skip rfl (Fr.le_skip rfl (Fr.le_refl _)))))))) ?_)
        refine g_cond rfl (fun h1 => ?_) (fun h1 => ?_)
        · try with_reducible exact ft_elim h1
          all_goals
            try replace h1 := of_decide_eq_true h1
            refine g_region ?_
            refine rl_v rfl rfl rfl (S := fun _ => True) trivial (v_assign rfl) ?_
            refine rl_nil (g_le (Fr.le_keep (Fr.le_refl _)) ?_)
            exact joinr1 _ _ _ (by repeat (first | exact Fr.le_nil _ | refine Fr.le_cons rfl ?_)) ⟨by omega, by omega, hw⟩
        · try with_reducible exact tf_elim h1
          all_goals
            try replace h1 := of_decide_eq_false h1
            refine g_skip ?_
            exact joinr1 _ _ _ (by repeat (first | exact Fr.le_nil _ | refine Fr.le_cons rfl ?_)) ⟨by omega, by omega, hw⟩

set_option maxRecDepth 100000 in
theorem CacheWiped_lifted (os : Os) (started : os.Started) (H : Type) (enc : TypeId × Value → H) :
    ReturnsInHanded {} Try.checked os 4 .any (Rows.cacheWipedSpec.pre6 enc Try.prog Try.f4 Rows.cacheWipedRow.domain false) (Rows.cacheWipedSpec.post enc Try.prog Try.f4 false true false false) := by
  refine returnsInHanded_of_change_sized (C := Try.checked) T.own started (by kernel_rfl) Try.func4
    (ChangeSpec.witness6 (enc := enc) (C := Try.checked) false ⟨#[], #[(.int .i64 0), (.slice none 0 0), (.slice none 0 0)], []⟩ 8 (by kernel_rfl) (by kernel_rfl) (by kernel_rfl) (by kernel_rfl)) ?_
  intro W base args ds gs before hval0 hW hcnd hsz0 _
  have hval : ∀ (j : Nat) t v, Try.f4.params[j]? = some t → args[j]? = some v → Value.okWide Try.prog W .any base t v := hval0
  have hW' := hW
  obtain ⟨p, q, hA0, hV, rfl, hfz, hnd⟩ := hW
  have hA : DataW.TrodAll enc Try.prog W 0 (fun _ => true) true Try.f4.params.toList args.toList ds p := hA0
  obtain ⟨rfl, rfl⟩ := trodVars_none hV
  have hsz : (DataW.weightsEach Try.prog (Try.f4.params.toList ++ []) (ds ++ [])).all (· ≤ reachBytes) = true := hsz0
  rw [List.append_nil, List.append_nil] at hsz
  rw [Try.params4] at hA hval hsz
  obtain ⟨v0, vs0, d0, ds0, p0, q0, hargs, rfl, rfl, h0, r0⟩ := trodAll_cons hA
  obtain ⟨v1, vs1, d1, ds1, p1, q1, rfl, rfl, rfl, h1, r1⟩ := trodAll_cons r0
  obtain ⟨v2, vs2, d2, ds2, p2, q2, rfl, rfl, rfl, h2, r2⟩ := trodAll_cons r1
  obtain ⟨rfl, rfl, rfl⟩ := trodAll_nil r2
  obtain rfl : args = #[v0, v1, v2] := by cases args; simp_all
  have lt0 : ∀ x ∈ p0, x.block < W.heap.size := by obtain ⟨m, hm⟩ := h0; exact DataW.trod_lt m _ _ _ hm
  obtain ⟨x0, w0⟩ := arg_of (j := 0) (reads_int T.int_3_i64) h0 hsz rfl rfl
  have lt1 : ∀ x ∈ p1, x.block < W.heap.size := by obtain ⟨m, hm⟩ := h1; exact DataW.trod_lt m _ _ _ hm
  obtain ⟨x1, w1⟩ := arg_of (j := 1) (reads_sl T.sl_45_49_6 T.bytes_49_96 (by decide) reads_Op) h1 hsz rfl rfl
  have lt2 : ∀ x ∈ p2, x.block < W.heap.size := by obtain ⟨m, hm⟩ := h2; exact DataW.trod_lt m _ _ _ hm
  obtain ⟨x2, w2⟩ := arg_of (j := 2) (reads_sl T.sl_46_3_1 T.bytes_3_8 (by decide) (reads_int T.int_3_i64)) h2 hsz rfl rfl
  obtain ⟨n0, rfl⟩ := okWide_int Try.underlying3 (hval 0 3 v0 rfl rfl)
  obtain ⟨a1, l1, c1, rfl⟩ := okWide_slice Try.underlying45 (hval 1 45 v1 rfl rfl)
  obtain ⟨a2, l2, c2, rfl⟩ := okWide_slice Try.underlying46 (hval 2 46 v2 rfl rfl)
  obtain ⟨hc0, hr0⟩ := w0
  cases hc0
  refine (CacheWiped_law hr0 w1 w2).mono fun e W' ⟨he, hb⟩ => ?_
  have bel := hb.below
  subst he
  exact ⟨_, rfl, _, _, _, [], _, [], hW', trodAll_mk1 (shut_bool Try.underlying4 _), (trodAll_cons_mk (Below.trod T.laidOut (by kernel_rfl) (of_decide_eq_true (by kernel_rfl)) h0 bel lt0) (trodAll_cons_mk (Below.trod T.laidOut (by kernel_rfl) (of_decide_eq_true (by kernel_rfl)) h1 bel lt1) (trodAll_cons_mk (Below.trod T.laidOut (by kernel_rfl) (of_decide_eq_true (by kernel_rfl)) h2 bel lt2) trodAll_mk0))), rfl, bel.frame _, fun h => by cases h⟩
theorem CacheWiped_holds : Rows.CacheWipedSaid :=
  OpenClaim.holds_of_wide 4 Try.f4 rfl rfl rfl rfl rfl rfl rfl ⟨rfl, rfl, rfl, rfl, rfl⟩ rfl rfl rfl rfl rfl (by kernel_rfl) Try.func4 (by kernel_rfl)
    (of_decide_eq_true (by kernel_rfl)) (by unfold Func.isWrapper; rw [if_neg (of_decide_eq_false (by kernel_rfl))]; exact ⟨rfl, rfl⟩)
    (fun os started H enc _ => CacheWiped_lifted os started H enc)
#print axioms CacheWiped_holds
end Go.Proofs.Ytnkddbbcfolcdaa
