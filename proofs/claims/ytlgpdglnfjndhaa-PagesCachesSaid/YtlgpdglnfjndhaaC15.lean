/-
  The cache (layer 15): what each of its calls does.
-/
import Derived.Test.YtlgpdglnfjndhaaN06f
namespace Go.Proofs.Ytlgpdglnfjndhaa
set_option maxRecDepth 8000
set_option linter.unusedSimpArgs false
set_option linter.unusedVariables false
open Go Xe
structure Hd where
  ref : Rf
  node : Nd
  pins : Int
instance : DecidableEq Hd := fun a b => decidable_of_iff (a.ref = b.ref ∧ a.node = b.node ∧ a.pins = b.pins) (by cases a; cases b; simp)
def rdHd : Rd Hd := fun w cs x => ∃ c0 c1 c2 c3 c4 c5 c6 c7, cs = [c0, c1, c2, c3, c4, c5, c6, c7] ∧ rdRf w [c0, c1, c2, c3] x.ref ∧ rdNd w [c4, c5, c6] x.node ∧ (rdInt .i64) w [c7] x.pins
theorem mono_Hd : Rd.Mono rdHd := fun l cs x h => by
  obtain ⟨c0, c1, c2, c3, c4, c5, c6, c7, rfl, h0, h1, h2⟩ := h
  exact ⟨_, _, _, _, _, _, _, _, rfl, mono_Rf l h0, mono_Nd l h1, mono_int l h2⟩
theorem one_Hd : Rd.One rdHd := fun h => by
  obtain ⟨c0, c1, c2, c3, c4, c5, c6, c7, rfl, h0, h1, h2⟩ := h
  intro u hu
  simp only [List.mem_cons, List.not_mem_nil, or_false] at hu
  rcases hu with rfl | rfl | rfl | rfl | rfl | rfl | rfl | rfl
  · exact one_Rf h0 _ (by simp)
  · exact one_Rf h0 _ (by simp)
  · exact one_Rf h0 _ (by simp)
  · exact one_Rf h0 _ (by simp)
  · exact one_Nd h1 _ (by simp)
  · exact one_Nd h1 _ (by simp)
  · exact one_Nd h1 _ (by simp)
  · exact one_int h2 _ (by simp)
structure Ch where
  room : Int
  l : List Hd
  hits : Int
  misses : Int
/-- The first place from i on where p holds. -/
def idx {α : Type} (p : α → Bool) : List α → Int → Int
  | [], _ => -1
  | x :: xs, i => if p x = true then i else idx p xs (i + 1)
theorem idx_bound {α : Type} {p : α → Bool} : ∀ {l : List α} {i : Int}, 0 ≤ i → -1 ≤ idx p l i ∧ idx p l i < i + l.length ∧ (0 ≤ idx p l i → i ≤ idx p l i)
  | [], i, h => by simp [idx]; omega
  | x :: xs, i, h => by
    simp only [idx]
    split
    · simp only [List.length_cons]; omega
    · have := idx_bound (p := p) (l := xs) (i := i + 1) (by omega)
      simp only [List.length_cons]; omega
/-- An element of the cache's row: its cells. -/
theorem hd_cells {g : Hp} {cells : List Value} {l : List Hd} {x : Hd} {i : Nat} (h : Els rdHd 8 g cells l) (hx : l[i]? = some x) :
    ∃ ea en ec ka kn kc, SubAt cells (0 + i * 8) [.int .u64 (x : Hd).ref.key, .int .i64 (x : Hd).ref.seg, .int .i64 (x : Hd).ref.off, .int .i64 (x : Hd).ref.len, .bool (x : Hd).node.leaf, .slice ea en ec, .slice ka kn kc, .int .i64 (x : Hd).pins] ∧
      rdHd g [.int .u64 (x : Hd).ref.key, .int .i64 (x : Hd).ref.seg, .int .i64 (x : Hd).ref.off, .int .i64 (x : Hd).ref.len, .bool (x : Hd).node.leaf, .slice ea en ec, .slice ka kn kc, .int .i64 (x : Hd).pins] x ∧ rdNd g [.bool x.node.leaf, .slice ea en ec, .slice ka kn kc] x.node ∧ x.ref.ok ∧ 0 + i * 8 + 8 ≤ cells.length := by
  obtain ⟨h1, h2⟩ := h.at hx
  obtain ⟨c0, c1, c2, c3, c4, c5, c6, c7, hc, ⟨r1, r2⟩, hn, ⟨p1, p2⟩⟩ := id h1
  obtain ⟨n4, n5, n6, hq, e4, n7, n8⟩ := id hn
  simp only [List.cons.injEq, and_true] at r1 p1 hq
  obtain ⟨rfl, rfl, rfl, rfl⟩ := r1
  obtain ⟨rfl, rfl, rfl⟩ := hq
  simp only [rdBool, List.cons.injEq, and_true] at e4
  subst p1 e4
  obtain ⟨ea, en, ec, rfl⟩ := rdSl_shape n7
  obtain ⟨ka, kn, kc, rfl⟩ := rdSl_shape n8
  exact ⟨ea, en, ec, ka, kn, kc, subAt_of hc, hc ▸ h1, hn, r2, by omega⟩
theorem indexFunc_calls {E : Env} {w : World} {L : List As} {g : Hp} {a : Option Addr} {n c : Nat} {cells : List Value} {l : List Hd} {f : Value} (p : Hd → Bool) (hels : Els rdHd 8 g cells l) (hn : n = l.length) (hb : l.length ≤ 100000)
    (hcl : ∀ (x : Hd) (ecs : List Value) (w : World), rdHd g ecs x → Sat E w (OwnSl 119 8 (.slice a n c) n cells :: RO g :: L) → CallsV Try.prog f #[.agg ecs.toArray] w fun e w' => e = .returned (.bool (p x)) ∧ Sat E w' (OwnSl 119 8 (.slice a n c) n cells :: RO g :: L))
    (hw : Sat E w (OwnSl 119 8 (.slice a n c) n cells :: RO g :: L)) :
    Calls Try.prog 53 #[.slice a n c, f] w fun e w' => e = .returned (.int .i64 (idx p l 0)) ∧ Sat E w' (OwnSl 119 8 (.slice a n c) n cells :: RO g :: L) := by
  obtain ⟨a', c', hv, _, _, ha⟩ := hw.own_shape
  simp only [Value.slice.injEq] at hv
  obtain ⟨rfl, _, rfl⟩ := hv
  refine calls_of_g (n := 19) Try.func53 rfl rfl rfl ?_
  change G _ _ _ _ _ [(0, _), (1, _)] _
  refine g_seq ?_
  refine g_region ?_
  refine xV rfl rfl rfl (v_assign rfl) ?_
  refine rl_nil (g_le (xK (Fr.le_refl _)) ?_)
  refine g_seq (g_seq ?_)
  refine g_region ?_
  refine xV rfl rfl rfl (v_move rfl) ?_
  refine xV rfl rfl rfl (v_lenSlice T.sl_102_119_8 rfl) ?_
  refine xV rfl rfl rfl (v_move rfl) ?_
  refine rl_nil (g_le (xK (xK (xS rfl (Fr.le_refl _)))) ?_)
  refine g_block ?_
  refine g_loopC (σ := Int) (fun C x => (8, .int .i64 x) :: C) [(0, _), (1, _), (4, _), (7, _)] (by repeat (first | exact Fr.le_nil _ | refine Fr.le_cons rfl ?_)) (fun z w => 0 ≤ z ∧ z ≤ n ∧ idx p l 0 = idx p (l.drop z.toNat) z ∧ Sat E w (OwnSl 119 8 (.slice a n c) n cells :: RO g :: L)) (fun z => (n - z).toNat) ?_ 0 (by repeat (first | exact Fr.le_nil _ | refine Fr.le_cons rfl ?_)) ⟨by omega, by omega, by simp, hw⟩
  rintro i w ⟨hi0, hi1, heq, hw⟩ ih
  refine g_seq ?_
  refine g_region ?_
  refine xV rfl rfl rfl (v_lss rfl rfl) ?_
  refine rl_nil (g_le (xK (Fr.le_refl _)) ?_)
  refine g_seq ?_
  refine g_cond rfl (fun h1 => ?_) (fun h1 => ?_)
  · try with_reducible exact ft_elim h1
    all_goals
      try replace h1 := of_decide_eq_true h1
      refine g_skip (g_seq (g_block (g_seq ?_)))
      have hz := hw
      clear hw
      obtain ⟨gb, rfl⟩ := ha (by omega)
      have hlt : i.toNat < l.length := by omega
      have hx : l[i.toNat]? = some l[i.toNat] := List.getElem?_eq_getElem hlt
      obtain ⟨ea, en, ec, ka, kn, kc, hsub, hrd, hnd, hok, hle⟩ := hd_cells hels hx
      rw [List.drop_eq_getElem_cons hlt] at heq
      simp only [idx] at heq
      generalize hy : l[i.toNat] = y at *
      have hw := hz
      refine g_region ?_
      refine xV rfl rfl rfl (v_move rfl) ?_
      refine xV rfl rfl rfl (v_assign rfl) ?_
      refine rl_nil (g_le (xK (xK (Fr.le_refl _))) ?_)
      refine g_seq ?_
      refine g_region ?_
      refine xV rfl rfl rfl (v_move rfl) ?_
      refine xV rfl rfl rfl (v_move rfl) ?_
      refine xV rfl rfl rfl (v_move rfl) ?_
      refine xV rfl rfl rfl (v_indexAddr T.sl_102_119_8 rfl rfl (by omega) (by omega)) ?_
      refine rl_v rfl rfl rfl (by exact own_cells hw (by (repeat first | with_reducible exact xH | apply xT); first | done | fail) (by assumption)) (v_loadAgg (vs := [_, _, _, _, _, _, _, _]) T.agg_119_8 rfl rfl) ?_
      refine rl_k rfl (k_callv rfl rfl rfl ?_)
      refine CallsV.mono (hcl y _ w hrd hw) ?_
      rintro _ w ⟨rfl, hw⟩
      refine ⟨_, rfl, ?_⟩
      refine rl_nil (g_le (xK (xK (xK (xK (xK (xK (Fr.le_refl _))))))) ?_)
      refine g_cond rfl (fun h2 => ?_) (fun h2 => ?_)
      · try with_reducible exact ft_elim h2
        all_goals
          try replace h2 := of_decide_eq_true h2
          rw [if_pos h2] at heq
          refine g_seq ?_
          refine g_region ?_
          refine xV rfl rfl rfl (v_move rfl) ?_
          refine xV rfl rfl rfl (v_assign rfl) ?_
          refine rl_nil (g_le (xK (xK (Fr.le_refl _))) ?_)
          refine g_ret1 Try.func53 rfl rfl ?_
          exact ⟨by rw [heq], hw⟩
      · try with_reducible exact tf_elim h2
        all_goals
          try replace h2 := of_decide_eq_false h2
          rw [if_neg (by simp [h2])] at heq
          refine g_skip (g_inBlock ?_)
          refine g_region ?_
          refine xV rfl rfl rfl (v_add rfl rfl (by omega)) ?_
          refine xV rfl rfl rfl (v_move rfl) ?_
          refine rl_nil (g_le (xK (xK (Fr.le_refl _))) ?_)
          exact g_le (by repeat (first | exact Fr.le_nil _ | refine Fr.le_cons rfl ?_)) (ih (i + 1) w ⟨by omega, by omega, by rw [heq, show (i + 1).toNat = i.toNat + 1 by omega], hw⟩ (by omega))
  · try with_reducible exact tf_elim h1
    all_goals
      try replace h1 := of_decide_eq_false h1
      refine g_exit rfl (g_seq ?_)
      refine g_region ?_
      refine xV rfl rfl rfl (v_assign rfl) ?_
      refine rl_nil (g_le (xK (Fr.le_refl _)) ?_)
      refine g_ret1 Try.func53 rfl rfl ?_
      refine ⟨?_, hw⟩
      rw [heq, List.drop_eq_nil_of_le (by omega)]
      rfl
theorem atClo_calls {E : Env} {w : World} {L L' : List As} {g : Hp} {ecs : List Value} {x : Hd} (b : Nat) (r : Rf) (hp : Pick (pt b (.cells r.cells.toArray 51 (0, 0))) L L') (h : rdHd g ecs x) (hw : Sat E w L) :
    Calls Try.prog 76 #[.agg ecs.toArray, .pointer (some ⟨b, 0, none⟩)] w fun e w' => e = .returned (.bool (decide (x.ref = r))) ∧ Sat E w' L := by
  obtain ⟨c0, c1, c2, c3, c4, c5, c6, c7, rfl, ⟨r1, r2⟩, hn, ⟨p1, p2⟩⟩ := id h
  simp only [List.cons.injEq, and_true] at r1 p1
  obtain ⟨rfl, rfl, rfl, rfl⟩ := r1
  subst p1
  have hw := hw.pick hp
  refine calls_of_g (n := 8) Try.func76 rfl rfl rfl ?_
  change G _ _ _ _ _ [(0, _), (1, _)] _
  refine g_seq ?_
  refine g_region ?_
  refine rl_k rfl (k_box hw rfl rfl rfl (fun bk0_0 w hw => ?_))
  refine xV rfl rfl rfl (v_assign rfl) ?_
  refine rl_nil (g_le (xK (xK (Fr.le_refl _))) ?_)
  refine g_seq ?_
  refine g_region ?_
  refine xV rfl rfl rfl (v_fieldAddr0 T.fld_119_0_0 rfl) ?_
  refine rl_v rfl rfl rfl (by exact sat_cells hw (by (repeat first | with_reducible exact xH | apply xT); first | done | fail) ⟨rfl, rfl, rfl, rfl, trivial⟩) (v_loadAgg (vs := [_, _, _, _]) T.agg_51_4 rfl rfl) ?_
  refine rl_v rfl rfl rfl (by exact sat_cells hw (by (repeat first | with_reducible exact xH | apply xT); first | done | fail) ⟨rfl, rfl, rfl, rfl, trivial⟩) (v_loadAgg (vs := [_, _, _, _]) T.agg_51_4 rfl rfl) ?_
  refine xV rfl rfl rfl (v_eqlAgg T.cmp_51_iiii rfl rfl rfl rfl (by exact eq_Rf _ _)) ?_
  refine xV rfl rfl rfl (v_assign rfl) ?_
  refine rl_nil (g_le (xK (xS rfl (xS rfl (xS rfl (xS rfl (Fr.le_refl _)))))) ?_)
  refine g_ret1 Try.func76 rfl rfl ?_
  exact ⟨rfl, (hw.xQ : Sat E w (pt b (.cells r.cells.toArray 51 (0, 0)) :: L')).unpick hp⟩
theorem cat_calls {E : Env} {w : World} {L : List As} {g : Hp} {c : Nat} {s : Ch} {lv : Value} {cells : List Value} (r : Rf) (hels : Els rdHd 8 g cells s.l) (hb : s.l.length ≤ 100000) (hw : Sat E w (pt c (.cells [Value.int .i64 (s : Ch).room, lv, .int .i64 (s : Ch).hits, .int .i64 (s : Ch).misses].toArray 104 (0, 0)) :: OwnSl 119 8 lv (s : Ch).l.length cells :: RO g :: L)) :
    Calls Try.prog 51 #[.pointer (some ⟨c, 0, none⟩), .agg r.cells.toArray] w fun e w' => e = .returned (.int .i64 (idx (fun h => decide (h.ref = r)) s.l 0)) ∧ Sat E w' (pt c (.cells [Value.int .i64 (s : Ch).room, lv, .int .i64 (s : Ch).hits, .int .i64 (s : Ch).misses].toArray 104 (0, 0)) :: OwnSl 119 8 lv (s : Ch).l.length cells :: RO g :: L) := by
  obtain ⟨a, cc, rfl, _, _, _⟩ := (hw.pick .at1).own_shape
  refine calls_of_g (n := 11) Try.func51 rfl rfl rfl ?_
  change G _ _ _ _ _ [(0, _), (1, _)] _
  refine g_seq ?_
  refine g_region ?_
  refine rl_k rfl (k_box hw rfl rfl rfl (fun bk0_0 w hw => ?_))
  refine xV rfl rfl rfl (v_assign rfl) ?_
  refine rl_nil (g_le (xK (xK (Fr.le_refl _))) ?_)
  refine g_seq ?_
  refine g_region ?_
  refine xV rfl rfl rfl (v_move rfl) ?_
  refine xV rfl rfl rfl (v_nilCheck rfl) ?_
  refine xV rfl rfl rfl (v_fieldAddr0 T.fld_104_1_1 rfl) ?_
  refine rl_v rfl rfl rfl (by exact sat_cell hw (by (repeat first | with_reducible exact xH | apply xT); first | done | fail) rfl) (v_load T.scal_102 rfl) ?_
  refine xV rfl rfl rfl (v_makeFunc rfl rfl) ?_
  refine rl_k rfl (k_callf Try.func53 rfl rfl rfl rfl ?_)
  refine Calls.mono (indexFunc_calls (L := pt bk0_0 (.cells r.cells.toArray 51 (0, 0)) :: pt c (.cells [Value.int .i64 s.room, .slice a s.l.length cc, .int .i64 s.hits, .int .i64 s.misses].toArray 104 (0, 0)) :: L) (fun h => decide (h.ref = r)) hels rfl hb (fun x ecs w hx hw => CallsV.mk Try.func76 rfl rfl rfl (atClo_calls bk0_0 r .at2 hx hw)) (hw.xQ)) ?_
  rintro _ w ⟨rfl, hw⟩
  refine ⟨_, rfl, ?_⟩
  refine xV rfl rfl rfl (v_assign rfl) ?_
  refine rl_nil (g_le (xK (xS rfl (xS rfl (xS rfl (xS rfl (xS rfl (xS rfl (Fr.le_refl _)))))))) ?_)
  refine g_ret1 Try.func51 rfl rfl ?_
  exact ⟨rfl, hw.xQ⟩
theorem wipe_cells {cells vs z : List Value} {n i k : Nat} (hl : cells.length = n * 8) (hi : i < n) (hz : z.length = 8) (hk : k = n - 1 - i) (hv : vs = (cells.drop ((i + 1) * 8)).take (k * 8)) :
    let X := cells.take (0 + i * 8) ++ vs ++ cells.drop (0 + i * 8 + vs.length)
    (X.take (0 + (n - 1) * 8) ++ z ++ X.drop (0 + (n - 1) * 8 + 8)).take ((n - 1) * 8) = cells.take (i * 8) ++ cells.drop (i * 8 + 8) := by
  intro X
  have hvl : vs.length = k * 8 := by rw [hv, List.length_take, List.length_drop]; omega
  have hv2 : vs = cells.drop (i * 8 + 8) := by rw [hv, show (i + 1) * 8 = i * 8 + 8 by omega]; exact List.take_of_length_le (by rw [List.length_drop]; omega)
  have h1 : (cells.take (0 + i * 8) ++ vs).length = (n - 1) * 8 := by rw [List.length_append, List.length_take, hvl]; omega
  have h2 : X.take (0 + (n - 1) * 8) = cells.take (0 + i * 8) ++ vs := by
    rw [Nat.zero_add]; exact List.take_left' h1
  rw [h2, List.append_assoc, List.take_left' h1, hv2, Nat.zero_add]
theorem wipe_last {cells z : List Value} {n i : Nat} (hl : cells.length = n * 8) (hi : i + 1 = n) (hz : z.length = 8) :
    (cells.take (0 + (n - 1) * 8) ++ z ++ cells.drop (0 + (n - 1) * 8 + 8)).take ((n - 1) * 8) = cells.take (i * 8) ++ cells.drop (i * 8 + 8) := by
  have h1 : n - 1 = i := by omega
  rw [h1, Nat.zero_add, List.append_assoc, List.take_left' (by rw [List.length_take]; omega), List.drop_eq_nil_of_le (show cells.length ≤ i * 8 + 8 by omega), List.append_nil]
theorem ord_f52_r2_C15 : orderOfB Try.f52 2 [13] (.a 0 (.a 1 (.a 2 (.a 4 (.a 6 (.a 7 (.a 8 (.a 10 (.a 11 (.v 3 (.a 5 (.k 9 (.k 12 (.k 13 .done)))))))))))))) = true := by kernel_rfl
theorem ord_f52_r3_C15 : orderOfB Try.f52 3 [12] (.a 0 (.a 1 (.a 2 (.a 4 (.a 5 (.a 6 (.a 10 (.v 3 (.k 7 (.k 8 (.k 9 (.k 11 (.k 12 .done))))))))))))) = true := by kernel_rfl
theorem ord_f52_r4_C15 : orderOfB Try.f52 4 [14] (.a 0 (.a 1 (.a 2 (.a 3 (.a 5 (.a 6 (.a 7 (.v 4 (.k 8 (.k 9 (.k 10 (.k 11 (.k 12 (.k 13 (.k 14 .done))))))))))))))) = true := by kernel_rfl
theorem wipe_calls {E : Env} {w : World} {L : List As} {g : Hp} {c : Nat} {s : Ch} {lv : Value} {cells : List Value} {x : Hd} (i : Nat) (hels : Els rdHd 8 g cells s.l) (hb : s.l.length ≤ 100000) (hx : s.l[i]? = some x) (hw : Sat E w (pt c (.cells [Value.int .i64 (s : Ch).room, lv, .int .i64 (s : Ch).hits, .int .i64 (s : Ch).misses].toArray 104 (0, 0)) :: OwnSl 119 8 lv (s : Ch).l.length cells :: RO g :: L)) :
    Calls Try.prog 52 #[.pointer (some ⟨c, 0, none⟩), .int .i64 i] w fun e w' => ∃ lv' cells' ea en ec ka kn kc, e = .returned (.agg [.int .u64 (x : Hd).ref.key, .int .i64 (x : Hd).ref.seg, .int .i64 (x : Hd).ref.off, .int .i64 (x : Hd).ref.len, .bool (x : Hd).node.leaf, .slice ea en ec, .slice ka kn kc, .int .i64 (x : Hd).pins].toArray) ∧
      rdHd g [.int .u64 (x : Hd).ref.key, .int .i64 (x : Hd).ref.seg, .int .i64 (x : Hd).ref.off, .int .i64 (x : Hd).ref.len, .bool (x : Hd).node.leaf, .slice ea en ec, .slice ka kn kc, .int .i64 (x : Hd).pins] x ∧ Els rdHd 8 g cells' (s.l.eraseIdx i) ∧ Sat E w' (pt c (.cells [Value.int .i64 (⟨s.room, s.l.eraseIdx i, s.hits, s.misses⟩ : Ch).room, lv', .int .i64 (⟨s.room, s.l.eraseIdx i, s.hits, s.misses⟩ : Ch).hits, .int .i64 (⟨s.room, s.l.eraseIdx i, s.hits, s.misses⟩ : Ch).misses].toArray 104 (0, 0)) :: OwnSl 119 8 lv' (⟨s.room, s.l.eraseIdx i, s.hits, s.misses⟩ : Ch).l.length cells' :: RO g :: L) := by
  obtain ⟨a, cc, rfl, hcc, _, ha⟩ := (hw.pick .at1).own_shape
  have hi : i < s.l.length := (List.getElem?_eq_some_iff.1 hx).1
  obtain ⟨gb, rfl⟩ := ha (by omega)
  obtain ⟨ea, en, ec, ka, kn, kc, hsub, hrd, hnd, hok, hle⟩ := hd_cells hels hx
  have hlen := hels.len
  have hone := hels.ones one_Hd
  obtain ⟨k, hk⟩ : ∃ k, k = s.l.length - 1 - i := ⟨_, rfl⟩
  obtain ⟨vs, hvs⟩ : ∃ vs, vs = (cells.drop ((i + 1) * 8)).take (k * 8) := ⟨_, rfl⟩
  have hvl : vs.length = k * 8 := by rw [hvs, List.length_take, List.length_drop]; omega
  have hvo : ∀ u ∈ vs, u.oneCell' = true := fun u hu => hone u (List.mem_of_mem_drop (List.mem_of_mem_take (hvs ▸ hu)))
  have hvf : 0 + i * 8 + vs.length ≤ cells.length := by omega
  have hvk : Nat.min (s.l.length - (i + 1)) (s.l.length - i) = k := by show min _ _ = k; omega
  by_cases hlast : i + 1 = s.l.length
  · have hv0 : vs = [] := List.eq_nil_of_length_eq_zero (by omega)
    have hk0 : k = 0 := by omega
    clear hvf
    refine calls_of_g (n := 54) Try.func52 rfl rfl rfl ?_
    change G _ _ _ _ _ [(0, _), (1, _)] _
    refine g_seq ?_
    refine g_region ?_
    refine rl_k rfl (k_alloc hw T.zero_119 rfl rfl (fun bk0_0 w hw => ?_))
    refine rl_nil (g_le (xK (Fr.le_refl _)) ?_)
    refine g_seq ?_
    refine g_region ?_
    refine xV rfl rfl rfl (v_move rfl) ?_
    refine xV rfl rfl rfl (v_nilCheck rfl) ?_
    refine xV rfl rfl rfl (v_fieldAddr0 T.fld_104_1_1 rfl) ?_
    refine rl_v rfl rfl rfl (by exact sat_cell hw (by (repeat first | with_reducible exact xH | apply xT); first | done | fail) rfl) (v_load T.scal_102 rfl) ?_
    refine xV rfl rfl rfl (v_move rfl) ?_
    refine xV rfl rfl rfl (v_indexAddr T.sl_102_119_8 rfl rfl (by omega) (by omega)) ?_
    refine rl_v rfl rfl rfl (by exact own_cells hw (by (repeat first | with_reducible exact xH | apply xT); first | done | fail) (by assumption)) (v_loadAgg (vs := [_, _, _, _, _, _, _, _]) T.agg_119_8 rfl rfl) ?_
    refine rl_k rfl (k_alloc hw T.zero_119 rfl rfl (fun bk1_7 w hw => ?_))
    refine rl_k rfl (k_storeWhole hw T.agg_119_8 rfl rfl (by simp [Value.oneCell']) rfl (by (repeat first | with_reducible exact xH | apply xT); first | done | fail) rfl (fun w hw => ?_))
    refine rl_nil (g_le (xK (xS rfl (xS rfl (xS rfl (xS rfl (xS rfl (xS rfl (xS rfl (Fr.le_refl _))))))))) ?_)
    refine g_seq ?_
    refine g_drawR ord_f52_r2_C15 (by kernel_rfl) T.mixed hw (fun w hw => ?_)
    refine rs_a 0 rfl rfl rfl rfl (v_move rfl) ?_
    refine rs_a 1 rfl rfl rfl rfl (v_nilCheck rfl) ?_
    refine rs_a 2 rfl rfl rfl rfl (v_fieldAddr0 T.fld_104_1_1 rfl) ?_
    refine rs_a 4 rfl rfl rfl rfl (v_move rfl) ?_
    refine rs_a 6 rfl rfl rfl rfl (v_move rfl) ?_
    refine rs_a 7 rfl rfl rfl rfl (v_nilCheck rfl) ?_
    refine rs_a 8 rfl rfl rfl rfl (v_fieldAddr0 T.fld_104_1_1 rfl) ?_
    refine rs_a 10 rfl rfl rfl rfl (v_move rfl) ?_
    refine rs_a 11 rfl rfl rfl rfl (v_add rfl rfl (by omega)) ?_
    refine rs_v 3 rfl rfl rfl rfl (OpV.mono (v_load T.scal_102 rfl) (fun w hw => by exact sat_cell hw (by (repeat first | with_reducible exact xH | apply xT); first | done | fail) rfl)) (by exact hw) ?_
    refine rs_a 5 rfl rfl rfl rfl (v_sliceFrom T.sl_102_119_8 rfl rfl (by omega) (by omega) (by omega)) ?_
    refine rs_kv 9 rfl rfl rfl rfl (by exact sat_cell hw (by (repeat first | with_reducible exact xH | apply xT); first | done | fail) rfl) (v_load T.scal_102 rfl) ?_
    refine rs_kv 12 rfl rfl rfl rfl (S' := fun _ => True) trivial (v_sliceFromA T.sl_102_119_8 rfl rfl (by omega) (by omega) (by omega)) ?_
    refine rs_k 13 rfl rfl (k_copy0 T.sl_102_119_8 rfl rfl (by show min _ _ = 0; omega) rfl ?_)
    refine ⟨fun hn => absurd (by decide) hn, ?_⟩
    refine rs_done (g_le (xS rfl (xS rfl (xS rfl (xS rfl (xS rfl (xS rfl (xS rfl (xS rfl (xS rfl (xS rfl (xS rfl (xS rfl (xS rfl (xS rfl (Fr.le_refl _))))))))))))))) ?_)
    refine g_seq ?_
    try simp only [Int.toNat_natCast] at hw
    refine g_drawR ord_f52_r3_C15 (by kernel_rfl) T.mixed hw (fun w hw => ?_)
    refine rs_a 0 rfl rfl rfl rfl (v_move rfl) ?_
    refine rs_a 1 rfl rfl rfl rfl (v_nilCheck rfl) ?_
    refine rs_a 2 rfl rfl rfl rfl (v_fieldAddr0 T.fld_104_1_1 rfl) ?_
    refine rs_a 4 rfl rfl rfl rfl (v_move rfl) ?_
    refine rs_a 5 rfl rfl rfl rfl (v_nilCheck rfl) ?_
    refine rs_a 6 rfl rfl rfl rfl (v_fieldAddr0 T.fld_104_1_1 rfl) ?_
    refine rs_a 10 rfl rfl rfl rfl (v_build rfl (T.build_119 ..)) ?_
    refine rs_v 3 rfl rfl rfl rfl (OpV.mono (v_load T.scal_102 rfl) (fun w hw => by exact sat_cell hw (by (repeat first | with_reducible exact xH | apply xT); first | done | fail) rfl)) (by exact hw) ?_
    refine rs_kv 7 rfl rfl rfl rfl (by exact sat_cell hw (by (repeat first | with_reducible exact xH | apply xT); first | done | fail) rfl) (v_load T.scal_102 rfl) ?_
    refine rs_kv 8 rfl rfl rfl rfl (S' := fun _ => True) trivial (v_lenSlice T.sl_102_119_8 rfl) ?_
    refine rs_kv 9 rfl rfl rfl rfl (S' := fun _ => True) trivial (v_sub rfl rfl (by omega)) ?_
    refine rs_kv 11 rfl rfl rfl rfl (S' := fun _ => True) trivial (v_indexAddr T.sl_102_119_8 rfl rfl (by omega) (by omega)) ?_
    have hfit : 0 + (((s.l.length : Nat) : Int) - 1).toNat * 8 + 8 ≤ cells.length := by omega
    refine rs_k 12 rfl rfl (k_storeOwnAgg hw T.agg_119_8 rfl rfl (by simp [Value.oneCell']) rfl (by (repeat first | with_reducible exact xH | apply xT); first | done | fail) (by assumption) (by omega) (fun w hw => ?_))
    refine ⟨fun hn => absurd (by decide) hn, ?_⟩
    refine rs_done (g_le (xS rfl (xS rfl (xS rfl (xS rfl (xS rfl (xS rfl (xS rfl (xS rfl (xS rfl (xS rfl (xS rfl (xS rfl (Fr.le_refl _))))))))))))) ?_)
    refine g_seq ?_
    refine g_drawR ord_f52_r4_C15 (by kernel_rfl) T.mixed hw (fun w hw => ?_)
    refine rs_a 0 rfl rfl rfl rfl (v_move rfl) ?_
    refine rs_a 1 rfl rfl rfl rfl (v_move rfl) ?_
    refine rs_a 2 rfl rfl rfl rfl (v_nilCheck rfl) ?_
    refine rs_a 3 rfl rfl rfl rfl (v_fieldAddr0 T.fld_104_1_1 rfl) ?_
    refine rs_a 5 rfl rfl rfl rfl (v_move rfl) ?_
    refine rs_a 6 rfl rfl rfl rfl (v_nilCheck rfl) ?_
    refine rs_a 7 rfl rfl rfl rfl (v_fieldAddr0 T.fld_104_1_1 rfl) ?_
    refine rs_v 4 rfl rfl rfl rfl (OpV.mono (v_load T.scal_102 rfl) (fun w hw => by exact sat_cell hw (by (repeat first | with_reducible exact xH | apply xT); first | done | fail) rfl)) (by exact hw) ?_
    refine rs_kv 8 rfl rfl rfl rfl (by exact sat_cell hw (by (repeat first | with_reducible exact xH | apply xT); first | done | fail) rfl) (v_load T.scal_102 rfl) ?_
    refine rs_kv 9 rfl rfl rfl rfl (S' := fun _ => True) trivial (v_lenSlice T.sl_102_119_8 rfl) ?_
    refine rs_kv 10 rfl rfl rfl rfl (S' := fun _ => True) trivial (v_sub rfl rfl (by omega)) ?_
    refine rs_kv 11 rfl rfl rfl rfl (S' := fun _ => True) trivial (v_sliceTo T.sl_102_119_8 rfl rfl (by omega) (by omega)) ?_
    refine rs_kv 12 rfl rfl rfl rfl (S' := fun _ => True) trivial (v_nilCheck rfl) ?_
    refine rs_kv 13 rfl rfl rfl rfl (S' := fun _ => True) trivial (v_fieldAddr0 T.fld_104_1_1 rfl) ?_
    refine rs_k 14 rfl rfl (k_store hw T.scal_102 rfl rfl rfl (by (repeat first | with_reducible exact xH | apply xT); first | done | fail) rfl (by simp only [List.set, Int.reduceToNat, Nat.reduceMul, Nat.reduceAdd]; rfl) (fun w hw => ?_))
    refine ⟨fun hn => absurd (by decide) hn, ?_⟩
    refine rs_done (g_le (xS rfl (xS rfl (xS rfl (xS rfl (xS rfl (xS rfl (xS rfl (xS rfl (xS rfl (xS rfl (xS rfl (xS rfl (xS rfl (xS rfl (Fr.le_refl _))))))))))))))) ?_)
    refine g_seq ?_
    refine g_region ?_
    refine rl_v rfl rfl rfl (by exact sat_cells hw (by (repeat first | with_reducible exact xH | apply xT); first | done | fail) ⟨rfl, rfl, rfl, rfl, rfl, rfl, rfl, rfl, trivial⟩) (v_loadAgg (vs := [_, _, _, _, _, _, _, _]) T.agg_119_8 rfl rfl) ?_
    refine rl_k rfl (k_storeWhole hw T.agg_119_8 rfl rfl (by simp [Value.oneCell']) rfl (by (repeat first | with_reducible exact xH | apply xT); first | done | fail) rfl (fun w hw => ?_))
    refine rl_nil (g_le (xS rfl (Fr.le_refl _)) ?_)
    refine g_resC Try.func52 rfl ⟨_, rfl, holds_agg (vs := [_, _, _, _, _, _, _, _]) T.agg_119_8 rfl (by exact sat_cells hw (by (repeat first | with_reducible exact xH | apply xT); first | done | fail) ⟨rfl, rfl, rfl, rfl, rfl, rfl, rfl, rfl, trivial⟩)⟩ ?_
    rw [show (((s.l.length : Nat) : Int) - 1).toNat = s.l.length - 1 by omega] at hw
    refine ⟨.slice (some ⟨gb, 0, none⟩) (s.l.length - 1) cc, cells.take (i * 8) ++ cells.drop (i * 8 + 8), ea, en, ec, ka, kn, kc, rfl, hrd, hels.erase (by omega), ?_⟩
    have h9 := (hw.xP (A := OwnSl 119 8 (.slice (some ⟨gb, 0, none⟩) s.l.length cc) s.l.length _)).own_take (j := s.l.length - 1) (by omega)
    rw [wipe_last hlen hlast rfl] at h9
    dsimp only
    rw [List.length_eraseIdx_of_lt (by omega)]
    exact h9.xQ
  · have hsa : SubAt cells (0 + (i + 1) * 8) vs := by rw [hvs, Nat.zero_add]; exact subAt_slice _ _
    refine calls_of_g (n := 54) Try.func52 rfl rfl rfl ?_
    change G _ _ _ _ _ [(0, _), (1, _)] _
    refine g_seq ?_
    refine g_region ?_
    refine rl_k rfl (k_alloc hw T.zero_119 rfl rfl (fun bk0_0 w hw => ?_))
    refine rl_nil (g_le (xK (Fr.le_refl _)) ?_)
    refine g_seq ?_
    refine g_region ?_
    refine xV rfl rfl rfl (v_move rfl) ?_
    refine xV rfl rfl rfl (v_nilCheck rfl) ?_
    refine xV rfl rfl rfl (v_fieldAddr0 T.fld_104_1_1 rfl) ?_
    refine rl_v rfl rfl rfl (by exact sat_cell hw (by (repeat first | with_reducible exact xH | apply xT); first | done | fail) rfl) (v_load T.scal_102 rfl) ?_
    refine xV rfl rfl rfl (v_move rfl) ?_
    refine xV rfl rfl rfl (v_indexAddr T.sl_102_119_8 rfl rfl (by omega) (by omega)) ?_
    refine rl_v rfl rfl rfl (by exact own_cells hw (by (repeat first | with_reducible exact xH | apply xT); first | done | fail) (by assumption)) (v_loadAgg (vs := [_, _, _, _, _, _, _, _]) T.agg_119_8 rfl rfl) ?_
    refine rl_k rfl (k_alloc hw T.zero_119 rfl rfl (fun bk1_7 w hw => ?_))
    refine rl_k rfl (k_storeWhole hw T.agg_119_8 rfl rfl (by simp [Value.oneCell']) rfl (by (repeat first | with_reducible exact xH | apply xT); first | done | fail) rfl (fun w hw => ?_))
    refine rl_nil (g_le (xK (xS rfl (xS rfl (xS rfl (xS rfl (xS rfl (xS rfl (xS rfl (Fr.le_refl _))))))))) ?_)
    refine g_seq ?_
    refine g_drawR ord_f52_r2_C15 (by kernel_rfl) T.mixed hw (fun w hw => ?_)
    refine rs_a 0 rfl rfl rfl rfl (v_move rfl) ?_
    refine rs_a 1 rfl rfl rfl rfl (v_nilCheck rfl) ?_
    refine rs_a 2 rfl rfl rfl rfl (v_fieldAddr0 T.fld_104_1_1 rfl) ?_
    refine rs_a 4 rfl rfl rfl rfl (v_move rfl) ?_
    refine rs_a 6 rfl rfl rfl rfl (v_move rfl) ?_
    refine rs_a 7 rfl rfl rfl rfl (v_nilCheck rfl) ?_
    refine rs_a 8 rfl rfl rfl rfl (v_fieldAddr0 T.fld_104_1_1 rfl) ?_
    refine rs_a 10 rfl rfl rfl rfl (v_move rfl) ?_
    refine rs_a 11 rfl rfl rfl rfl (v_add rfl rfl (by omega)) ?_
    refine rs_v 3 rfl rfl rfl rfl (OpV.mono (v_load T.scal_102 rfl) (fun w hw => by exact sat_cell hw (by (repeat first | with_reducible exact xH | apply xT); first | done | fail) rfl)) (by exact hw) ?_
    refine rs_a 5 rfl rfl rfl rfl (v_sliceFrom T.sl_102_119_8 rfl rfl (by omega) (by omega) (by omega)) ?_
    refine rs_kv 9 rfl rfl rfl rfl (by exact sat_cell hw (by (repeat first | with_reducible exact xH | apply xT); first | done | fail) rfl) (v_load T.scal_102 rfl) ?_
    refine rs_kv 12 rfl rfl rfl rfl (S' := fun _ => True) trivial (v_sliceFrom T.sl_102_119_8 rfl rfl (by omega) (by omega) (by omega)) ?_
    have hsrc : SrcAt w (some ⟨gb, 0 + ((i : Int) + 1).toNat * 8, none⟩) k vs := .inr ⟨gb, _, rfl, own_cells hw (by (repeat first | with_reducible exact xH | apply xT); first | done | fail) hsa⟩
    refine rs_k 13 rfl rfl (k_copyOwn hw T.sl_102_119_8 rfl rfl (by assumption) (by (repeat first | with_reducible exact xH | apply xT); first | done | fail) (by assumption) (by assumption) (by assumption) (by assumption) rfl (fun w hw => ?_))
    refine ⟨fun hn => absurd (by decide) hn, ?_⟩
    refine rs_done (g_le (xS rfl (xS rfl (xS rfl (xS rfl (xS rfl (xS rfl (xS rfl (xS rfl (xS rfl (xS rfl (xS rfl (xS rfl (xS rfl (xS rfl (Fr.le_refl _))))))))))))))) ?_)
    refine g_seq ?_
    try simp only [Int.toNat_natCast] at hw
    refine g_drawR ord_f52_r3_C15 (by kernel_rfl) T.mixed hw (fun w hw => ?_)
    refine rs_a 0 rfl rfl rfl rfl (v_move rfl) ?_
    refine rs_a 1 rfl rfl rfl rfl (v_nilCheck rfl) ?_
    refine rs_a 2 rfl rfl rfl rfl (v_fieldAddr0 T.fld_104_1_1 rfl) ?_
    refine rs_a 4 rfl rfl rfl rfl (v_move rfl) ?_
    refine rs_a 5 rfl rfl rfl rfl (v_nilCheck rfl) ?_
    refine rs_a 6 rfl rfl rfl rfl (v_fieldAddr0 T.fld_104_1_1 rfl) ?_
    refine rs_a 10 rfl rfl rfl rfl (v_build rfl (T.build_119 ..)) ?_
    refine rs_v 3 rfl rfl rfl rfl (OpV.mono (v_load T.scal_102 rfl) (fun w hw => by exact sat_cell hw (by (repeat first | with_reducible exact xH | apply xT); first | done | fail) rfl)) (by exact hw) ?_
    refine rs_kv 7 rfl rfl rfl rfl (by exact sat_cell hw (by (repeat first | with_reducible exact xH | apply xT); first | done | fail) rfl) (v_load T.scal_102 rfl) ?_
    refine rs_kv 8 rfl rfl rfl rfl (S' := fun _ => True) trivial (v_lenSlice T.sl_102_119_8 rfl) ?_
    refine rs_kv 9 rfl rfl rfl rfl (S' := fun _ => True) trivial (v_sub rfl rfl (by omega)) ?_
    refine rs_kv 11 rfl rfl rfl rfl (S' := fun _ => True) trivial (v_indexAddr T.sl_102_119_8 rfl rfl (by omega) (by omega)) ?_
    have hfit : 0 + (((s.l.length : Nat) : Int) - 1).toNat * 8 + 8 ≤ (List.take (0 + i * 8) cells ++ vs ++ List.drop (0 + i * 8 + vs.length) cells).length := by rw [List.length_append, List.length_append, List.length_take, List.length_drop]; omega
    refine rs_k 12 rfl rfl (k_storeOwnAgg hw T.agg_119_8 rfl rfl (by simp [Value.oneCell']) rfl (by (repeat first | with_reducible exact xH | apply xT); first | done | fail) (by assumption) (by omega) (fun w hw => ?_))
    refine ⟨fun hn => absurd (by decide) hn, ?_⟩
    refine rs_done (g_le (xS rfl (xS rfl (xS rfl (xS rfl (xS rfl (xS rfl (xS rfl (xS rfl (xS rfl (xS rfl (xS rfl (xS rfl (Fr.le_refl _))))))))))))) ?_)
    refine g_seq ?_
    refine g_drawR ord_f52_r4_C15 (by kernel_rfl) T.mixed hw (fun w hw => ?_)
    refine rs_a 0 rfl rfl rfl rfl (v_move rfl) ?_
    refine rs_a 1 rfl rfl rfl rfl (v_move rfl) ?_
    refine rs_a 2 rfl rfl rfl rfl (v_nilCheck rfl) ?_
    refine rs_a 3 rfl rfl rfl rfl (v_fieldAddr0 T.fld_104_1_1 rfl) ?_
    refine rs_a 5 rfl rfl rfl rfl (v_move rfl) ?_
    refine rs_a 6 rfl rfl rfl rfl (v_nilCheck rfl) ?_
    refine rs_a 7 rfl rfl rfl rfl (v_fieldAddr0 T.fld_104_1_1 rfl) ?_
    refine rs_v 4 rfl rfl rfl rfl (OpV.mono (v_load T.scal_102 rfl) (fun w hw => by exact sat_cell hw (by (repeat first | with_reducible exact xH | apply xT); first | done | fail) rfl)) (by exact hw) ?_
    refine rs_kv 8 rfl rfl rfl rfl (by exact sat_cell hw (by (repeat first | with_reducible exact xH | apply xT); first | done | fail) rfl) (v_load T.scal_102 rfl) ?_
    refine rs_kv 9 rfl rfl rfl rfl (S' := fun _ => True) trivial (v_lenSlice T.sl_102_119_8 rfl) ?_
    refine rs_kv 10 rfl rfl rfl rfl (S' := fun _ => True) trivial (v_sub rfl rfl (by omega)) ?_
    refine rs_kv 11 rfl rfl rfl rfl (S' := fun _ => True) trivial (v_sliceTo T.sl_102_119_8 rfl rfl (by omega) (by omega)) ?_
    refine rs_kv 12 rfl rfl rfl rfl (S' := fun _ => True) trivial (v_nilCheck rfl) ?_
    refine rs_kv 13 rfl rfl rfl rfl (S' := fun _ => True) trivial (v_fieldAddr0 T.fld_104_1_1 rfl) ?_
    refine rs_k 14 rfl rfl (k_store hw T.scal_102 rfl rfl rfl (by (repeat first | with_reducible exact xH | apply xT); first | done | fail) rfl (by simp only [List.set, Int.reduceToNat, Nat.reduceMul, Nat.reduceAdd]; rfl) (fun w hw => ?_))
    refine ⟨fun hn => absurd (by decide) hn, ?_⟩
    refine rs_done (g_le (xS rfl (xS rfl (xS rfl (xS rfl (xS rfl (xS rfl (xS rfl (xS rfl (xS rfl (xS rfl (xS rfl (xS rfl (xS rfl (xS rfl (Fr.le_refl _))))))))))))))) ?_)
    refine g_seq ?_
    refine g_region ?_
    refine rl_v rfl rfl rfl (by exact sat_cells hw (by (repeat first | with_reducible exact xH | apply xT); first | done | fail) ⟨rfl, rfl, rfl, rfl, rfl, rfl, rfl, rfl, trivial⟩) (v_loadAgg (vs := [_, _, _, _, _, _, _, _]) T.agg_119_8 rfl rfl) ?_
    refine rl_k rfl (k_storeWhole hw T.agg_119_8 rfl rfl (by simp [Value.oneCell']) rfl (by (repeat first | with_reducible exact xH | apply xT); first | done | fail) rfl (fun w hw => ?_))
    refine rl_nil (g_le (xS rfl (Fr.le_refl _)) ?_)
    refine g_resC Try.func52 rfl ⟨_, rfl, holds_agg (vs := [_, _, _, _, _, _, _, _]) T.agg_119_8 rfl (by exact sat_cells hw (by (repeat first | with_reducible exact xH | apply xT); first | done | fail) ⟨rfl, rfl, rfl, rfl, rfl, rfl, rfl, rfl, trivial⟩)⟩ ?_
    rw [show (((s.l.length : Nat) : Int) - 1).toNat = s.l.length - 1 by omega] at hw
    refine ⟨.slice (some ⟨gb, 0, none⟩) (s.l.length - 1) cc, cells.take (i * 8) ++ cells.drop (i * 8 + 8), ea, en, ec, ka, kn, kc, rfl, hrd, hels.erase (by omega), ?_⟩
    have h9 := (hw.xP (A := OwnSl 119 8 (.slice (some ⟨gb, 0, none⟩) s.l.length cc) s.l.length _)).own_take (j := s.l.length - 1) (by omega)
    rw [wipe_cells hlen (by omega) rfl hk hvs] at h9
    dsimp only
    rw [List.length_eraseIdx_of_lt (by omega)]
    exact h9.xQ
end Go.Proofs.Ytlgpdglnfjndhaa
