/-
  TreeMap: a tree is the map that its calls say, behind each call, and each root of before still leads to what it led to.
-/
import Derived.Test.YtmbngahboaljpaaH12
import Derived.Test.YtmbngahboaljpaaRows
namespace Go.Proofs.Ytmbngahboaljpaa
set_option maxRecDepth 8000
set_option linter.unusedSimpArgs false
set_option linter.unusedVariables false
open Go Xe Go.Lib Go.RowKit Go.ChangeShapes Go.WideShapes Go.ChangeAt
theorem pages_few : ∀ (h : Nat) (u : Un h), okU h u → (2 ≤ szU h u → (pagesU h u).length + 2 ≤ (entsU h u).length) ∧ (pagesU h u).length ≤ (entsU h u).length
  | 0, (es : List En), _ => ⟨fun h => by simpa [pagesU, entsU, szU] using h, by simp [pagesU]⟩
  | h + 1, (ts : List (Tn h)), hok => by
    have key : ∀ (us : List (Tn h)), (∀ t ∈ us, t ∈ ts) → (us.flatMap fun t => t.1 :: pagesU h t.2).length + us.length ≤ (us.flatMap fun t => entsU h t.2).length := by
      intro us
      induction us with
      | nil => intro _; simp
      | cons t us ih =>
        intro hm
        have hot := hok t (hm t (by simp))
        have h1 := (pages_few h t.2 hot.2.2).1 hot.1
        have h2 := ih fun t ht => hm t (by simp [ht])
        rw [List.flatMap_cons, List.flatMap_cons, List.length_append, List.length_append, List.length_cons, List.length_cons]
        omega
    have h3 := key ts fun t ht => ht
    exact ⟨fun h9 => by have h4 : 2 ≤ ts.length := h9; show (ts.flatMap fun t => t.1 :: pagesU h t.2).length + 2 ≤ (ts.flatMap fun t => entsU h t.2).length; omega, Nat.le_trans (Nat.le_add_right _ _) h3⟩
theorem ents_le {l : List Op7} {es : List En} (m : MapOf l es) {n : Nat} (h : l.length ≤ n) : es.length ≤ n := by rw [m.len]; exact h
abbrev Hist := Rf × Value × List Op7
def Hist.fine (g : Hp) (s : List Nd) (x : Hist) : Prop := x.1.ok ∧ (rdSl 72 5 rdOp7) g [x.2.1] x.2.2 ∧ x.2.2.length ≤ 40 ∧ ∃ hh u, TreeAt s x.1 hh u ∧ MapOf x.2.2 (entsU hh u)
theorem Hist.fine.mono {g g' : Hp} {s s' : List Nd} {x : Hist} (hf : x.fine g s) (l : g.le g') (p : s <+: s') : x.fine g' s' :=
  ⟨hf.1, mono_sl mono_Op7 l hf.2.1, hf.2.2.1, let ⟨hh, u, t, m⟩ := hf.2.2.2; ⟨hh, u, t.mono p, m⟩⟩
theorem ord_f9_r15_H07M : orderOfB Try.f9 15 [5, 10] (.a 0 (.a 1 (.v 2 (.v 3 (.b2 4 9 (.b2 5 9 (.a 6 (.a 7 (.a 8 (.k 9 (.k 10 (.k 11 .done)))))) (.k 5 (.k 6 (.a 7 (.a 8 (.k 10 (.k 11 .done))))))) (.k 4 (.k 5 (.k 6 (.a 7 (.a 8 (.k 10 (.k 11 .done)))))))))))) = true := by kernel_rfl
theorem ord_f9_r19_H07M : orderOfB Try.f9 19 [6] (.a 0 (.a 1 (.v 2 (.v 4 (.b2 3 5 (.k 5 (.k 6 (.k 7 .done))) (.k 3 (.k 6 (.k 7 .done)))))))) = true := by kernel_rfl
theorem ord_f9_r40_H07M : orderOfB Try.f9 40 [9] (.a 0 (.a 1 (.a 2 (.a 3 (.a 5 (.a 6 (.a 7 (.v 4 (.k 8 (.k 9 (.k 10 .done))))))))))) = true := by kernel_rfl
set_option maxHeartbeats 8000000 in
theorem TreeMap_law {w : World} {a : Option Addr} {len cap : Nat} {xs : List Op7} (hr : rdArg (rdSl 72 5 rdOp7) w (.slice a len cap) xs) :
    Law Try.prog 9 [.slice a len cap] w := by
  unfold Law
  have hw := Sat.old w
  generalize w = W at hr hw ⊢
  have hr : (rdSl 72 5 rdOp7) (hpOf W) [.slice a len cap] xs := hr
  obtain ⟨rfl, hlb, hlc, hlm, _⟩ := rdSl_get hr
  simp only [reachBytes] at hlb
  refine calls_of_g (n := 153) Try.func9 rfl rfl rfl ?_
  change G _ _ _ _ _ [(0, _)] _
  refine g_seq ?_
  refine g_region ?_
  refine xV rfl rfl rfl (v_assign rfl) ?_
  refine rl_nil (g_le (xK (Fr.le_refl _)) ?_)
  refine g_seq ?_
  refine g_region ?_
  refine rl_k rfl (k_callf Try.func12 rfl rfl rfl rfl ?_)
  refine Calls.mono (tnew_calls (g := hpOf W) (hw.xQ)) ?_
  rintro _ w ⟨h, A, rfl, hI, hw⟩
  refine ⟨_, rfl, ?_⟩
  refine xV rfl rfl rfl (v_assign rfl) ?_
  refine rl_nil (g_le (xK (xS rfl (Fr.le_refl _))) ?_)
  refine g_seq (g_seq ?_)
  refine g_region ?_
  refine xV rfl rfl rfl (v_move rfl) ?_
  refine xV rfl rfl rfl (v_eqlNil T.ptr_26 rfl rfl) ?_
  refine rl_nil (g_le (xK (xS rfl (Fr.le_refl _))) ?_)
  refine g_cond_false rfl ?_
  refine g_skip (g_seq ?_)
  refine g_region ?_
  refine xV rfl rfl rfl (v_move rfl) ?_
  refine xV rfl rfl rfl (v_mkIface T.ptr_26 rfl) ?_
  refine rl_k rfl (k_callf Try.func17 rfl rfl rfl rfl ?_)
  refine Calls.mono (tempty_calls hI (hw.xQ)) ?_
  rintro _ w ⟨g1, A1, hg1, hI1, rfl, ht1, hok1, hw⟩
  refine ⟨_, rfl, ?_⟩
  refine xV rfl rfl rfl (v_move rfl) ?_
  refine xV rfl rfl rfl (v_extract rfl rfl) ?_
  refine xV rfl rfl rfl (v_extract rfl rfl) ?_
  refine rl_k rfl (k_alloc hw T.zero_25 rfl rfl (fun bk4_6 w hw => ?_))
  refine rl_k rfl (k_storeWhole hw T.agg_25_4 rfl rfl (by simp [Value.oneCell']) rfl (by (repeat first | with_reducible exact xH | apply xT); first | done | fail) rfl (fun w hw => ?_))
  refine xV rfl rfl rfl (v_assign rfl) ?_
  refine rl_nil (g_le (xK (xK (xS rfl (xS rfl (xS rfl (xS rfl (xS rfl (xS rfl (Fr.le_refl _))))))))) ?_)
  refine g_seq (g_seq ?_)
  refine g_region ?_
  refine xV rfl rfl rfl (v_move rfl) ?_
  refine xV rfl rfl rfl (v_neqF rfl rfl (by omega)) ?_
  refine rl_nil (g_le (xK (xS rfl (Fr.le_refl _))) ?_)
  refine g_cond_false rfl ?_
  refine g_skip (g_seq ?_)
  refine g_region ?_
  refine xV rfl rfl rfl (v_assign rfl) ?_
  refine rl_nil (g_le (xK (Fr.le_refl _)) ?_)
  refine g_seq ?_
  refine g_region ?_
  refine xV rfl rfl rfl (v_assign rfl) ?_
  refine rl_nil (g_le (xK (Fr.le_refl _)) ?_)
  refine g_seq ?_
  refine g_region ?_
  refine rl_v rfl rfl rfl (by exact sat_cells hw (by (repeat first | with_reducible exact xH | apply xT); first | done | fail) ⟨rfl, rfl, rfl, rfl, trivial⟩) (v_loadAgg (vs := [_, _, _, _]) T.agg_25_4 rfl rfl) ?_
  refine rl_k rfl (k_buildSlice (cells := [_, _, _, _]) hw T.sl_28_25_4 T.zero_25 rfl rfl rfl rfl rfl rfl (fun bk9_1 w hw => ?_))
  refine xV rfl rfl rfl (v_assign rfl) ?_
  refine rl_nil (g_le (xK (xS rfl (xS rfl (Fr.le_refl _)))) ?_)
  refine g_seq ?_
  have hw := (hw.xP (A := pt bk9_1 (.cells (refO 0).cells.toArray 25 (0, 0)))).lit_own (sz := 4) (n := 1) rfl (by simp [maxLen])
  have hw := hw.own_nil 41 1
  have hlen0 : ([] : List Value).length = 0 * 1 := rfl
  refine g_region ?_
  refine xV rfl rfl rfl (v_move rfl) ?_
  refine xV rfl rfl rfl (v_move rfl) ?_
  refine rl_k rfl (k_buildSlice (cells := [_]) hw T.sl_77_41_1 T.zero_41 rfl rfl rfl rfl rfl rfl (fun bk10_2 w hw => ?_))
  refine rl_k rfl (k_append (news := [_]) hw T.sl_77_41_1 T.zero_41 T.bytes_41_24 rfl (by decide) rfl rfl (by (repeat first | with_reducible exact xH | apply xT); first | done | fail) rfl (by exact sat_cells hw (by (repeat first | with_reducible exact xH | apply xT); first | done | fail) ⟨rfl, trivial⟩) (by simp [Value.oneCell']) (by omega) (by simp only [maxLen]; omega) rfl (fun vv10_3 w hw hnil => ?_))
  refine xV rfl rfl rfl (v_assign rfl) ?_
  refine rl_nil (g_le (xK (xS rfl (xS rfl (xS rfl (xS rfl (Fr.le_refl _)))))) ?_)
  refine g_seq (g_seq ?_)
  refine g_region ?_
  refine xV rfl rfl rfl (v_move rfl) ?_
  refine rl_k rfl (k_callf Try.func18 rfl rfl rfl rfl ?_)
  refine Calls.mono (short7_calls a xs.length cap 40 (by omega) (by omega) hw) ?_
  rintro _ w ⟨rfl, hw⟩
  refine ⟨_, rfl, ?_⟩
  refine xV rfl rfl rfl (v_lenSlice T.sl_41_46_5 rfl) ?_
  refine xV rfl rfl rfl (v_move rfl) ?_
  refine rl_nil (g_le (xK (xK (xK (xS rfl (Fr.le_refl _))))) ?_)
  refine g_block ?_
  refine g_loopC (σ := Int × Hp × List Nd × As × Rf × Value × List Op7 × Value × Value × List Hist) (fun C x => (42, .int .i64 x.1) :: (7, x.2.2.2.2.2.1) :: (8, x.2.2.2.2.2.2.2.1) :: (6, x.2.2.2.2.2.2.2.2.1) :: C) [(2, _), (3, _), (4, _), (40, _), (41, _)] (by repeat (first | exact Fr.le_nil _ | refine Fr.le_cons rfl ?_)) (fun z w => 0 ≤ z.1 ∧ z.1 ≤ min xs.length 40 ∧ (hpOf W).le z.2.1 ∧ HeapI h z.2.1 z.2.2.1 z.2.2.2.1 ∧ z.2.2.2.2.1.ok ∧ (∃ hh u, TreeAt z.2.2.1 z.2.2.2.2.1 hh u ∧ MapOf z.2.2.2.2.2.2.1 (entsU hh u)) ∧ (z.2.2.2.2.2.2.1.length : Int) ≤ z.1 ∧ (z.2.2.1.length : Int) ≤ 1 + 60 * z.1 ∧ (rdSl 72 5 rdOp7) z.2.1 [z.2.2.2.2.2.1] z.2.2.2.2.2.2.1 ∧ (∀ x ∈ z.2.2.2.2.2.2.2.2.2, Hist.fine z.2.1 z.2.2.1 x) ∧ (z.2.2.2.2.2.2.2.2.2.length : Int) = z.1 + 1 ∧ Sat (envOf W) w (z.2.2.2.1 :: OwnSl 25 4 z.2.2.2.2.2.2.2.1 (z.2.2.2.2.2.2.2.2.2 : List Hist).length (List.flatMap (fun x : Hist => x.1.cells) z.2.2.2.2.2.2.2.2.2) :: OwnSl 41 1 z.2.2.2.2.2.2.2.2.1 (z.2.2.2.2.2.2.2.2.2 : List Hist).length (List.map (fun x : Hist => x.2.1) z.2.2.2.2.2.2.2.2.2) :: pt bk4_6 (.cells z.2.2.2.2.1.cells.toArray 25 (0, 0)) :: RO z.2.1 :: [])) (fun z => (xs.length - z.1).toNat) ?_ (0, g1, [nodeU 0 ([] : List En)], A1, refO 0, .slice none 0 0, [], .slice (some ⟨bk9_1, 0, none⟩) 1 1, vv10_3, [(refO 0, .slice none 0 0, [])]) (by repeat (first | exact Fr.le_nil _ | refine Fr.le_cons rfl ?_)) ⟨by simp, by simp only; omega, hg1, hI1, hok1, ⟨0, _, ht1, MapOf.nil⟩, by simp, by simp, rdSl_nil _, fun x hx => by rw [List.mem_singleton.1 hx]; exact ⟨hok1, rdSl_nil _, by simp, 0, _, ht1, MapOf.nil⟩, by simp, by simp only [List.flatMap_cons, List.flatMap_nil, List.append_nil, List.map_cons, List.map_nil, List.length_singleton]; simp only [List.nil_append, Nat.zero_add] at hw; exact hw.xQ⟩
  rintro ⟨i, g, s, A, root, lv, l, rv, mv, hs⟩ w ⟨hi0, hi1, hg, hI, hrk, ⟨hh, u, ht, hmp⟩, hll, hsl, hl, hfi, hsn, hw⟩ ih
  dsimp only at hi0 hi1 hg hI hrk ht hmp hll hsl hl hfi hsn hw ih ⊢
  obtain ⟨la, ln, lc, rfl⟩ := rdSl_shape hl
  obtain ⟨rfl, hle9, hm9, hb9, lcells, hlels, hsrc⟩ := rdSl_cells hl
  simp only [reachBytes] at hb9
  simp only [maxLen] at hm9
  have hel := ents_le hmp (n := 40) (by omega)
  obtain ⟨ra, rc, rfl, _, _, hra⟩ := (hw.pick .at1).own_shape
  obtain ⟨ma, mc, rfl, _, _, hma⟩ := (hw.pick .at2).own_shape
  have h7 := ht.low (by omega)
  refine g_seq ?_
  refine g_region ?_
  refine xV rfl rfl rfl (v_lss rfl rfl) ?_
  refine rl_nil (g_le (xK (Fr.le_refl _)) ?_)
  refine g_seq ?_
  refine g_cond rfl (fun h3 => ?_) (fun h3 => ?_)
  · try with_reducible exact ft_elim h3
    all_goals
      try replace h3 := of_decide_eq_true h3
      refine g_skip (g_seq (g_block (g_seq ?_)))
      have hz := hw
      clear hw
      obtain ⟨_, _, _, _, gl⟩ := rdSl_get (mono_sl mono_Op7 hg hr)
      obtain ⟨b4, o1, x, ecs, rfl, hx, hat1, hl1, hrd⟩ := gl i hi0 (by omega)
      obtain ⟨sa, sn, sc, rfl, hns, hvs, hsegs, hdw, hbw⟩ := op7_told hrd
      have hw := hz
      refine g_region ?_
      refine xV rfl rfl rfl (v_indexAddr T.sl_41_46_5 rfl rfl (by omega) (by omega)) ?_
      refine rl_v rfl rfl rfl (by exact ro_ats hw (by (repeat first | with_reducible exact xH | apply xT); first | done | fail) (by assumption)) (v_loadAgg (vs := [_, _, _, _, _]) T.agg_46_5 rfl rfl) ?_
      refine rl_k rfl (k_alloc hw T.zero_46 rfl rfl (fun bk13_2 w hw => ?_))
      refine rl_k rfl (k_storeWhole hw T.agg_46_5 rfl rfl (by simp [Value.oneCell']) rfl (by (repeat first | with_reducible exact xH | apply xT); first | done | fail) rfl (fun w hw => ?_))
      refine rl_nil (g_le (xK (xK (xK (Fr.le_refl _)))) ?_)
      refine g_seq (g_seq ?_)
      refine g_region ?_
      refine xV rfl rfl rfl (v_fieldAddr0 T.fld_46_0_0 rfl) ?_
      refine rl_v rfl rfl rfl (by exact sat_cell hw (by (repeat first | with_reducible exact xH | apply xT); first | done | fail) rfl) (v_load T.scal_3 rfl) ?_
      refine rl_nil (g_le (xK (xK (Fr.le_refl _))) ?_)
      refine g_cutc (σ := Hp × List Nd × As × Rf × Value × List Op7) (fun C x => (7, x.2.2.2.2.1) :: C) [(2, _), (3, _), (4, _), (6, _), (8, _), (10, _), (40, _), (41, _), (42, _), (43, _), (44, _), (45, _), (46, _), (47, _)] (by repeat (first | exact Fr.le_nil _ | refine Fr.le_cons rfl ?_)) (fun z w => g.le z.1 ∧ HeapI h z.1 z.2.1 z.2.2.1 ∧ z.2.2.2.1.ok ∧ (∃ hh u, TreeAt z.2.1 z.2.2.2.1 hh u ∧ MapOf z.2.2.2.2.2 (entsU hh u)) ∧ (z.2.2.2.2.2.length : Int) ≤ i + 1 ∧ s <+: z.2.1 ∧ z.2.1.length ≤ s.length + 60 ∧ (rdSl 72 5 rdOp7) z.1 [z.2.2.2.2.1] z.2.2.2.2.2 ∧ Sat (envOf W) w (z.2.2.1 :: OwnSl 25 4 (.slice ra hs.length rc) (hs : List Hist).length (List.flatMap (fun x : Hist => x.1.cells) hs) :: OwnSl 41 1 (.slice ma hs.length mc) (hs : List Hist).length (List.map (fun x : Hist => x.2.1) hs) :: pt bk4_6 (.cells z.2.2.2.1.cells.toArray 25 (0, 0)) :: RO z.1 :: [])) ?_ ?_
      · skip
        rintro ⟨g8, s8, A8, root8, lv8, l8⟩ w ⟨hg8, hI8, hok8, ⟨q8, u8, ht8, hm8⟩, hll8, hp8, hs8, hl8, hw⟩
        dsimp only at hg8 hI8 hok8 ht8 hm8 hll8 hp8 hs8 hl8 hw ⊢
        all_goals
          refine g_seq ?_
          obtain ⟨ka, kn, kc, rfl⟩ := rdSl_shape hl8
          have hlenr : (hs.flatMap fun x : Hist => x.1.cells).length = hs.length * 4 := by (have hf : ∀ l : List Hist, (l.flatMap fun x : Hist => x.1.cells).length = l.length * 4 := fun l => by induction l with | nil => rfl | cons x l ih => rw [List.flatMap_cons, List.length_append, ih, List.length_cons]; simp only [List.length_cons, List.length_nil]; omega); exact hf hs
          have hlenm : (hs.map fun x : Hist => x.2.1).length = hs.length * 1 := by simp
          have hel8 := ents_le hm8 (n := 40) (by omega)
          have h78 := ht8.low (by omega)
          refine g_region ?_
          refine xV rfl rfl rfl (v_move rfl) ?_
          refine rl_v rfl rfl rfl (by exact sat_cells hw (by (repeat first | with_reducible exact xH | apply xT); first | done | fail) ⟨rfl, rfl, rfl, rfl, trivial⟩) (v_loadAgg (vs := [_, _, _, _]) T.agg_25_4 rfl rfl) ?_
          refine rl_k rfl (k_buildSlice (cells := [_, _, _, _]) hw T.sl_28_25_4 T.zero_25 rfl rfl rfl rfl rfl rfl (fun bk32_2 w hw => ?_))
          refine rl_k rfl (k_append (news := [_, _, _, _]) hw T.sl_28_25_4 T.zero_25 T.bytes_25_32 rfl (by decide) rfl rfl (by (repeat first | with_reducible exact xH | apply xT); first | done | fail) rfl (by exact sat_cells hw (by (repeat first | with_reducible exact xH | apply xT); first | done | fail) ⟨rfl, rfl, rfl, rfl, trivial⟩) (by simp [Value.oneCell']) (by omega) (by simp only [maxLen]; omega) rfl (fun vv32_3 w hw hnil => ?_))
          refine xV rfl rfl rfl (v_assign rfl) ?_
          refine rl_nil (g_le (xK (xK (xK (xK (xK (Fr.le_refl _)))))) ?_)
          refine g_seq ?_
          refine g_region ?_
          refine xV rfl rfl rfl (v_move rfl) ?_
          refine xV rfl rfl rfl (v_move rfl) ?_
          refine rl_k rfl (k_buildSlice (cells := [_]) hw T.sl_77_41_1 T.zero_41 rfl rfl rfl rfl rfl rfl (fun bk33_2 w hw => ?_))
          refine rl_k rfl (k_append (news := [_]) hw T.sl_77_41_1 T.zero_41 T.bytes_41_24 rfl (by decide) rfl rfl (by (repeat first | with_reducible exact xH | apply xT); first | done | fail) rfl (by exact sat_cells hw (by (repeat first | with_reducible exact xH | apply xT); first | done | fail) ⟨rfl, trivial⟩) (by simp [Value.oneCell']) (by omega) (by simp only [maxLen]; omega) rfl (fun vv33_3 w hw hnil => ?_))
          refine xV rfl rfl rfl (v_assign rfl) ?_
          refine rl_nil (g_le (xK (xK (xK (xK (xK (Fr.le_refl _)))))) ?_)
          refine g_seq ?_
          refine g_region ?_
          refine xV rfl rfl rfl (v_move rfl) ?_
          refine rl_v rfl rfl rfl (by exact sat_cells hw (by (repeat first | with_reducible exact xH | apply xT); first | done | fail) ⟨rfl, rfl, rfl, rfl, trivial⟩) (v_loadAgg (vs := [_, _, _, _]) T.agg_25_4 rfl rfl) ?_
          refine xV rfl rfl rfl (v_move rfl) ?_
          refine rl_k rfl (k_callf Try.func25 rfl rfl rfl rfl ?_)
          refine Calls.mono (shows_calls hl8 hm8 ht8 (by omega) hok8 hI8 (hw.xQ)) ?_
          rintro _ w ⟨g9, A9, hg9, hI9, rfl, hw⟩
          refine ⟨_, rfl, ?_⟩
          refine xV rfl rfl rfl (v_not rfl) ?_
          refine rl_nil (g_le (xK (xK (xK (xK (xK (Fr.le_refl _)))))) ?_)
          refine g_cond rfl (fun h9 => ?_) (fun h9 => ?_)
          · try with_reducible exact ft_elim h9
            all_goals
              try replace h9 := of_decide_eq_true h9
              simp at h9
          · try with_reducible exact tf_elim h9
            all_goals
              try replace h9 := of_decide_eq_false h9
              refine g_skip (g_inBlock ?_)
              refine g_region ?_
              refine xV rfl rfl rfl (v_add rfl rfl (by omega)) ?_
              refine xV rfl rfl rfl (v_move rfl) ?_
              refine rl_nil (g_le (xK (xK (Fr.le_refl _))) ?_)
              exact g_le (by repeat (first | exact Fr.le_nil _ | refine Fr.le_cons rfl ?_)) (ih (i + 1, g9, s8, A9, root8, .slice ka kn kc, l8, vv32_3, vv33_3, hs ++ [(root8, .slice ka kn kc, l8)]) w ⟨by simp only; omega, by simp only; omega, hg.trans (hg8.trans hg9), hI9, hok8, ⟨q8, u8, ht8, hm8⟩, by simp only; omega, by simp only; omega, mono_sl mono_Op7 hg9 hl8, fun y hy => (List.mem_append.1 hy).elim (fun hy => (hfi y hy).mono (hg8.trans hg9) hp8) (fun hy => by rw [List.mem_singleton.1 hy]; exact ⟨hok8, mono_sl mono_Op7 hg9 hl8, by simp only; omega, q8, u8, ht8, hm8⟩), by simp only [List.length_append, List.length_singleton]; omega, by dsimp only; rw [List.flatMap_append, List.map_append, List.length_append]; exact (hw.xQ : Sat (envOf W) w (A9 :: OwnSl 25 4 vv32_3 (hs.length + 1) (List.flatMap (fun x : Hist => x.1.cells) hs ++ root8.cells) :: OwnSl 41 1 vv33_3 (hs.length + 1) (List.map (fun x : Hist => x.2.1) hs ++ [.slice ka kn kc]) :: pt bk4_6 (.cells root8.cells.toArray 25 (0, 0)) :: RO g9 :: []))⟩ (by simp only; omega))
      · intro joinb2
        refine g_block (g_seq ?_)
        refine g_region ?_
        refine xV rfl rfl rfl (v_eql rfl rfl) ?_
        refine xV rfl rfl rfl (v_assign rfl) ?_
        refine rl_nil (g_le (xK (xK (Fr.le_refl _))) ?_)
        refine g_cond rfl (fun h4 => ?_) (fun h4 => ?_)
        · try with_reducible exact ft_elim h4
          all_goals
            try replace h4 := of_decide_eq_true h4
            refine g_seq ?_
            refine g_region ?_
            refine xV rfl rfl rfl (v_move rfl) ?_
            refine xV rfl rfl rfl (v_mkIface T.ptr_26 rfl) ?_
            refine rl_v rfl rfl rfl (by exact sat_cells hw (by (repeat first | with_reducible exact xH | apply xT); first | done | fail) ⟨rfl, rfl, rfl, rfl, trivial⟩) (v_loadAgg (vs := [_, _, _, _]) T.agg_25_4 rfl rfl) ?_
            refine xV rfl rfl rfl (v_fieldAddr0 T.fld_46_1_1 rfl) ?_
            refine rl_v rfl rfl rfl (by exact sat_cell hw (by (repeat first | with_reducible exact xH | apply xT); first | done | fail) rfl) (v_load T.scal_9 rfl) ?_
            refine rl_k rfl (k_callf Try.func30 rfl rfl rfl rfl ?_)
            refine Calls.mono (tdel_calls x.name ht (by omega) (by omega) hrk hI (hw.xQ)) ?_
            rintro _ w ⟨g3, A3, b, s3, root3, q3, u3, hg3, hI3, rfl, hok3, hst, _, h73, hb3, hsame, hw⟩
            have hbe : b = (hasO l x.name).isSome := by (rw [← hmp.none_iff]; cases hf : findE (entsU hh u) x.name with | none => (cases b with | false => rfl | true => (obtain ⟨e, he, hn⟩ := hb3.1 rfl; rw [← hn, findE_mem hmp.1 he] at hf; cases hf)) | some e => exact hb3.2 ⟨e, (findE_some hf).1, (findE_some hf).2⟩)
            subst hbe
            refine ⟨_, rfl, ?_⟩
            refine xV rfl rfl rfl (v_move rfl) ?_
            refine xV rfl rfl rfl (v_extract rfl rfl) ?_
            refine xV rfl rfl rfl (v_extract rfl rfl) ?_
            refine xV rfl rfl rfl (v_extract rfl rfl) ?_
            refine rl_k rfl (k_alloc hw T.zero_25 rfl rfl (fun bk21_10 w hw => ?_))
            refine rl_k rfl (k_storeWhole hw T.agg_25_4 rfl rfl (by simp [Value.oneCell']) rfl (by (repeat first | with_reducible exact xH | apply xT); first | done | fail) rfl (fun w hw => ?_))
            refine xV rfl rfl rfl (v_assign rfl) ?_
            refine xV rfl rfl rfl (v_assign rfl) ?_
            refine rl_nil (g_le (xK (xK (xK (xK (xK (xK (xK (xK (xK (xK (xK (xK (xK (Fr.le_refl _)))))))))))))) ?_)
            refine g_seq ?_
            refine g_region ?_
            refine xV rfl rfl rfl (v_move rfl) ?_
            refine xV rfl rfl rfl (v_fieldAddr0 T.fld_46_1_1 rfl) ?_
            refine rl_v rfl rfl rfl (by exact sat_cell hw (by (repeat first | with_reducible exact xH | apply xT); first | done | fail) rfl) (v_load T.scal_9 rfl) ?_
            refine rl_k rfl (k_callf Try.func31 rfl rfl rfl rfl ?_)
            refine Calls.mono (has_calls x.name (mono_sl mono_Op7 hg3 hl) (hw.xQ)) ?_
            rintro _ w ⟨rfl, hw⟩
            refine ⟨_, rfl, ?_⟩
            refine xV rfl rfl rfl (v_move rfl) ?_
            refine xV rfl rfl rfl (v_extract rfl rfl) ?_
            refine xV rfl rfl rfl (v_extract rfl rfl) ?_
            refine xV rfl rfl rfl (v_assign rfl) ?_
            refine xV rfl rfl rfl (v_assign rfl) ?_
            refine rl_nil (g_le (xK (xS rfl (xK (xK (xK (xK (xK (xK (xK (Fr.le_refl _)))))))))) ?_)
            refine g_seq (g_seq ?_)
            refine g_region ?_
            refine xV rfl rfl rfl (v_move rfl) ?_
            refine xV rfl rfl rfl (v_neqF rfl rfl (by omega)) ?_
            refine xV rfl rfl rfl (v_move rfl) ?_
            refine rl_split (s := 88) rfl (fun g23_2 => ?_) (fun g23_2 => ?_)
            · try with_reducible exact ft_elim g23_2
              all_goals
                try replace g23_2 := of_decide_eq_true g23_2
                refine rl_off (met_off rfl rfl rfl rfl rfl) rfl rfl ?_
                refine rl_off (met_off rfl rfl rfl rfl rfl) rfl rfl ?_
                refine rl_off (met_off rfl rfl rfl rfl rfl) rfl rfl ?_
                first | (refine xV rfl rfl rfl (v_pick_true rfl rfl) ?_) | (refine xV rfl rfl rfl (v_pick_false rfl rfl) ?_) | (refine xV rfl rfl rfl (v_pick rfl rfl rfl) ?_)
                refine xV rfl rfl rfl (v_move rfl) ?_
                refine rl_off (met_off rfl rfl rfl rfl rfl) rfl rfl ?_
                refine rl_off (met_off rfl rfl rfl rfl rfl) rfl rfl ?_
                refine rl_off (met_off rfl rfl rfl rfl rfl) rfl rfl ?_
                refine rl_off (met_gone rfl rfl rfl rfl) rfl rfl ?_
                refine rl_off (met_gone rfl rfl rfl rfl) rfl rfl ?_
                refine rl_off (met_gone rfl rfl rfl rfl) rfl rfl ?_
                refine rl_off (met_off rfl rfl rfl rfl rfl) rfl rfl ?_
                first | (refine xV rfl rfl rfl (v_pick_true rfl rfl) ?_) | (refine xV rfl rfl rfl (v_pick_false rfl rfl) ?_) | (refine xV rfl rfl rfl (v_pick rfl rfl rfl) ?_)
                refine rl_nil (g_le (xK (xK (xK (xK (xK (xK (xK (xK (xK (xK (xK (xK (xK (xK (xK (xK (xK (Fr.le_refl _)))))))))))))))))) ?_)
                refine g_cond_true rfl ?_
                refine g_seq ?_
                refine g_region ?_
                refine xV rfl rfl rfl (v_assign rfl) ?_
                refine rl_nil (g_le (xK (Fr.le_refl _)) ?_)
                refine g_ret1 Try.func9 rfl rfl ?_
                exact ⟨rfl, hw⟩
            · try with_reducible exact tf_elim g23_2
              all_goals
                try replace g23_2 := of_decide_eq_false g23_2
                refine rl_vg (met_on rfl rfl rfl rfl) rfl rfl (S := fun _ => True) trivial (v_move rfl) ?_
                refine rl_vg (met_on rfl rfl rfl rfl) rfl rfl (S := fun _ => True) trivial (v_move rfl) ?_
                refine rl_vg (met_on rfl rfl rfl rfl) rfl rfl (S := fun _ => True) trivial (v_neqBoolF T.bool_4 rfl rfl (by first | rfl | assumption)) ?_
                refine xV rfl rfl rfl (v_pick_false rfl rfl) ?_
                refine xV rfl rfl rfl (v_move rfl) ?_
                refine rl_split (s := 93) rfl (fun g23_7 => ?_) (fun g23_7 => ?_)
                · try with_reducible exact ft_elim g23_7
                  all_goals
                    try replace g23_7 := of_decide_eq_true g23_7
                    simp at g23_7
                · try with_reducible exact tf_elim g23_7
                  all_goals
                    try replace g23_7 := of_decide_eq_false g23_7
                    refine rl_vg (met_on rfl rfl rfl rfl) rfl rfl (S := fun _ => True) trivial (v_move rfl) ?_
                    refine rl_vg (met_on rfl rfl rfl rfl) rfl rfl (S := fun _ => True) trivial (v_not rfl) ?_
                    refine rl_vg (met_on rfl rfl rfl rfl) rfl rfl (S := fun _ => True) trivial (v_move rfl) ?_
                    refine rl_split (s := 96) rfl (fun g23_10 => ?_) (fun g23_10 => ?_)
                    · try with_reducible exact ft_elim g23_10
                      all_goals
                        try replace g23_10 := of_decide_eq_true g23_10
                        refine rl_vg (met_on rfl rfl rfl rfl) rfl rfl (by exact sat_cells hw (by (repeat first | with_reducible exact xH | apply xT); first | done | fail) ⟨rfl, rfl, rfl, rfl, trivial⟩) (v_loadAgg (vs := [_, _, _, _]) T.agg_25_4 rfl rfl) ?_
                        refine rl_vg (met_on rfl rfl rfl rfl) rfl rfl (by exact sat_cells hw (by (repeat first | with_reducible exact xH | apply xT); first | done | fail) ⟨rfl, rfl, rfl, rfl, trivial⟩) (v_loadAgg (vs := [_, _, _, _]) T.agg_25_4 rfl rfl) ?_
                        refine rl_vg (met_on rfl rfl rfl rfl) rfl rfl (S := fun _ => True) trivial (v_neqAgg T.cmp_25_iiii rfl rfl rfl rfl (by exact eq_Rf _ _)) ?_
                        refine rl_vg (met_on rfl rfl rfl rfl) rfl rfl (S := fun _ => True) trivial (v_pick_true rfl rfl) ?_
                        refine xV rfl rfl rfl (v_pick_false rfl rfl) ?_
                        refine rl_nil (g_le (xK (xK (xK (xK (xK (xK (xK (xK (xK (xK (xK (xK (xK (xK (xK (xK (xK (xK (xK (Fr.le_refl _)))))))))))))))))))) ?_)
                        refine g_cond rfl (fun h5 => ?_) (fun h5 => ?_)
                        · try with_reducible exact ft_elim h5
                          all_goals
                            try replace h5 := of_decide_eq_true h5
                            exact absurd h5 (by rw [(hsame (Bool.not_eq_true' _ |>.mp g23_10)).2.1]; simp)
                        · try with_reducible exact tf_elim h5
                          all_goals
                            try replace h5 := of_decide_eq_false h5
                            refine g_skip (g_seq ?_)
                            refine g_region ?_
                            refine rl_v rfl rfl rfl (by exact sat_cells hw (by (repeat first | with_reducible exact xH | apply xT); first | done | fail) ⟨rfl, rfl, rfl, rfl, trivial⟩) (v_loadAgg (vs := [_, _, _, _]) T.agg_25_4 rfl rfl) ?_
                            refine rl_k rfl (k_storeWhole hw T.agg_25_4 rfl rfl (by simp [Value.oneCell']) rfl (by (repeat first | with_reducible exact xH | apply xT); first | done | fail) rfl (fun w hw => ?_))
                            refine rl_nil (g_le (xK (Fr.le_refl _)) ?_)
                            refine g_region ?_
                            refine xV rfl rfl rfl (v_move rfl) ?_
                            refine xV rfl rfl rfl (v_fieldAddr0 T.fld_46_1_1 rfl) ?_
                            refine rl_v rfl rfl rfl (by exact sat_cell hw (by (repeat first | with_reducible exact xH | apply xT); first | done | fail) rfl) (v_load T.scal_9 rfl) ?_
                            refine rl_k rfl (k_callf Try.func21 rfl rfl rfl rfl ?_)
                            refine Calls.mono (without_calls x.name (mono_sl mono_Op7 hg3 hl) (hw.xP (A := RO g3))) ?_
                            rintro _ w ⟨wv, wcells, rfl, hwels, hw⟩
                            refine ⟨_, rfl, ?_⟩
                            refine xV rfl rfl rfl (v_assign rfl) ?_
                            refine rl_nil (g_le (xK (xK (xK (xK (xK (Fr.le_refl _)))))) ?_)
                            refine g_inBlock ?_
                            have hst1 := hst.len
                            have hst2 := hst.ents
                            have hwl := without_len l x.name
                            obtain ⟨g4, hg4, hl4, hw⟩ := (hw.xQ : Sat (envOf W) w (RO g3 :: OwnSl 46 5 wv (withoutO l x.name).length wcells :: A3 :: OwnSl 25 4 (.slice ra hs.length rc) (hs : List Hist).length (List.flatMap (fun x : Hist => x.1.cells) hs) :: OwnSl 41 1 (.slice ma hs.length mc) (hs : List Hist).length (List.map (fun x : Hist => x.2.1) hs) :: pt bk4_6 (.cells root3.cells.toArray 25 (0, 0)) :: [])).freeze_sl (bytes := 72) mono_Op7 hwels rfl (by simp only [reachBytes]; omega)
                            exact joinb2 (g4, s3, A3, root3, wv, withoutO l x.name) w _ (by repeat (first | exact Fr.le_nil _ | refine Fr.le_cons rfl ?_)) ⟨hg3.trans hg4, HeapI.mono hg4 hI3, hok3, ⟨q3, u3, hst.tree, by rw [hst2]; exact hmp.del x.name⟩, by simp only; omega, hst.ext, by simp only; omega, hl4, hw.xQ⟩
                    · try with_reducible exact tf_elim g23_10
                      all_goals
                        try replace g23_10 := of_decide_eq_false g23_10
                        refine rl_off (met_off rfl rfl rfl rfl rfl) rfl rfl ?_
                        refine rl_off (met_off rfl rfl rfl rfl rfl) rfl rfl ?_
                        refine rl_off (met_off rfl rfl rfl rfl rfl) rfl rfl ?_
                        refine rl_vg (met_on rfl rfl rfl rfl) rfl rfl (S := fun _ => True) trivial (v_pick_false rfl rfl) ?_
                        refine xV rfl rfl rfl (v_pick_false rfl rfl) ?_
                        refine rl_nil (g_le (xK (xK (xK (xK (xK (xK (xK (xK (xK (xK (xK (xK (xK (xK (xK (xK (xK (xK (xK (Fr.le_refl _)))))))))))))))))))) ?_)
                        refine g_cond_false rfl ?_
                        refine g_skip (g_seq ?_)
                        refine g_region ?_
                        refine rl_v rfl rfl rfl (by exact sat_cells hw (by (repeat first | with_reducible exact xH | apply xT); first | done | fail) ⟨rfl, rfl, rfl, rfl, trivial⟩) (v_loadAgg (vs := [_, _, _, _]) T.agg_25_4 rfl rfl) ?_
                        refine rl_k rfl (k_storeWhole hw T.agg_25_4 rfl rfl (by simp [Value.oneCell']) rfl (by (repeat first | with_reducible exact xH | apply xT); first | done | fail) rfl (fun w hw => ?_))
                        refine rl_nil (g_le (xK (Fr.le_refl _)) ?_)
                        refine g_region ?_
                        refine xV rfl rfl rfl (v_move rfl) ?_
                        refine xV rfl rfl rfl (v_fieldAddr0 T.fld_46_1_1 rfl) ?_
                        refine rl_v rfl rfl rfl (by exact sat_cell hw (by (repeat first | with_reducible exact xH | apply xT); first | done | fail) rfl) (v_load T.scal_9 rfl) ?_
                        refine rl_k rfl (k_callf Try.func21 rfl rfl rfl rfl ?_)
                        refine Calls.mono (without_calls x.name (mono_sl mono_Op7 hg3 hl) (hw.xP (A := RO g3))) ?_
                        rintro _ w ⟨wv, wcells, rfl, hwels, hw⟩
                        refine ⟨_, rfl, ?_⟩
                        refine xV rfl rfl rfl (v_assign rfl) ?_
                        refine rl_nil (g_le (xK (xK (xK (xK (xK (Fr.le_refl _)))))) ?_)
                        refine g_inBlock ?_
                        have hst1 := hst.len
                        have hst2 := hst.ents
                        have hwl := without_len l x.name
                        obtain ⟨g4, hg4, hl4, hw⟩ := (hw.xQ : Sat (envOf W) w (RO g3 :: OwnSl 46 5 wv (withoutO l x.name).length wcells :: A3 :: OwnSl 25 4 (.slice ra hs.length rc) (hs : List Hist).length (List.flatMap (fun x : Hist => x.1.cells) hs) :: OwnSl 41 1 (.slice ma hs.length mc) (hs : List Hist).length (List.map (fun x : Hist => x.2.1) hs) :: pt bk4_6 (.cells root3.cells.toArray 25 (0, 0)) :: [])).freeze_sl (bytes := 72) mono_Op7 hwels rfl (by simp only [reachBytes]; omega)
                        exact joinb2 (g4, s3, A3, root3, wv, withoutO l x.name) w _ (by repeat (first | exact Fr.le_nil _ | refine Fr.le_cons rfl ?_)) ⟨hg3.trans hg4, HeapI.mono hg4 hI3, hok3, ⟨q3, u3, hst.tree, by rw [hst2]; exact hmp.del x.name⟩, by simp only; omega, hst.ext, by simp only; omega, hl4, hw.xQ⟩
        · try with_reducible exact tf_elim h4
          all_goals
            try replace h4 := of_decide_eq_false h4
            refine g_seq ?_
            refine g_region ?_
            refine xV rfl rfl rfl (v_eql rfl rfl) ?_
            refine xV rfl rfl rfl (v_assign rfl) ?_
            refine rl_nil (g_le (xK (xK (Fr.le_refl _))) ?_)
            refine g_cond rfl (fun h6 => ?_) (fun h6 => ?_)
            · try with_reducible exact ft_elim h6
              all_goals
                try replace h6 := of_decide_eq_true h6
                refine g_seq ?_
                refine g_region ?_
                refine xV rfl rfl rfl (v_move rfl) ?_
                refine xV rfl rfl rfl (v_mkIface T.ptr_26 rfl) ?_
                refine rl_v rfl rfl rfl (by exact sat_cells hw (by (repeat first | with_reducible exact xH | apply xT); first | done | fail) ⟨rfl, rfl, rfl, rfl, trivial⟩) (v_loadAgg (vs := [_, _, _, _]) T.agg_25_4 rfl rfl) ?_
                refine xV rfl rfl rfl (v_fieldAddr0 T.fld_46_3_3 rfl) ?_
                refine rl_v rfl rfl rfl (by exact sat_cell hw (by (repeat first | with_reducible exact xH | apply xT); first | done | fail) rfl) (v_load T.scal_44 rfl) ?_
                refine rl_k rfl (k_callf Try.func26 rfl rfl rfl rfl ?_)
                have hpf := (pages_few hh u ht.ok).2
                refine Calls.mono (tmove_calls (mono_sl mono_int (Hp.le_refl g) hsegs) ht (by omega) (by omega) hrk hI (hw.xQ)) ?_
                rintro _ w ⟨g3, A3, s3, root3, n3, u3, hg3, hI3, rfl, hok3, hmv, ht3, hw⟩
                refine ⟨_, rfl, ?_⟩
                refine xV rfl rfl rfl (v_move rfl) ?_
                refine xV rfl rfl rfl (v_extract rfl rfl) ?_
                refine xV rfl rfl rfl (v_extract rfl rfl) ?_
                refine xV rfl rfl rfl (v_extract rfl rfl) ?_
                refine rl_k rfl (k_alloc hw T.zero_25 rfl rfl (fun bk28_10 w hw => ?_))
                refine rl_k rfl (k_storeWhole hw T.agg_25_4 rfl rfl (by simp [Value.oneCell']) rfl (by (repeat first | with_reducible exact xH | apply xT); first | done | fail) rfl (fun w hw => ?_))
                refine xV rfl rfl rfl (v_assign rfl) ?_
                refine xV rfl rfl rfl (v_assign rfl) ?_
                refine rl_nil (g_le (xK (xS rfl (xK (xK (xK (xK (xK (xK (xK (xK (xK (xK (xK (Fr.le_refl _)))))))))))))) ?_)
                refine g_seq (g_seq ?_)
                refine g_region ?_
                refine xV rfl rfl rfl (v_move rfl) ?_
                refine xV rfl rfl rfl (v_neqF rfl rfl (by omega)) ?_
                refine rl_nil (g_le (xK (xK (Fr.le_refl _))) ?_)
                refine g_cond_false rfl ?_
                refine g_skip ?_
                refine g_region ?_
                refine rl_v rfl rfl rfl (by exact sat_cells hw (by (repeat first | with_reducible exact xH | apply xT); first | done | fail) ⟨rfl, rfl, rfl, rfl, trivial⟩) (v_loadAgg (vs := [_, _, _, _]) T.agg_25_4 rfl rfl) ?_
                refine rl_k rfl (k_storeWhole hw T.agg_25_4 rfl rfl (by simp [Value.oneCell']) rfl (by (repeat first | with_reducible exact xH | apply xT); first | done | fail) rfl (fun w hw => ?_))
                refine rl_nil (g_le (xK (Fr.le_refl _)) ?_)
                refine g_inBlock ?_
                have hmv1 := hmv.cnt
                have hmv2 := hmv.most
                exact joinb2 (g3, s3, A3, root3, .slice la l.length lc, l) w _ (by repeat (first | exact Fr.le_nil _ | refine Fr.le_cons rfl ?_)) ⟨hg3, hI3, hok3, ⟨hh, u3, ht3, by rw [hmv.ents]; exact hmp⟩, by simp only; omega, hmv.ext, by simp only; omega, mono_sl mono_Op7 hg3 hl, hw.xQ⟩
            · try with_reducible exact tf_elim h6
              all_goals
                try replace h6 := of_decide_eq_false h6
                refine g_seq ?_
                have hw := (hw.xP (A := RO g)).xP (A := A)
                refine g_drawB ord_f9_r15_H07M (by kernel_rfl) T.mixed (fun w hw => ((hw.pick .at0).drop.pick .at0).drop) hw (fun w hw => ?_)
                refine rs_a 0 rfl rfl rfl rfl (v_move rfl) ?_
                refine rs_a 1 rfl rfl rfl rfl (v_mkIface T.ptr_26 rfl) ?_
                refine rs_v 2 rfl rfl rfl rfl (OpV.mono (v_loadAgg (vs := [_, _, _, _]) T.agg_25_4 rfl rfl) (fun w hw => by exact sat_cells hw (by (repeat first | with_reducible exact xH | apply xT); first | done | fail) ⟨rfl, rfl, rfl, rfl, trivial⟩)) (by exact Sat.sub hw (by (repeat (first | with_reducible exact Sub.refl _ | exact Sub.nil _ | (apply Sub.cons; focus ((repeat (first | with_reducible exact Pick.here _ | apply Pick.there)); (first | done | fail))) | with_reducible apply Sub.drop)); first | done | fail)) ?_
                refine rs_v 3 rfl rfl rfl rfl (OpV.mono (v_loadAgg (vs := [_, _, _, _, _]) T.agg_46_5 rfl rfl) (fun w hw => by exact sat_cells hw (by (repeat first | with_reducible exact xH | apply xT); first | done | fail) ⟨rfl, rfl, rfl, rfl, rfl, trivial⟩)) (by exact Sat.sub hw (by (repeat (first | with_reducible exact Sub.refl _ | exact Sub.nil _ | (apply Sub.cons; focus ((repeat (first | with_reducible exact Pick.here _ | apply Pick.there)); (first | done | fail))) | with_reducible apply Sub.drop)); first | done | fail)) ?_
                refine rs_b2 4 9 rfl rfl rfl rfl ?_ ?_ 
                · skip
                  refine (k_callf Try.func19 rfl rfl rfl rfl ?_)
                  refine Calls.mono (secret_calls (hw.xQ) rfl) ?_
                  rintro _ w ⟨vb, rfl, hw⟩
                  refine ⟨_, rfl, ?_⟩
                  refine ⟨fun _ => (by exact Sat.sub hw (by (repeat (first | with_reducible exact Sub.refl _ | exact Sub.nil _ | (apply Sub.cons; focus ((repeat (first | with_reducible exact Pick.here _ | apply Pick.there)); (first | done | fail))) | with_reducible apply Sub.drop)); first | done | fail)), ?_⟩
                  refine rs_b2 5 9 rfl rfl rfl rfl ?_ ?_ 
                  · skip
                    refine (k_callf Try.func20 rfl rfl rfl rfl ?_)
                    obtain ⟨g3, hg3, hvn, hw⟩ := ((hw.xP (A := pt vb (.cells (⟨1, x.value, ByteArray.empty⟩ : Vn).cells.toArray 53 (0, 0)))).xP (A := RO g)).freeze_lit (R := rdVn) (sz := 3) (bytes := 40) mono_Vn (xs := [⟨1, x.value, ByteArray.empty⟩]) (Els.one rfl ⟨rfl, sec_ok hvs⟩) rfl (by simp [maxLen]) (by simp [reachBytes])
                    have hen : rdEn g3 [.string x.name, .slice (some ⟨vb, 0, none⟩) 1 1] (secO x) := ⟨_, _, rfl, ⟨rfl, hns⟩, hvn⟩
                    refine Calls.mono (tput_calls hen ht (by omega) (by omega) hrk (HeapI.mono hg3 hI) (hw.xQ)) ?_
                    rintro _ w ⟨g4, A4, s4, root4, q4, u4, hg4, hI4, rfl, hok4, hst, _, h74, hw⟩
                    refine ⟨_, rfl, ?_⟩
                    refine ⟨fun hn => absurd (by decide) hn, ?_⟩
                    refine rs_a 6 rfl rfl rfl rfl (v_move rfl) ?_
                    refine rs_a 7 rfl rfl rfl rfl (v_extract rfl rfl) ?_
                    refine rs_a 8 rfl rfl rfl rfl (v_extract rfl rfl) ?_
                    refine rs_k 9 rfl rfl (k_alloc hw T.zero_25 rfl rfl (fun bk15_9 w hw => ?_))
                    refine ⟨fun _ => (by exact Sat.sub hw (by (repeat (first | with_reducible exact Sub.refl _ | exact Sub.nil _ | (apply Sub.cons; focus ((repeat (first | with_reducible exact Pick.here _ | apply Pick.there)); (first | done | fail))) | with_reducible apply Sub.drop)); first | done | fail)), ?_⟩
                    refine rs_k 10 rfl rfl (k_storeWhole hw T.agg_25_4 rfl rfl (by simp [Value.oneCell']) rfl (by (repeat first | with_reducible exact xH | apply xT); first | done | fail) rfl (fun w hw => ?_))
                    refine ⟨fun hn => absurd (by decide) hn, ?_⟩
                    refine rs_kv 11 rfl rfl rfl rfl (S' := fun _ => True) trivial (v_assign rfl) ?_
                    refine rs_done (g_le (xK (xK (xK (xK (xK (xK (xK (xK (xK (xK (xK (Fr.le_refl _)))))))))))) ?_)
                    refine g_seq (g_seq ?_)
                    refine g_region ?_
                    refine xV rfl rfl rfl (v_move rfl) ?_
                    refine xV rfl rfl rfl (v_neqF rfl rfl (by omega)) ?_
                    refine rl_nil (g_le (xK (xK (Fr.le_refl _))) ?_)
                    refine g_cond_false rfl ?_
                    refine g_skip (g_seq ?_)
                    refine g_region ?_
                    refine rl_v rfl rfl rfl (by exact sat_cells hw (by (repeat first | with_reducible exact xH | apply xT); first | done | fail) ⟨rfl, rfl, rfl, rfl, trivial⟩) (v_loadAgg (vs := [_, _, _, _]) T.agg_25_4 rfl rfl) ?_
                    refine rl_k rfl (k_storeWhole hw T.agg_25_4 rfl rfl (by simp [Value.oneCell']) rfl (by (repeat first | with_reducible exact xH | apply xT); first | done | fail) rfl (fun w hw => ?_))
                    refine rl_nil (g_le (xK (Fr.le_refl _)) ?_)
                    refine g_drawR ord_f9_r19_H07M (by kernel_rfl) T.mixed hw (fun w hw => ?_)
                    refine rs_a 0 rfl rfl rfl rfl (v_move rfl) ?_
                    refine rs_a 1 rfl rfl rfl rfl (v_fieldAddr0 T.fld_46_1_1 rfl) ?_
                    refine rs_v 2 rfl rfl rfl rfl (OpV.mono (v_load T.scal_9 rfl) (fun w hw => by exact sat_cell hw (by (repeat first | with_reducible exact xH | apply xT); first | done | fail) rfl)) (by exact hw) ?_
                    refine rs_v 4 rfl rfl rfl rfl (OpV.mono (v_loadAgg (vs := [_, _, _, _, _]) T.agg_46_5 rfl rfl) (fun w hw => by exact sat_cells hw (by (repeat first | with_reducible exact xH | apply xT); first | done | fail) ⟨rfl, rfl, rfl, rfl, rfl, trivial⟩)) (by exact hw) ?_
                    refine rs_b2 3 5 rfl rfl rfl rfl ?_ ?_ 
                    · skip
                      refine (k_callf Try.func21 rfl rfl rfl rfl ?_)
                      refine Calls.mono (without_calls x.name (mono_sl mono_Op7 (hg3.trans hg4) hl) (hw.xP (A := RO g4))) ?_
                      rintro _ w ⟨wv, wcells, rfl, hwels, hw⟩
                      obtain ⟨wa, wc, rfl, _, _, _⟩ := hw.own_shape
                      have hlen : wcells.length = (withoutO l x.name).length * 5 := hwels.len
                      have hone := hwels.ones one_Op7
                      have hwl := without_len l x.name
                      refine ⟨_, rfl, ?_⟩
                      refine ⟨fun _ => (by exact Sat.sub hw (by (repeat (first | with_reducible exact Sub.refl _ | exact Sub.nil _ | (apply Sub.cons; focus ((repeat (first | with_reducible exact Pick.here _ | apply Pick.there)); (first | done | fail))) | with_reducible apply Sub.drop)); first | done | fail)), ?_⟩
                      refine rs_k 5 rfl rfl (k_buildSlice (cells := [_, _, _, _, _]) hw T.sl_41_46_5 T.zero_46 rfl rfl rfl rfl rfl rfl (fun bk19_5 w hw => ?_))
                      refine ⟨fun _ => (by exact Sat.sub hw (by (repeat (first | with_reducible exact Sub.refl _ | exact Sub.nil _ | (apply Sub.cons; focus ((repeat (first | with_reducible exact Pick.here _ | apply Pick.there)); (first | done | fail))) | with_reducible apply Sub.drop)); first | done | fail)), ?_⟩
                      refine rs_k 6 rfl rfl (k_append (news := [_, _, _, _, _]) hw T.sl_41_46_5 T.zero_46 T.bytes_46_72 rfl (by decide) rfl rfl (by (repeat first | with_reducible exact xH | apply xT); first | done | fail) rfl (by exact sat_cells hw (by (repeat first | with_reducible exact xH | apply xT); first | done | fail) ⟨rfl, rfl, rfl, rfl, rfl, trivial⟩) (by simp [Value.oneCell']) (by omega) (by simp only [maxLen]; omega) rfl (fun vv19_6 w hw hnil => ?_))
                      refine ⟨fun hn => absurd (by decide) hn, ?_⟩
                      refine rs_kv 7 rfl rfl rfl rfl (S' := fun _ => True) trivial (v_assign rfl) ?_
                      refine rs_done (g_le (xK (xK (xK (xK (xK (xK (xK (xK (Fr.le_refl _))))))))) ?_)
                      refine g_inBlock ?_
                      have hst1 := hst.len
                      have hst2 := hst.ents
                      obtain ⟨g6, hg6, hl6, hw⟩ := (hw.xQ : Sat (envOf W) w (RO g4 :: OwnSl 46 5 vv19_6 ((withoutO l x.name).length + 1) (wcells ++ [.int .i64 x.do_, .string x.name, .string x.value, .slice sa sn sc, .int .i64 x.back]) :: A4 :: OwnSl 25 4 (.slice ra hs.length rc) (hs : List Hist).length (List.flatMap (fun x : Hist => x.1.cells) hs) :: OwnSl 41 1 (.slice ma hs.length mc) (hs : List Hist).length (List.map (fun x : Hist => x.2.1) hs) :: pt bk4_6 (.cells root4.cells.toArray 25 (0, 0)) :: [])).freeze_sl (bytes := 72) mono_Op7 (hwels.append (Els.one rfl (mono_Op7 (hg3.trans hg4) hrd))) (by simp) (by simp only [List.length_append, List.length_singleton, reachBytes]; omega)
                      exact joinb2 (g6, s4, A4, root4, vv19_6, withoutO l x.name ++ [x]) w _ (by repeat (first | exact Fr.le_nil _ | refine Fr.le_cons rfl ?_)) ⟨hg3.trans (hg4.trans hg6), HeapI.mono hg6 hI4, hok4, ⟨q4, u4, hst.tree, by rw [hst2]; exact hmp.ins x⟩, by simp only [List.length_append, List.length_singleton]; omega, hst.ext, by simp only; omega, hl6, hw.xQ⟩
                    · skip
                      refine (k_buildSlice (cells := [_, _, _, _, _]) hw T.sl_41_46_5 T.zero_46 rfl rfl rfl rfl rfl rfl (fun bk19_5 w hw => ?_))
                      refine ⟨fun _ => (by exact Sat.sub hw (by (repeat (first | with_reducible exact Sub.refl _ | exact Sub.nil _ | (apply Sub.cons; focus ((repeat (first | with_reducible exact Pick.here _ | apply Pick.there)); (first | done | fail))) | with_reducible apply Sub.drop)); first | done | fail)), ?_⟩
                      refine rs_k 3 rfl rfl (k_callf Try.func21 rfl rfl rfl rfl ?_)
                      refine Calls.mono (without_calls x.name (mono_sl mono_Op7 (hg3.trans hg4) hl) (hw.xP (A := RO g4))) ?_
                      rintro _ w ⟨wv, wcells, rfl, hwels, hw⟩
                      obtain ⟨wa, wc, rfl, _, _, _⟩ := hw.own_shape
                      have hlen : wcells.length = (withoutO l x.name).length * 5 := hwels.len
                      have hone := hwels.ones one_Op7
                      have hwl := without_len l x.name
                      refine ⟨_, rfl, ?_⟩
                      refine ⟨fun _ => (by exact Sat.sub hw (by (repeat (first | with_reducible exact Sub.refl _ | exact Sub.nil _ | (apply Sub.cons; focus ((repeat (first | with_reducible exact Pick.here _ | apply Pick.there)); (first | done | fail))) | with_reducible apply Sub.drop)); first | done | fail)), ?_⟩
                      refine rs_k 6 rfl rfl (k_append (news := [_, _, _, _, _]) hw T.sl_41_46_5 T.zero_46 T.bytes_46_72 rfl (by decide) rfl rfl (by (repeat first | with_reducible exact xH | apply xT); first | done | fail) rfl (by exact sat_cells hw (by (repeat first | with_reducible exact xH | apply xT); first | done | fail) ⟨rfl, rfl, rfl, rfl, rfl, trivial⟩) (by simp [Value.oneCell']) (by omega) (by simp only [maxLen]; omega) rfl (fun vv19_6 w hw hnil => ?_))
                      refine ⟨fun hn => absurd (by decide) hn, ?_⟩
                      refine rs_kv 7 rfl rfl rfl rfl (S' := fun _ => True) trivial (v_assign rfl) ?_
                      refine rs_done (g_le (xK (xK (xK (xK (xK (xK (xK (xK (Fr.le_refl _))))))))) ?_)
                      refine g_inBlock ?_
                      have hst1 := hst.len
                      have hst2 := hst.ents
                      obtain ⟨g6, hg6, hl6, hw⟩ := (hw.xQ : Sat (envOf W) w (RO g4 :: OwnSl 46 5 vv19_6 ((withoutO l x.name).length + 1) (wcells ++ [.int .i64 x.do_, .string x.name, .string x.value, .slice sa sn sc, .int .i64 x.back]) :: A4 :: OwnSl 25 4 (.slice ra hs.length rc) (hs : List Hist).length (List.flatMap (fun x : Hist => x.1.cells) hs) :: OwnSl 41 1 (.slice ma hs.length mc) (hs : List Hist).length (List.map (fun x : Hist => x.2.1) hs) :: pt bk4_6 (.cells root4.cells.toArray 25 (0, 0)) :: [])).freeze_sl (bytes := 72) mono_Op7 (hwels.append (Els.one rfl (mono_Op7 (hg3.trans hg4) hrd))) (by simp) (by simp only [List.length_append, List.length_singleton, reachBytes]; omega)
                      exact joinb2 (g6, s4, A4, root4, vv19_6, withoutO l x.name ++ [x]) w _ (by repeat (first | exact Fr.le_nil _ | refine Fr.le_cons rfl ?_)) ⟨hg3.trans (hg4.trans hg6), HeapI.mono hg6 hI4, hok4, ⟨q4, u4, hst.tree, by rw [hst2]; exact hmp.ins x⟩, by simp only [List.length_append, List.length_singleton]; omega, hst.ext, by simp only; omega, hl6, hw.xQ⟩
                  · skip
                    refine (k_alloc hw T.zero_25 rfl rfl (fun bk15_9 w hw => ?_))
                    refine ⟨fun _ => (by exact Sat.sub hw (by (repeat (first | with_reducible exact Sub.refl _ | exact Sub.nil _ | (apply Sub.cons; focus ((repeat (first | with_reducible exact Pick.here _ | apply Pick.there)); (first | done | fail))) | with_reducible apply Sub.drop)); first | done | fail)), ?_⟩
                    refine rs_k 5 rfl rfl (k_callf Try.func20 rfl rfl rfl rfl ?_)
                    obtain ⟨g3, hg3, hvn, hw⟩ := ((hw.xP (A := pt vb (.cells (⟨1, x.value, ByteArray.empty⟩ : Vn).cells.toArray 53 (0, 0)))).xP (A := RO g)).freeze_lit (R := rdVn) (sz := 3) (bytes := 40) mono_Vn (xs := [⟨1, x.value, ByteArray.empty⟩]) (Els.one rfl ⟨rfl, sec_ok hvs⟩) rfl (by simp [maxLen]) (by simp [reachBytes])
                    have hen : rdEn g3 [.string x.name, .slice (some ⟨vb, 0, none⟩) 1 1] (secO x) := ⟨_, _, rfl, ⟨rfl, hns⟩, hvn⟩
                    refine Calls.mono (tput_calls hen ht (by omega) (by omega) hrk (HeapI.mono hg3 hI) (hw.xQ)) ?_
                    rintro _ w ⟨g4, A4, s4, root4, q4, u4, hg4, hI4, rfl, hok4, hst, _, h74, hw⟩
                    refine ⟨_, rfl, ?_⟩
                    refine ⟨fun hn => absurd (by decide) hn, ?_⟩
                    refine rs_kv 6 rfl rfl rfl rfl (S' := fun _ => True) trivial (v_move rfl) ?_
                    refine rs_a 7 rfl rfl rfl rfl (v_extract rfl rfl) ?_
                    refine rs_a 8 rfl rfl rfl rfl (v_extract rfl rfl) ?_
                    refine rs_k 10 rfl rfl (k_storeWhole hw T.agg_25_4 rfl rfl (by simp [Value.oneCell']) rfl (by (repeat first | with_reducible exact xH | apply xT); first | done | fail) rfl (fun w hw => ?_))
                    refine ⟨fun hn => absurd (by decide) hn, ?_⟩
                    refine rs_kv 11 rfl rfl rfl rfl (S' := fun _ => True) trivial (v_assign rfl) ?_
                    refine rs_done (g_le (xK (xK (xK (xK (xK (xK (xK (xK (xK (xK (xK (Fr.le_refl _)))))))))))) ?_)
                    refine g_seq (g_seq ?_)
                    refine g_region ?_
                    refine xV rfl rfl rfl (v_move rfl) ?_
                    refine xV rfl rfl rfl (v_neqF rfl rfl (by omega)) ?_
                    refine rl_nil (g_le (xK (xK (Fr.le_refl _))) ?_)
                    refine g_cond_false rfl ?_
                    refine g_skip (g_seq ?_)
                    refine g_region ?_
                    refine rl_v rfl rfl rfl (by exact sat_cells hw (by (repeat first | with_reducible exact xH | apply xT); first | done | fail) ⟨rfl, rfl, rfl, rfl, trivial⟩) (v_loadAgg (vs := [_, _, _, _]) T.agg_25_4 rfl rfl) ?_
                    refine rl_k rfl (k_storeWhole hw T.agg_25_4 rfl rfl (by simp [Value.oneCell']) rfl (by (repeat first | with_reducible exact xH | apply xT); first | done | fail) rfl (fun w hw => ?_))
                    refine rl_nil (g_le (xK (Fr.le_refl _)) ?_)
                    refine g_drawR ord_f9_r19_H07M (by kernel_rfl) T.mixed hw (fun w hw => ?_)
                    refine rs_a 0 rfl rfl rfl rfl (v_move rfl) ?_
                    refine rs_a 1 rfl rfl rfl rfl (v_fieldAddr0 T.fld_46_1_1 rfl) ?_
                    refine rs_v 2 rfl rfl rfl rfl (OpV.mono (v_load T.scal_9 rfl) (fun w hw => by exact sat_cell hw (by (repeat first | with_reducible exact xH | apply xT); first | done | fail) rfl)) (by exact hw) ?_
                    refine rs_v 4 rfl rfl rfl rfl (OpV.mono (v_loadAgg (vs := [_, _, _, _, _]) T.agg_46_5 rfl rfl) (fun w hw => by exact sat_cells hw (by (repeat first | with_reducible exact xH | apply xT); first | done | fail) ⟨rfl, rfl, rfl, rfl, rfl, trivial⟩)) (by exact hw) ?_
                    refine rs_b2 3 5 rfl rfl rfl rfl ?_ ?_ 
                    · skip
                      refine (k_callf Try.func21 rfl rfl rfl rfl ?_)
                      refine Calls.mono (without_calls x.name (mono_sl mono_Op7 (hg3.trans hg4) hl) (hw.xP (A := RO g4))) ?_
                      rintro _ w ⟨wv, wcells, rfl, hwels, hw⟩
                      obtain ⟨wa, wc, rfl, _, _, _⟩ := hw.own_shape
                      have hlen : wcells.length = (withoutO l x.name).length * 5 := hwels.len
                      have hone := hwels.ones one_Op7
                      have hwl := without_len l x.name
                      refine ⟨_, rfl, ?_⟩
                      refine ⟨fun _ => (by exact Sat.sub hw (by (repeat (first | with_reducible exact Sub.refl _ | exact Sub.nil _ | (apply Sub.cons; focus ((repeat (first | with_reducible exact Pick.here _ | apply Pick.there)); (first | done | fail))) | with_reducible apply Sub.drop)); first | done | fail)), ?_⟩
                      refine rs_k 5 rfl rfl (k_buildSlice (cells := [_, _, _, _, _]) hw T.sl_41_46_5 T.zero_46 rfl rfl rfl rfl rfl rfl (fun bk19_5 w hw => ?_))
                      refine ⟨fun _ => (by exact Sat.sub hw (by (repeat (first | with_reducible exact Sub.refl _ | exact Sub.nil _ | (apply Sub.cons; focus ((repeat (first | with_reducible exact Pick.here _ | apply Pick.there)); (first | done | fail))) | with_reducible apply Sub.drop)); first | done | fail)), ?_⟩
                      refine rs_k 6 rfl rfl (k_append (news := [_, _, _, _, _]) hw T.sl_41_46_5 T.zero_46 T.bytes_46_72 rfl (by decide) rfl rfl (by (repeat first | with_reducible exact xH | apply xT); first | done | fail) rfl (by exact sat_cells hw (by (repeat first | with_reducible exact xH | apply xT); first | done | fail) ⟨rfl, rfl, rfl, rfl, rfl, trivial⟩) (by simp [Value.oneCell']) (by omega) (by simp only [maxLen]; omega) rfl (fun vv19_6 w hw hnil => ?_))
                      refine ⟨fun hn => absurd (by decide) hn, ?_⟩
                      refine rs_kv 7 rfl rfl rfl rfl (S' := fun _ => True) trivial (v_assign rfl) ?_
                      refine rs_done (g_le (xK (xK (xK (xK (xK (xK (xK (xK (Fr.le_refl _))))))))) ?_)
                      refine g_inBlock ?_
                      have hst1 := hst.len
                      have hst2 := hst.ents
                      obtain ⟨g6, hg6, hl6, hw⟩ := (hw.xQ : Sat (envOf W) w (RO g4 :: OwnSl 46 5 vv19_6 ((withoutO l x.name).length + 1) (wcells ++ [.int .i64 x.do_, .string x.name, .string x.value, .slice sa sn sc, .int .i64 x.back]) :: A4 :: OwnSl 25 4 (.slice ra hs.length rc) (hs : List Hist).length (List.flatMap (fun x : Hist => x.1.cells) hs) :: OwnSl 41 1 (.slice ma hs.length mc) (hs : List Hist).length (List.map (fun x : Hist => x.2.1) hs) :: pt bk4_6 (.cells root4.cells.toArray 25 (0, 0)) :: [])).freeze_sl (bytes := 72) mono_Op7 (hwels.append (Els.one rfl (mono_Op7 (hg3.trans hg4) hrd))) (by simp) (by simp only [List.length_append, List.length_singleton, reachBytes]; omega)
                      exact joinb2 (g6, s4, A4, root4, vv19_6, withoutO l x.name ++ [x]) w _ (by repeat (first | exact Fr.le_nil _ | refine Fr.le_cons rfl ?_)) ⟨hg3.trans (hg4.trans hg6), HeapI.mono hg6 hI4, hok4, ⟨q4, u4, hst.tree, by rw [hst2]; exact hmp.ins x⟩, by simp only [List.length_append, List.length_singleton]; omega, hst.ext, by simp only; omega, hl6, hw.xQ⟩
                    · skip
                      refine (k_buildSlice (cells := [_, _, _, _, _]) hw T.sl_41_46_5 T.zero_46 rfl rfl rfl rfl rfl rfl (fun bk19_5 w hw => ?_))
                      refine ⟨fun _ => (by exact Sat.sub hw (by (repeat (first | with_reducible exact Sub.refl _ | exact Sub.nil _ | (apply Sub.cons; focus ((repeat (first | with_reducible exact Pick.here _ | apply Pick.there)); (first | done | fail))) | with_reducible apply Sub.drop)); first | done | fail)), ?_⟩
                      refine rs_k 3 rfl rfl (k_callf Try.func21 rfl rfl rfl rfl ?_)
                      refine Calls.mono (without_calls x.name (mono_sl mono_Op7 (hg3.trans hg4) hl) (hw.xP (A := RO g4))) ?_
                      rintro _ w ⟨wv, wcells, rfl, hwels, hw⟩
                      obtain ⟨wa, wc, rfl, _, _, _⟩ := hw.own_shape
                      have hlen : wcells.length = (withoutO l x.name).length * 5 := hwels.len
                      have hone := hwels.ones one_Op7
                      have hwl := without_len l x.name
                      refine ⟨_, rfl, ?_⟩
                      refine ⟨fun _ => (by exact Sat.sub hw (by (repeat (first | with_reducible exact Sub.refl _ | exact Sub.nil _ | (apply Sub.cons; focus ((repeat (first | with_reducible exact Pick.here _ | apply Pick.there)); (first | done | fail))) | with_reducible apply Sub.drop)); first | done | fail)), ?_⟩
                      refine rs_k 6 rfl rfl (k_append (news := [_, _, _, _, _]) hw T.sl_41_46_5 T.zero_46 T.bytes_46_72 rfl (by decide) rfl rfl (by (repeat first | with_reducible exact xH | apply xT); first | done | fail) rfl (by exact sat_cells hw (by (repeat first | with_reducible exact xH | apply xT); first | done | fail) ⟨rfl, rfl, rfl, rfl, rfl, trivial⟩) (by simp [Value.oneCell']) (by omega) (by simp only [maxLen]; omega) rfl (fun vv19_6 w hw hnil => ?_))
                      refine ⟨fun hn => absurd (by decide) hn, ?_⟩
                      refine rs_kv 7 rfl rfl rfl rfl (S' := fun _ => True) trivial (v_assign rfl) ?_
                      refine rs_done (g_le (xK (xK (xK (xK (xK (xK (xK (xK (Fr.le_refl _))))))))) ?_)
                      refine g_inBlock ?_
                      have hst1 := hst.len
                      have hst2 := hst.ents
                      obtain ⟨g6, hg6, hl6, hw⟩ := (hw.xQ : Sat (envOf W) w (RO g4 :: OwnSl 46 5 vv19_6 ((withoutO l x.name).length + 1) (wcells ++ [.int .i64 x.do_, .string x.name, .string x.value, .slice sa sn sc, .int .i64 x.back]) :: A4 :: OwnSl 25 4 (.slice ra hs.length rc) (hs : List Hist).length (List.flatMap (fun x : Hist => x.1.cells) hs) :: OwnSl 41 1 (.slice ma hs.length mc) (hs : List Hist).length (List.map (fun x : Hist => x.2.1) hs) :: pt bk4_6 (.cells root4.cells.toArray 25 (0, 0)) :: [])).freeze_sl (bytes := 72) mono_Op7 (hwels.append (Els.one rfl (mono_Op7 (hg3.trans hg4) hrd))) (by simp) (by simp only [List.length_append, List.length_singleton, reachBytes]; omega)
                      exact joinb2 (g6, s4, A4, root4, vv19_6, withoutO l x.name ++ [x]) w _ (by repeat (first | exact Fr.le_nil _ | refine Fr.le_cons rfl ?_)) ⟨hg3.trans (hg4.trans hg6), HeapI.mono hg6 hI4, hok4, ⟨q4, u4, hst.tree, by rw [hst2]; exact hmp.ins x⟩, by simp only [List.length_append, List.length_singleton]; omega, hst.ext, by simp only; omega, hl6, hw.xQ⟩
                · skip
                  refine (k_alloc hw T.zero_25 rfl rfl (fun bk15_9 w hw => ?_))
                  refine ⟨fun _ => (by exact Sat.sub hw (by (repeat (first | with_reducible exact Sub.refl _ | exact Sub.nil _ | (apply Sub.cons; focus ((repeat (first | with_reducible exact Pick.here _ | apply Pick.there)); (first | done | fail))) | with_reducible apply Sub.drop)); first | done | fail)), ?_⟩
                  refine rs_k 4 rfl rfl (k_callf Try.func19 rfl rfl rfl rfl ?_)
                  refine Calls.mono (secret_calls (hw.xQ) rfl) ?_
                  rintro _ w ⟨vb, rfl, hw⟩
                  refine ⟨_, rfl, ?_⟩
                  refine ⟨fun _ => (by exact Sat.sub hw (by (repeat (first | with_reducible exact Sub.refl _ | exact Sub.nil _ | (apply Sub.cons; focus ((repeat (first | with_reducible exact Pick.here _ | apply Pick.there)); (first | done | fail))) | with_reducible apply Sub.drop)); first | done | fail)), ?_⟩
                  refine rs_k 5 rfl rfl (k_callf Try.func20 rfl rfl rfl rfl ?_)
                  obtain ⟨g3, hg3, hvn, hw⟩ := ((hw.xP (A := pt vb (.cells (⟨1, x.value, ByteArray.empty⟩ : Vn).cells.toArray 53 (0, 0)))).xP (A := RO g)).freeze_lit (R := rdVn) (sz := 3) (bytes := 40) mono_Vn (xs := [⟨1, x.value, ByteArray.empty⟩]) (Els.one rfl ⟨rfl, sec_ok hvs⟩) rfl (by simp [maxLen]) (by simp [reachBytes])
                  have hen : rdEn g3 [.string x.name, .slice (some ⟨vb, 0, none⟩) 1 1] (secO x) := ⟨_, _, rfl, ⟨rfl, hns⟩, hvn⟩
                  refine Calls.mono (tput_calls hen ht (by omega) (by omega) hrk (HeapI.mono hg3 hI) (hw.xQ)) ?_
                  rintro _ w ⟨g4, A4, s4, root4, q4, u4, hg4, hI4, rfl, hok4, hst, _, h74, hw⟩
                  refine ⟨_, rfl, ?_⟩
                  refine ⟨fun hn => absurd (by decide) hn, ?_⟩
                  refine rs_kv 6 rfl rfl rfl rfl (S' := fun _ => True) trivial (v_move rfl) ?_
                  refine rs_a 7 rfl rfl rfl rfl (v_extract rfl rfl) ?_
                  refine rs_a 8 rfl rfl rfl rfl (v_extract rfl rfl) ?_
                  refine rs_k 10 rfl rfl (k_storeWhole hw T.agg_25_4 rfl rfl (by simp [Value.oneCell']) rfl (by (repeat first | with_reducible exact xH | apply xT); first | done | fail) rfl (fun w hw => ?_))
                  refine ⟨fun hn => absurd (by decide) hn, ?_⟩
                  refine rs_kv 11 rfl rfl rfl rfl (S' := fun _ => True) trivial (v_assign rfl) ?_
                  refine rs_done (g_le (xK (xK (xK (xK (xK (xK (xK (xK (xK (xK (xK (Fr.le_refl _)))))))))))) ?_)
                  refine g_seq (g_seq ?_)
                  refine g_region ?_
                  refine xV rfl rfl rfl (v_move rfl) ?_
                  refine xV rfl rfl rfl (v_neqF rfl rfl (by omega)) ?_
                  refine rl_nil (g_le (xK (xK (Fr.le_refl _))) ?_)
                  refine g_cond_false rfl ?_
                  refine g_skip (g_seq ?_)
                  refine g_region ?_
                  refine rl_v rfl rfl rfl (by exact sat_cells hw (by (repeat first | with_reducible exact xH | apply xT); first | done | fail) ⟨rfl, rfl, rfl, rfl, trivial⟩) (v_loadAgg (vs := [_, _, _, _]) T.agg_25_4 rfl rfl) ?_
                  refine rl_k rfl (k_storeWhole hw T.agg_25_4 rfl rfl (by simp [Value.oneCell']) rfl (by (repeat first | with_reducible exact xH | apply xT); first | done | fail) rfl (fun w hw => ?_))
                  refine rl_nil (g_le (xK (Fr.le_refl _)) ?_)
                  refine g_drawR ord_f9_r19_H07M (by kernel_rfl) T.mixed hw (fun w hw => ?_)
                  refine rs_a 0 rfl rfl rfl rfl (v_move rfl) ?_
                  refine rs_a 1 rfl rfl rfl rfl (v_fieldAddr0 T.fld_46_1_1 rfl) ?_
                  refine rs_v 2 rfl rfl rfl rfl (OpV.mono (v_load T.scal_9 rfl) (fun w hw => by exact sat_cell hw (by (repeat first | with_reducible exact xH | apply xT); first | done | fail) rfl)) (by exact hw) ?_
                  refine rs_v 4 rfl rfl rfl rfl (OpV.mono (v_loadAgg (vs := [_, _, _, _, _]) T.agg_46_5 rfl rfl) (fun w hw => by exact sat_cells hw (by (repeat first | with_reducible exact xH | apply xT); first | done | fail) ⟨rfl, rfl, rfl, rfl, rfl, trivial⟩)) (by exact hw) ?_
                  refine rs_b2 3 5 rfl rfl rfl rfl ?_ ?_ 
                  · skip
                    refine (k_callf Try.func21 rfl rfl rfl rfl ?_)
                    refine Calls.mono (without_calls x.name (mono_sl mono_Op7 (hg3.trans hg4) hl) (hw.xP (A := RO g4))) ?_
                    rintro _ w ⟨wv, wcells, rfl, hwels, hw⟩
                    obtain ⟨wa, wc, rfl, _, _, _⟩ := hw.own_shape
                    have hlen : wcells.length = (withoutO l x.name).length * 5 := hwels.len
                    have hone := hwels.ones one_Op7
                    have hwl := without_len l x.name
                    refine ⟨_, rfl, ?_⟩
                    refine ⟨fun _ => (by exact Sat.sub hw (by (repeat (first | with_reducible exact Sub.refl _ | exact Sub.nil _ | (apply Sub.cons; focus ((repeat (first | with_reducible exact Pick.here _ | apply Pick.there)); (first | done | fail))) | with_reducible apply Sub.drop)); first | done | fail)), ?_⟩
                    refine rs_k 5 rfl rfl (k_buildSlice (cells := [_, _, _, _, _]) hw T.sl_41_46_5 T.zero_46 rfl rfl rfl rfl rfl rfl (fun bk19_5 w hw => ?_))
                    refine ⟨fun _ => (by exact Sat.sub hw (by (repeat (first | with_reducible exact Sub.refl _ | exact Sub.nil _ | (apply Sub.cons; focus ((repeat (first | with_reducible exact Pick.here _ | apply Pick.there)); (first | done | fail))) | with_reducible apply Sub.drop)); first | done | fail)), ?_⟩
                    refine rs_k 6 rfl rfl (k_append (news := [_, _, _, _, _]) hw T.sl_41_46_5 T.zero_46 T.bytes_46_72 rfl (by decide) rfl rfl (by (repeat first | with_reducible exact xH | apply xT); first | done | fail) rfl (by exact sat_cells hw (by (repeat first | with_reducible exact xH | apply xT); first | done | fail) ⟨rfl, rfl, rfl, rfl, rfl, trivial⟩) (by simp [Value.oneCell']) (by omega) (by simp only [maxLen]; omega) rfl (fun vv19_6 w hw hnil => ?_))
                    refine ⟨fun hn => absurd (by decide) hn, ?_⟩
                    refine rs_kv 7 rfl rfl rfl rfl (S' := fun _ => True) trivial (v_assign rfl) ?_
                    refine rs_done (g_le (xK (xK (xK (xK (xK (xK (xK (xK (Fr.le_refl _))))))))) ?_)
                    refine g_inBlock ?_
                    have hst1 := hst.len
                    have hst2 := hst.ents
                    obtain ⟨g6, hg6, hl6, hw⟩ := (hw.xQ : Sat (envOf W) w (RO g4 :: OwnSl 46 5 vv19_6 ((withoutO l x.name).length + 1) (wcells ++ [.int .i64 x.do_, .string x.name, .string x.value, .slice sa sn sc, .int .i64 x.back]) :: A4 :: OwnSl 25 4 (.slice ra hs.length rc) (hs : List Hist).length (List.flatMap (fun x : Hist => x.1.cells) hs) :: OwnSl 41 1 (.slice ma hs.length mc) (hs : List Hist).length (List.map (fun x : Hist => x.2.1) hs) :: pt bk4_6 (.cells root4.cells.toArray 25 (0, 0)) :: [])).freeze_sl (bytes := 72) mono_Op7 (hwels.append (Els.one rfl (mono_Op7 (hg3.trans hg4) hrd))) (by simp) (by simp only [List.length_append, List.length_singleton, reachBytes]; omega)
                    exact joinb2 (g6, s4, A4, root4, vv19_6, withoutO l x.name ++ [x]) w _ (by repeat (first | exact Fr.le_nil _ | refine Fr.le_cons rfl ?_)) ⟨hg3.trans (hg4.trans hg6), HeapI.mono hg6 hI4, hok4, ⟨q4, u4, hst.tree, by rw [hst2]; exact hmp.ins x⟩, by simp only [List.length_append, List.length_singleton]; omega, hst.ext, by simp only; omega, hl6, hw.xQ⟩
                  · skip
                    refine (k_buildSlice (cells := [_, _, _, _, _]) hw T.sl_41_46_5 T.zero_46 rfl rfl rfl rfl rfl rfl (fun bk19_5 w hw => ?_))
                    refine ⟨fun _ => (by exact Sat.sub hw (by (repeat (first | with_reducible exact Sub.refl _ | exact Sub.nil _ | (apply Sub.cons; focus ((repeat (first | with_reducible exact Pick.here _ | apply Pick.there)); (first | done | fail))) | with_reducible apply Sub.drop)); first | done | fail)), ?_⟩
                    refine rs_k 3 rfl rfl (k_callf Try.func21 rfl rfl rfl rfl ?_)
                    refine Calls.mono (without_calls x.name (mono_sl mono_Op7 (hg3.trans hg4) hl) (hw.xP (A := RO g4))) ?_
                    rintro _ w ⟨wv, wcells, rfl, hwels, hw⟩
                    obtain ⟨wa, wc, rfl, _, _, _⟩ := hw.own_shape
                    have hlen : wcells.length = (withoutO l x.name).length * 5 := hwels.len
                    have hone := hwels.ones one_Op7
                    have hwl := without_len l x.name
                    refine ⟨_, rfl, ?_⟩
                    refine ⟨fun _ => (by exact Sat.sub hw (by (repeat (first | with_reducible exact Sub.refl _ | exact Sub.nil _ | (apply Sub.cons; focus ((repeat (first | with_reducible exact Pick.here _ | apply Pick.there)); (first | done | fail))) | with_reducible apply Sub.drop)); first | done | fail)), ?_⟩
                    refine rs_k 6 rfl rfl (k_append (news := [_, _, _, _, _]) hw T.sl_41_46_5 T.zero_46 T.bytes_46_72 rfl (by decide) rfl rfl (by (repeat first | with_reducible exact xH | apply xT); first | done | fail) rfl (by exact sat_cells hw (by (repeat first | with_reducible exact xH | apply xT); first | done | fail) ⟨rfl, rfl, rfl, rfl, rfl, trivial⟩) (by simp [Value.oneCell']) (by omega) (by simp only [maxLen]; omega) rfl (fun vv19_6 w hw hnil => ?_))
                    refine ⟨fun hn => absurd (by decide) hn, ?_⟩
                    refine rs_kv 7 rfl rfl rfl rfl (S' := fun _ => True) trivial (v_assign rfl) ?_
                    refine rs_done (g_le (xK (xK (xK (xK (xK (xK (xK (xK (Fr.le_refl _))))))))) ?_)
                    refine g_inBlock ?_
                    have hst1 := hst.len
                    have hst2 := hst.ents
                    obtain ⟨g6, hg6, hl6, hw⟩ := (hw.xQ : Sat (envOf W) w (RO g4 :: OwnSl 46 5 vv19_6 ((withoutO l x.name).length + 1) (wcells ++ [.int .i64 x.do_, .string x.name, .string x.value, .slice sa sn sc, .int .i64 x.back]) :: A4 :: OwnSl 25 4 (.slice ra hs.length rc) (hs : List Hist).length (List.flatMap (fun x : Hist => x.1.cells) hs) :: OwnSl 41 1 (.slice ma hs.length mc) (hs : List Hist).length (List.map (fun x : Hist => x.2.1) hs) :: pt bk4_6 (.cells root4.cells.toArray 25 (0, 0)) :: [])).freeze_sl (bytes := 72) mono_Op7 (hwels.append (Els.one rfl (mono_Op7 (hg3.trans hg4) hrd))) (by simp) (by simp only [List.length_append, List.length_singleton, reachBytes]; omega)
                    exact joinb2 (g6, s4, A4, root4, vv19_6, withoutO l x.name ++ [x]) w _ (by repeat (first | exact Fr.le_nil _ | refine Fr.le_cons rfl ?_)) ⟨hg3.trans (hg4.trans hg6), HeapI.mono hg6 hI4, hok4, ⟨q4, u4, hst.tree, by rw [hst2]; exact hmp.ins x⟩, by simp only [List.length_append, List.length_singleton]; omega, hst.ext, by simp only; omega, hl6, hw.xQ⟩
  · try with_reducible exact tf_elim h3
    all_goals
      try replace h3 := of_decide_eq_false h3
      refine g_exit rfl (g_seq (g_seq ?_))
      have hlens : hs.length ≤ 41 := by omega
      refine g_region ?_
      refine xV rfl rfl rfl (v_move rfl) ?_
      refine xV rfl rfl rfl (v_lenSlice T.sl_28_25_4 rfl) ?_
      refine xV rfl rfl rfl (v_move rfl) ?_
      refine rl_nil (g_le (xK (xK (xS rfl (Fr.le_refl _)))) ?_)
      refine g_block ?_
      refine g_loopC (σ := Int × Hp × As) (fun C x => (138, .int .i64 x.1) :: C) [(2, _), (3, _), (6, _), (8, _), (137, _)] (by repeat (first | exact Fr.le_nil _ | refine Fr.le_cons rfl ?_)) (fun z w => 0 ≤ z.1 ∧ z.1 ≤ hs.length ∧ g.le z.2.1 ∧ HeapI h z.2.1 s z.2.2 ∧ Sat (envOf W) w (z.2.2 :: OwnSl 25 4 (.slice ra hs.length rc) (hs : List Hist).length (List.flatMap (fun x : Hist => x.1.cells) hs) :: OwnSl 41 1 (.slice ma hs.length mc) (hs : List Hist).length (List.map (fun x : Hist => x.2.1) hs) :: RO z.2.1 :: [])) (fun z => (hs.length - z.1).toNat) ?_ (0, g, A) (by repeat (first | exact Fr.le_nil _ | refine Fr.le_cons rfl ?_)) ⟨by simp, by simp, Hp.le_refl _, hI, hw.xQ⟩
      rintro ⟨j, g2, A2⟩ w ⟨hj0, hj1, hg2, hI2, hw⟩ ih2
      dsimp only at hj0 hj1 hg2 hI2 hw ih2 ⊢
      refine g_seq ?_
      refine g_region ?_
      refine xV rfl rfl rfl (v_lss rfl rfl) ?_
      refine rl_nil (g_le (xK (Fr.le_refl _)) ?_)
      refine g_seq ?_
      refine g_cond rfl (fun h10 => ?_) (fun h10 => ?_)
      · try with_reducible exact ft_elim h10
        all_goals
          try replace h10 := of_decide_eq_true h10
          refine g_skip (g_seq (g_block (g_seq ?_)))
          refine g_region ?_
          refine xV rfl rfl rfl (v_move rfl) ?_
          refine xV rfl rfl rfl (v_assign rfl) ?_
          refine rl_nil (g_le (xK (xK (Fr.le_refl _))) ?_)
          refine g_seq ?_
          have hz := hw
          clear hw
          obtain ⟨rb, rfl⟩ := hra (by omega)
          obtain ⟨mb, rfl⟩ := hma (by omega)
          obtain ⟨y, hy⟩ : ∃ y, hs[j.toNat]? = some y := ⟨_, List.getElem?_eq_getElem (by omega)⟩
          have hfy := hfi y (List.mem_of_getElem? hy)
          obtain ⟨yr, yv, yl⟩ := y
          obtain ⟨hyok, hyl, hyn, qy, uy, hty, hmy⟩ := hfy
          dsimp only at hyok hyl hyn hty hmy
          obtain ⟨ka, kn, kc, rfl⟩ := rdSl_shape hyl
          have hsub1 := subAt_flat (f := fun x : Hist => x.1.cells) (sz := 4) (fun _ => rfl) hy
          have hsub2 : SubAt (hs.map fun x : Hist => x.2.1) (0 + j.toNat * 1) [.slice ka kn kc] := ⟨by rw [List.getElem?_map, Nat.mul_one, Nat.zero_add, hy]; rfl, trivial⟩
          have h7y := hty.low (by have := ents_le hmy hyn; omega)
          have hw := (hz.xP (A := RO g2)).xP (A := A2)
          refine g_drawB ord_f9_r40_H07M (by kernel_rfl) T.mixed (fun w hw => ((hw.pick .at0).drop.pick .at0).drop) hw (fun w hw => ?_)
          refine rs_a 0 rfl rfl rfl rfl (v_move rfl) ?_
          refine rs_a 1 rfl rfl rfl rfl (v_move rfl) ?_
          refine rs_a 2 rfl rfl rfl rfl (v_move rfl) ?_
          refine rs_a 3 rfl rfl rfl rfl (v_indexAddr T.sl_28_25_4 rfl rfl (by omega) (by omega)) ?_
          refine rs_a 5 rfl rfl rfl rfl (v_move rfl) ?_
          refine rs_a 6 rfl rfl rfl rfl (v_move rfl) ?_
          refine rs_a 7 rfl rfl rfl rfl (v_indexAddr T.sl_77_41_1 rfl rfl (by omega) (by omega)) ?_
          refine rs_v 4 rfl rfl rfl rfl (OpV.mono (v_loadAgg (vs := [_, _, _, _]) T.agg_25_4 rfl rfl) (fun w hw => by exact own_cells hw (by (repeat first | with_reducible exact xH | apply xT); first | done | fail) (by assumption))) (by exact Sat.sub hw (by (repeat (first | with_reducible exact Sub.refl _ | exact Sub.nil _ | (apply Sub.cons; focus ((repeat (first | with_reducible exact Pick.here _ | apply Pick.there)); (first | done | fail))) | with_reducible apply Sub.drop)); first | done | fail)) ?_
          refine rs_kv 8 rfl rfl rfl rfl (by exact own_at0 hw (by (repeat first | with_reducible exact xH | apply xT); first | done | fail) (by assumption) rfl) (v_load T.scal_41 rfl) ?_
          refine rs_k 9 rfl rfl (k_callf Try.func25 rfl rfl rfl rfl ?_)
          refine Calls.mono (shows_calls (mono_sl mono_Op7 hg2 hyl) hmy hty (by omega) hyok hI2 (hw.xQ)) ?_
          rintro _ w ⟨g9, A9, hg9, hI9, rfl, hw⟩
          refine ⟨_, rfl, ?_⟩
          refine ⟨fun hn => absurd (by decide) hn, ?_⟩
          refine rs_kv 10 rfl rfl rfl rfl (S' := fun _ => True) trivial (v_not rfl) ?_
          refine rs_done (g_le (xK (xK (xK (xK (xK (xK (xK (xK (xK (xK (xK (Fr.le_refl _)))))))))))) ?_)
          refine g_cond rfl (fun h11 => ?_) (fun h11 => ?_)
          · try with_reducible exact ft_elim h11
            all_goals
              try replace h11 := of_decide_eq_true h11
              simp at h11
          · try with_reducible exact tf_elim h11
            all_goals
              try replace h11 := of_decide_eq_false h11
              refine g_skip (g_inBlock ?_)
              refine g_region ?_
              refine xV rfl rfl rfl (v_add rfl rfl (by omega)) ?_
              refine xV rfl rfl rfl (v_move rfl) ?_
              refine rl_nil (g_le (xK (xK (Fr.le_refl _))) ?_)
              exact g_le (by repeat (first | exact Fr.le_nil _ | refine Fr.le_cons rfl ?_)) (ih2 (j + 1, g9, A9) w ⟨by simp only; omega, by simp only; omega, hg2.trans hg9, hI9, hw.xQ⟩ (by simp only; omega))
      · try with_reducible exact tf_elim h10
        all_goals
          try replace h10 := of_decide_eq_false h10
          refine g_exit rfl (g_seq ?_)
          refine g_region ?_
          refine xV rfl rfl rfl (v_assign rfl) ?_
          refine rl_nil (g_le (xK (Fr.le_refl _)) ?_)
          refine g_ret1 Try.func9 rfl rfl ?_
          exact ⟨rfl, (hw.xQ : Sat (envOf W) w [RO g2]).shrink (hg.trans hg2)⟩

set_option maxRecDepth 100000 in
theorem TreeMap_lifted (os : Os) (started : os.Started) (H : Type) (enc : TypeId × Value → H) :
    ReturnsInHanded {} Try.checked os 9 .any (Rows.treeMapSpec.pre6 enc Try.prog Try.f9 Rows.treeMapRow.domain false) (Rows.treeMapSpec.post enc Try.prog Try.f9 false true false false) := by
  refine returnsInHanded_of_change_sized (C := Try.checked) T.own started (by kernel_rfl) Try.func9
    (ChangeSpec.witness6 (enc := enc) (C := Try.checked) false ⟨#[], #[(.slice none 0 0)], []⟩ 8 (by kernel_rfl) (by kernel_rfl) (by kernel_rfl) (by kernel_rfl)) ?_
  intro W base args ds gs before hval0 hW hcnd hsz0 _
  have hval : ∀ (j : Nat) t v, Try.f9.params[j]? = some t → args[j]? = some v → Value.okWide Try.prog W .any base t v := hval0
  have hW' := hW
  obtain ⟨p, q, hA0, hV, rfl, hfz, hnd⟩ := hW
  have hA : DataW.TrodAll enc Try.prog W 0 (fun _ => true) true Try.f9.params.toList args.toList ds p := hA0
  obtain ⟨rfl, rfl⟩ := trodVars_none hV
  have hsz : (DataW.weightsEach Try.prog (Try.f9.params.toList ++ []) (ds ++ [])).all (· ≤ reachBytes) = true := hsz0
  rw [List.append_nil, List.append_nil] at hsz
  rw [Try.params9] at hA hval hsz
  obtain ⟨v0, vs0, d0, ds0, p0, q0, hargs, rfl, rfl, h0, r0⟩ := trodAll_cons hA
  obtain ⟨rfl, rfl, rfl⟩ := trodAll_nil r0
  obtain rfl : args = #[v0] := by cases args; simp_all
  have lt0 : ∀ x ∈ p0, x.block < W.heap.size := by obtain ⟨m, hm⟩ := h0; exact DataW.trod_lt m _ _ _ hm
  obtain ⟨x0, w0⟩ := arg_of (j := 0) (reads_sl T.sl_41_46_5 T.bytes_46_72 (by decide) reads_Op7) h0 hsz rfl rfl
  obtain ⟨a0, l0, c0, rfl⟩ := okWide_slice Try.underlying41 (hval 0 41 v0 rfl rfl)
  refine (TreeMap_law w0).mono fun e W' ⟨he, hb⟩ => ?_
  have bel := hb.below
  subst he
  exact ⟨_, rfl, _, _, _, [], _, [], hW', trodAll_mk1 (shut_bool Try.underlying4 _), (trodAll_cons_mk (Below.trod T.laidOut (by kernel_rfl) (of_decide_eq_true (by kernel_rfl)) h0 bel lt0) trodAll_mk0), rfl, bel.frame _, fun h => by cases h⟩
theorem TreeMap_holds : Rows.TreeMapSaid :=
  OpenClaim.holds_of_wide 9 Try.f9 rfl rfl rfl rfl rfl rfl rfl ⟨rfl, rfl, rfl, rfl, rfl⟩ rfl rfl rfl rfl rfl (by kernel_rfl) Try.func9 (by kernel_rfl)
    (of_decide_eq_true (by kernel_rfl)) (by unfold Func.isWrapper; rw [if_neg (of_decide_eq_false (by kernel_rfl))]; exact ⟨rfl, rfl⟩)
    (fun os started H enc _ => TreeMap_lifted os started H enc)
#print axioms TreeMap_holds
end Go.Proofs.Ytmbngahboaljpaa
