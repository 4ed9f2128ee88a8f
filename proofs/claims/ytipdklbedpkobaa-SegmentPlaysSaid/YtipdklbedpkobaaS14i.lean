/-
  The log (layer 14): do places fit?
-/
import Derived.Test.YtipdklbedpkobaaS14h
namespace Go.Proofs.Ytipdklbedpkobaa
set_option maxRecDepth 8000
set_option linter.unusedSimpArgs false
set_option linter.unusedVariables false
open Go Xe Go.Lib
def within (u : Int → Int) (n : Nat) (p : Pl) : Prop := 0 ≤ p.seg ∧ p.seg < n ∧ 1 ≤ p.len ∧ 0 ≤ p.off ∧ p.off ≤ u p.seg - p.len
def apart (p q : Pl) : Prop := p.seg = q.seg → p.off + p.len ≤ q.off ∨ q.off + q.len ≤ p.off
/-- Places lie in what is used of their segments, none over another. -/
def fitsP (u : Int → Int) (n : Nat) (ps : List Pl) : Prop := (∀ p ∈ ps, within u n p) ∧ ps.Pairwise apart
theorem apart_symm {p q : Pl} (h : apart p q) : apart q p := fun e => (h e.symm).symm
def adj (ys : List Pl) (j : Nat) : Prop := ∀ p q, 0 < j → ys[j - 1]? = some p → ys[j]? = some q → ¬ (p.seg = q.seg ∧ p.off + p.len > q.off)
def ahead (p q : Pl) : Prop := p.seg < q.seg ∨ p.seg = q.seg ∧ p.off + p.len ≤ q.off
theorem adj_ahead : ∀ (ys : List Pl), (∀ p ∈ ys, 1 ≤ p.len) → ys.Pairwise (fun x y => Go.Proofs.ltOf cfP y x = false) → (∀ j, j < ys.length → adj ys j) → ys.Pairwise ahead
  | [], _, _, _ => .nil
  | [x], _, _, _ => by simp
  | x :: y :: zs, hl, hs, ha => by
    have hs2 := List.pairwise_cons.1 hs
    have ih := adj_ahead (y :: zs) (fun p hp => hl p (List.mem_cons_of_mem _ hp)) hs2.2 (fun j hj p q h0 hp hq => by
      refine ha (j + 1) (by simp at hj ⊢; omega) p q (by omega) ?_ (by rw [List.getElem?_cons_succ]; exact hq)
      obtain ⟨i, rfl⟩ : ∃ i, j = i + 1 := ⟨j - 1, by omega⟩
      exact hp)
    have hxy : ahead x y := by
      have h1 := hs2.1 y (by simp)
      have h2 := ha 1 (by simp) x y (by omega) rfl rfl
      rw [ltP] at h1
      simp only [decide_eq_false_iff_not] at h1
      unfold ahead
      omega
    refine List.pairwise_cons.2 ⟨fun z hz => ?_, ih⟩
    rcases List.mem_cons.1 hz with rfl | hz
    · exact hxy
    · have h3 := (List.pairwise_cons.1 ih).1 z hz
      have h4 := hl y (by simp)
      unfold ahead at *
      omega
theorem adj_apart {ys : List Pl} (hl : ∀ p ∈ ys, 1 ≤ p.len) (hs : ys.Pairwise (fun x y => Go.Proofs.ltOf cfP y x = false)) : (∀ j, j < ys.length → adj ys j) ↔ ys.Pairwise apart := by
  constructor
  · intro h
    refine (adj_ahead ys hl hs h).imp ?_
    intro p q hpq e
    unfold ahead at hpq
    omega
  · intro h j hj p q h0 hp hq ⟨h1, h2⟩
    have hj1 : j - 1 < ys.length := by omega
    have e1 : ys[j - 1] = p := by rw [List.getElem?_eq_getElem hj1] at hp; exact Option.some.inj hp
    have e2 : ys[j] = q := by rw [List.getElem?_eq_getElem hj] at hq; exact Option.some.inj hq
    have a1 := List.pairwise_iff_getElem.1 h (j - 1) j hj1 hj (by omega)
    have a2 := List.pairwise_iff_getElem.1 hs (j - 1) j hj1 hj (by omega)
    rw [e1, e2] at a1 a2
    rw [ltP] at a2
    simp only [decide_eq_false_iff_not] at a2
    have l2 := hl q (List.mem_of_getElem? hq)
    have l1 := hl p (List.mem_of_getElem? hp)
    have := a1 h1
    omega
theorem ord_f46_r4_S14i : orderOfB Try.f46 4 [] (.k 0 (.k 1 (.k 2 (.k 3 (.a 4 (.a 6 (.a 7 (.a 8 (.v 5 (.k 9 (.k 10 (.k 11 (.k 12 (.k 13 (.k 14 (.k 15 (.k 16 (.k 17 (.k 18 (.k 19 (.k 20 (.k 21 (.k 22 (.k 23 (.a 24 (.a 26 (.a 27 (.a 30 (.v 25 (.v 28 (.v 31 (.k 29 (.k 32 (.k 33 (.k 34 .done))))))))))))))))))))))))))))))))))) = true := by kernel_rfl
theorem ord_f46_r11_S14i : orderOfB Try.f46 11 [] (.k 0 (.k 1 (.k 2 (.a 3 (.a 4 (.a 5 (.a 6 (.a 7 (.a 9 (.v 8 (.k 10 (.k 11 (.k 12 (.k 13 (.a 14 (.a 15 (.a 16 (.a 17 (.a 18 (.a 20 (.a 21 (.a 22 (.a 23 (.a 24 (.a 27 (.v 19 (.v 25 (.a 26 (.k 28 (.k 29 (.k 30 .done))))))))))))))))))))))))))))))) = true := by kernel_rfl
set_option maxHeartbeats 2000000 in
theorem fits_calls {E : Env} {w : World} {L : List As} {l m b c : Nat} {o : Int} {ss : List Sg} {A U : As} {v fv : Value} {xs : List Pl} (u : Int → Int) (hb : ss.length ≤ 4096) (hS : SrcA A v xs) (hok : ∀ p ∈ xs, p.len ≤ 9223372036854775807)
    (hu : ∀ s : Int, 0 ≤ s → s < ss.length → 0 ≤ u s ∧ u s ≤ 1048576)
    (hused : ∀ (s : Int) (w : World) (M : List As), 0 ≤ s → s < ss.length → Sat E w (pt l (.cells [Value.pointer (some ⟨m, 0, none⟩), .int .i64 o, .slice (some ⟨b, 0, none⟩) (ss : List Sg).length c].toArray 47 (0, 0)) :: OwnSl 104 3 (.slice (some ⟨b, 0, none⟩) (ss).length c) (ss).length ((ss).flatMap Sg.cells) :: U :: M) → CallsV Try.prog fv #[.int .i64 s] w fun e w' => e = .returned (.int .i64 (u s)) ∧ Sat E w' (pt l (.cells [Value.pointer (some ⟨m, 0, none⟩), .int .i64 o, .slice (some ⟨b, 0, none⟩) (ss : List Sg).length c].toArray 47 (0, 0)) :: OwnSl 104 3 (.slice (some ⟨b, 0, none⟩) (ss).length c) (ss).length ((ss).flatMap Sg.cells) :: U :: M))
    (hw : Sat E w (pt l (.cells [Value.pointer (some ⟨m, 0, none⟩), .int .i64 o, .slice (some ⟨b, 0, none⟩) (ss : List Sg).length c].toArray 47 (0, 0)) :: OwnSl 104 3 (.slice (some ⟨b, 0, none⟩) (ss).length c) (ss).length ((ss).flatMap Sg.cells) :: U :: A :: L)) :
    Calls Try.prog 46 #[.pointer (some ⟨l, 0, none⟩), fv, v] w fun e w' => ∃ r, e = .returned (.bool r) ∧ (r = true ↔ fitsP u ss.length xs) ∧ Sat E w' (pt l (.cells [Value.pointer (some ⟨m, 0, none⟩), .int .i64 o, .slice (some ⟨b, 0, none⟩) (ss : List Sg).length c].toArray 47 (0, 0)) :: OwnSl 104 3 (.slice (some ⟨b, 0, none⟩) (ss).length c) (ss).length ((ss).flatMap Sg.cells) :: U :: A :: L) := by
  obtain ⟨a, c', rfl, hn, hat⟩ := id hS
  refine calls_of_g (n := 96) Try.func46 rfl rfl rfl ?_
  change G _ _ _ _ _ [(0, _), (1, _), (2, _)] _
  refine g_seq ?_
  refine g_region ?_
  refine xV rfl rfl rfl (v_assign rfl) ?_
  refine rl_nil (g_le (xK (Fr.le_refl _)) ?_)
  refine g_seq (g_seq ?_)
  refine g_region ?_
  refine xV rfl rfl rfl (v_move rfl) ?_
  refine xV rfl rfl rfl (v_lenSlice T.sl_70_58_3 rfl) ?_
  refine xV rfl rfl rfl (v_move rfl) ?_
  refine rl_nil (g_le (xK (xK (xK (Fr.le_refl _)))) ?_)
  refine g_block ?_
  refine g_loopC (σ := Nat) (fun C x => (14, .int .i64 (x : Nat)) :: C) [(0, _), (1, _), (2, _), (6, _), (12, _), (13, _)] (by repeat (first | exact Fr.le_nil _ | refine Fr.le_cons rfl ?_)) (fun z w => z ≤ xs.length ∧ (∀ j p, j < z → xs[j]? = some p → within u ss.length p) ∧ Sat E w (pt l (.cells [Value.pointer (some ⟨m, 0, none⟩), .int .i64 o, .slice (some ⟨b, 0, none⟩) (ss : List Sg).length c].toArray 47 (0, 0)) :: OwnSl 104 3 (.slice (some ⟨b, 0, none⟩) (ss).length c) (ss).length ((ss).flatMap Sg.cells) :: U :: A :: L)) (fun z => xs.length - z) ?_ 0 (by repeat (first | exact Fr.le_nil _ | refine Fr.le_cons rfl ?_)) ⟨by simp, by simp, hw⟩
  rintro i w ⟨hi, hall, hw⟩ ih
  refine g_seq ?_
  refine g_region ?_
  refine xV rfl rfl rfl (v_lss rfl rfl) ?_
  refine rl_nil (g_le (xK (Fr.le_refl _)) ?_)
  refine g_seq ?_
  refine g_cond rfl (fun h1 => ?_) (fun h1 => ?_)
  · try with_reducible exact ft_elim h1
    all_goals
      try replace h1 := of_decide_eq_true h1
      refine g_skip (g_seq (g_block (g_seq ?_)))
      have hlt : i < xs.length := by omega
      have hx : xs[i]? = some xs[i] := List.getElem?_eq_getElem hlt
      generalize xs[i] = x at hx
      obtain ⟨b', o', hab, hcx⟩ := hat i x hx
      subst hab
      rw [show i * 3 = (i : Int).toNat * 3 by omega] at hcx
      have hxl := hok x (List.mem_of_getElem? hx)
      refine g_region ?_
      refine xV rfl rfl rfl (v_indexAddr T.sl_70_58_3 rfl rfl (by omega) (by omega)) ?_
      refine rl_v rfl rfl rfl (by exact hcx _ _ _ (hw.xP)) (v_loadAgg (vs := [_, _, _]) T.agg_58_3 rfl rfl) ?_
      refine rl_k rfl (k_alloc hw T.zero_58 rfl rfl (fun bk3_2 w hw => ?_))
      refine rl_k rfl (k_storeWhole hw T.agg_58_3 rfl rfl (by simp [Value.oneCell']) rfl (by (repeat first | with_reducible exact xH | apply xT); first | done | fail) rfl (fun w hw => ?_))
      refine rl_nil (g_le (xK (xK (xK (Fr.le_refl _)))) ?_)
      refine g_seq ?_
      refine g_drawR ord_f46_r4_S14i (by kernel_rfl) T.mixed hw (fun w hw => ?_)
      refine rs_kv 0 rfl rfl rfl rfl (S' := fun _ => True) trivial (v_fieldAddr0 T.fld_58_0_0 rfl) ?_
      refine rs_kv 1 rfl rfl rfl rfl (by exact sat_cell hw (by (repeat first | with_reducible exact xH | apply xT); first | done | fail) rfl) (v_load T.scal_3 rfl) ?_
      refine rs_kv 2 rfl rfl rfl rfl (S' := fun _ => True) trivial (v_lss rfl rfl) ?_
      refine rs_kv 3 rfl rfl rfl rfl (S' := fun _ => True) trivial (v_move rfl) ?_
      refine rs_split (s := 21) rfl (fun g4_3 => ?_) (fun g4_3 => ?_)
      · try with_reducible exact ft_elim g4_3
        all_goals
          try replace g4_3 := of_decide_eq_true g4_3
          refine rs_aoff 4 rfl (met_off rfl rfl rfl rfl rfl) rfl rfl ?_
          refine rs_aoff 6 rfl (met_off rfl rfl rfl rfl rfl) rfl rfl ?_
          refine rs_aoff 7 rfl (met_off rfl rfl rfl rfl rfl) rfl rfl ?_
          refine rs_aoff 8 rfl (met_off rfl rfl rfl rfl rfl) rfl rfl ?_
          refine rs_voff 5 rfl (met_off rfl rfl rfl rfl rfl) rfl rfl (by exact hw) ?_
          refine rs_koff 9 rfl (met_off rfl rfl rfl rfl rfl) rfl rfl ?_
          refine rs_koff 10 rfl (met_off rfl rfl rfl rfl rfl) rfl rfl ?_
          refine rs_koff 11 rfl (met_off rfl rfl rfl rfl rfl) rfl rfl ?_
          refine rs_kv 12 rfl rfl rfl rfl (S' := fun _ => True) trivial (v_pick_true rfl rfl) ?_
          refine rs_kv 13 rfl rfl rfl rfl (S' := fun _ => True) trivial (v_move rfl) ?_
          refine rs_koff 14 rfl (met_off rfl rfl rfl rfl rfl) rfl rfl ?_
          refine rs_koff 15 rfl (met_off rfl rfl rfl rfl rfl) rfl rfl ?_
          refine rs_koff 16 rfl (met_off rfl rfl rfl rfl rfl) rfl rfl ?_
          refine rs_kv 17 rfl rfl rfl rfl (S' := fun _ => True) trivial (v_pick_true rfl rfl) ?_
          refine rs_kv 18 rfl rfl rfl rfl (S' := fun _ => True) trivial (v_move rfl) ?_
          refine rs_koff 19 rfl (met_off rfl rfl rfl rfl rfl) rfl rfl ?_
          refine rs_koff 20 rfl (met_off rfl rfl rfl rfl rfl) rfl rfl ?_
          refine rs_koff 21 rfl (met_off rfl rfl rfl rfl rfl) rfl rfl ?_
          refine rs_kv 22 rfl rfl rfl rfl (S' := fun _ => True) trivial (v_pick_true rfl rfl) ?_
          refine rs_kv 23 rfl rfl rfl rfl (S' := fun _ => True) trivial (v_move rfl) ?_
          refine rs_aoff 24 rfl (met_off rfl rfl rfl rfl rfl) rfl rfl ?_
          refine rs_aoff 26 rfl (met_off rfl rfl rfl rfl rfl) rfl rfl ?_
          refine rs_aoff 27 rfl (met_off rfl rfl rfl rfl rfl) rfl rfl ?_
          refine rs_aoff 30 rfl (met_off rfl rfl rfl rfl rfl) rfl rfl ?_
          refine rs_voff 25 rfl (met_off rfl rfl rfl rfl rfl) rfl rfl (by exact hw) ?_
          refine rs_voff 28 rfl (met_off rfl rfl rfl rfl rfl) rfl rfl (by exact hw) ?_
          refine rs_voff 31 rfl (met_off rfl rfl rfl rfl rfl) rfl rfl (by exact hw) ?_
          refine rs_koff 29 rfl (met_off rfl rfl rfl rfl rfl) rfl rfl ?_
          refine rs_koff 32 rfl (met_off rfl rfl rfl rfl rfl) rfl rfl ?_
          refine rs_koff 33 rfl (met_off rfl rfl rfl rfl rfl) rfl rfl ?_
          refine rs_kv 34 rfl rfl rfl rfl (S' := fun _ => True) trivial (v_pick_true rfl rfl) ?_
          refine rs_done (g_le (xK (xK (xK (xK (xK (xK (xK (xK (xK (xK (xK (xK (xK (xK (xK (xK (xK (xK (xK (xK (xK (xK (xK (xK (xK (xK (xK (xK (xK (xK (xK (xK (xK (xK (xK (xK (Fr.le_refl _))))))))))))))))))))))))))))))))))))) ?_)
          refine g_cond_true rfl ?_
          refine g_seq ?_
          refine g_region ?_
          refine xV rfl rfl rfl (v_assign rfl) ?_
          refine rl_nil (g_le (xK (Fr.le_refl _)) ?_)
          refine g_ret1 Try.func46 rfl rfl ?_
          refine ⟨false, rfl, ⟨fun h => absurd h (by simp), fun h => ?_⟩, hw.xQ⟩
          have h9 := h.1 x (List.mem_of_getElem? hx)
          unfold within at h9
          exfalso
          omega
      · try with_reducible exact tf_elim g4_3
        all_goals
          try replace g4_3 := of_decide_eq_false g4_3
          refine rs_ag 4 rfl (met_on rfl rfl rfl rfl) rfl rfl (v_fieldAddr0 T.fld_58_0_0 rfl) ?_
          refine rs_ag 6 rfl (met_on rfl rfl rfl rfl) rfl rfl (v_move rfl) ?_
          refine rs_ag 7 rfl (met_on rfl rfl rfl rfl) rfl rfl (v_nilCheck rfl) ?_
          refine rs_ag 8 rfl (met_on rfl rfl rfl rfl) rfl rfl (v_fieldAddr0 T.fld_47_2_2 rfl) ?_
          refine rs_vg 5 rfl (met_on rfl rfl rfl rfl) rfl rfl (OpV.mono (v_load T.scal_3 rfl) (fun w hw => by exact sat_cell hw (by (repeat first | with_reducible exact xH | apply xT); first | done | fail) rfl)) (by exact hw) ?_
          refine rs_kvg 9 rfl (met_on rfl rfl rfl rfl) rfl rfl (by exact sat_cell hw (by (repeat first | with_reducible exact xH | apply xT); first | done | fail) rfl) (v_load T.scal_45 rfl) ?_
          refine rs_kvg 10 rfl (met_on rfl rfl rfl rfl) rfl rfl (S' := fun _ => True) trivial (v_lenSlice T.sl_45_104_3 rfl) ?_
          refine rs_kvg 11 rfl (met_on rfl rfl rfl rfl) rfl rfl (S' := fun _ => True) trivial (v_geq rfl rfl) ?_
          refine rs_kv 12 rfl rfl rfl rfl (S' := fun _ => True) trivial (v_pick_false rfl rfl) ?_
          refine rs_kv 13 rfl rfl rfl rfl (S' := fun _ => True) trivial (v_move rfl) ?_
          refine rs_split (s := 31) rfl (fun g4_13 => ?_) (fun g4_13 => ?_)
          · try with_reducible exact ft_elim g4_13
            all_goals
              try replace g4_13 := of_decide_eq_true g4_13
              refine rs_koff 14 rfl (met_off rfl rfl rfl rfl rfl) rfl rfl ?_
              refine rs_koff 15 rfl (met_off rfl rfl rfl rfl rfl) rfl rfl ?_
              refine rs_koff 16 rfl (met_off rfl rfl rfl rfl rfl) rfl rfl ?_
              refine rs_kv 17 rfl rfl rfl rfl (S' := fun _ => True) trivial (v_pick_true rfl rfl) ?_
              refine rs_kv 18 rfl rfl rfl rfl (S' := fun _ => True) trivial (v_move rfl) ?_
              refine rs_koff 19 rfl (met_off rfl rfl rfl rfl rfl) rfl rfl ?_
              refine rs_koff 20 rfl (met_off rfl rfl rfl rfl rfl) rfl rfl ?_
              refine rs_koff 21 rfl (met_off rfl rfl rfl rfl rfl) rfl rfl ?_
              refine rs_kv 22 rfl rfl rfl rfl (S' := fun _ => True) trivial (v_pick_true rfl rfl) ?_
              refine rs_kv 23 rfl rfl rfl rfl (S' := fun _ => True) trivial (v_move rfl) ?_
              refine rs_aoff 24 rfl (met_off rfl rfl rfl rfl rfl) rfl rfl ?_
              refine rs_aoff 26 rfl (met_off rfl rfl rfl rfl rfl) rfl rfl ?_
              refine rs_aoff 27 rfl (met_off rfl rfl rfl rfl rfl) rfl rfl ?_
              refine rs_aoff 30 rfl (met_off rfl rfl rfl rfl rfl) rfl rfl ?_
              refine rs_voff 25 rfl (met_off rfl rfl rfl rfl rfl) rfl rfl (by exact hw) ?_
              refine rs_voff 28 rfl (met_off rfl rfl rfl rfl rfl) rfl rfl (by exact hw) ?_
              refine rs_voff 31 rfl (met_off rfl rfl rfl rfl rfl) rfl rfl (by exact hw) ?_
              refine rs_koff 29 rfl (met_off rfl rfl rfl rfl rfl) rfl rfl ?_
              refine rs_koff 32 rfl (met_off rfl rfl rfl rfl rfl) rfl rfl ?_
              refine rs_koff 33 rfl (met_off rfl rfl rfl rfl rfl) rfl rfl ?_
              refine rs_kv 34 rfl rfl rfl rfl (S' := fun _ => True) trivial (v_pick_true rfl rfl) ?_
              refine rs_done (g_le (xK (xK (xK (xK (xK (xK (xK (xK (xK (xK (xK (xK (xK (xK (xK (xK (xK (xK (xK (xK (xK (xK (xK (xK (xK (xK (xK (xK (xK (xK (xK (xK (xK (xK (xK (xK (xK (Fr.le_refl _)))))))))))))))))))))))))))))))))))))) ?_)
              refine g_cond_true rfl ?_
              refine g_seq ?_
              refine g_region ?_
              refine xV rfl rfl rfl (v_assign rfl) ?_
              refine rl_nil (g_le (xK (Fr.le_refl _)) ?_)
              refine g_ret1 Try.func46 rfl rfl ?_
              refine ⟨false, rfl, ⟨fun h => absurd h (by simp), fun h => ?_⟩, hw.xQ⟩
              have h9 := h.1 x (List.mem_of_getElem? hx)
              unfold within at h9
              exfalso
              omega
          · try with_reducible exact tf_elim g4_13
            all_goals
              try replace g4_13 := of_decide_eq_false g4_13
              refine rs_kvg 14 rfl (met_on rfl rfl rfl rfl) rfl rfl (S' := fun _ => True) trivial (v_fieldAddr0 T.fld_58_2_2 rfl) ?_
              refine rs_kvg 15 rfl (met_on rfl rfl rfl rfl) rfl rfl (by exact sat_cell hw (by (repeat first | with_reducible exact xH | apply xT); first | done | fail) rfl) (v_load T.scal_3 rfl) ?_
              refine rs_kvg 16 rfl (met_on rfl rfl rfl rfl) rfl rfl (S' := fun _ => True) trivial (v_lss rfl rfl) ?_
              refine rs_kv 17 rfl rfl rfl rfl (S' := fun _ => True) trivial (v_pick_false rfl rfl) ?_
              refine rs_kv 18 rfl rfl rfl rfl (S' := fun _ => True) trivial (v_move rfl) ?_
              refine rs_split (s := 36) rfl (fun g4_18 => ?_) (fun g4_18 => ?_)
              · try with_reducible exact ft_elim g4_18
                all_goals
                  try replace g4_18 := of_decide_eq_true g4_18
                  refine rs_koff 19 rfl (met_off rfl rfl rfl rfl rfl) rfl rfl ?_
                  refine rs_koff 20 rfl (met_off rfl rfl rfl rfl rfl) rfl rfl ?_
                  refine rs_koff 21 rfl (met_off rfl rfl rfl rfl rfl) rfl rfl ?_
                  refine rs_kv 22 rfl rfl rfl rfl (S' := fun _ => True) trivial (v_pick_true rfl rfl) ?_
                  refine rs_kv 23 rfl rfl rfl rfl (S' := fun _ => True) trivial (v_move rfl) ?_
                  refine rs_aoff 24 rfl (met_off rfl rfl rfl rfl rfl) rfl rfl ?_
                  refine rs_aoff 26 rfl (met_off rfl rfl rfl rfl rfl) rfl rfl ?_
                  refine rs_aoff 27 rfl (met_off rfl rfl rfl rfl rfl) rfl rfl ?_
                  refine rs_aoff 30 rfl (met_off rfl rfl rfl rfl rfl) rfl rfl ?_
                  refine rs_voff 25 rfl (met_off rfl rfl rfl rfl rfl) rfl rfl (by exact hw) ?_
                  refine rs_voff 28 rfl (met_off rfl rfl rfl rfl rfl) rfl rfl (by exact hw) ?_
                  refine rs_voff 31 rfl (met_off rfl rfl rfl rfl rfl) rfl rfl (by exact hw) ?_
                  refine rs_koff 29 rfl (met_off rfl rfl rfl rfl rfl) rfl rfl ?_
                  refine rs_koff 32 rfl (met_off rfl rfl rfl rfl rfl) rfl rfl ?_
                  refine rs_koff 33 rfl (met_off rfl rfl rfl rfl rfl) rfl rfl ?_
                  refine rs_kv 34 rfl rfl rfl rfl (S' := fun _ => True) trivial (v_pick_true rfl rfl) ?_
                  refine rs_done (g_le (xK (xK (xK (xK (xK (xK (xK (xK (xK (xK (xK (xK (xK (xK (xK (xK (xK (xK (xK (xK (xK (xK (xK (xK (xK (xK (xK (xK (xK (xK (xK (xK (xK (xK (xK (xK (xK (xK (Fr.le_refl _))))))))))))))))))))))))))))))))))))))) ?_)
                  refine g_cond_true rfl ?_
                  refine g_seq ?_
                  refine g_region ?_
                  refine xV rfl rfl rfl (v_assign rfl) ?_
                  refine rl_nil (g_le (xK (Fr.le_refl _)) ?_)
                  refine g_ret1 Try.func46 rfl rfl ?_
                  refine ⟨false, rfl, ⟨fun h => absurd h (by simp), fun h => ?_⟩, hw.xQ⟩
                  have h9 := h.1 x (List.mem_of_getElem? hx)
                  unfold within at h9
                  exfalso
                  omega
              · try with_reducible exact tf_elim g4_18
                all_goals
                  try replace g4_18 := of_decide_eq_false g4_18
                  refine rs_kvg 19 rfl (met_on rfl rfl rfl rfl) rfl rfl (S' := fun _ => True) trivial (v_fieldAddr0 T.fld_58_1_1 rfl) ?_
                  refine rs_kvg 20 rfl (met_on rfl rfl rfl rfl) rfl rfl (by exact sat_cell hw (by (repeat first | with_reducible exact xH | apply xT); first | done | fail) rfl) (v_load T.scal_3 rfl) ?_
                  refine rs_kvg 21 rfl (met_on rfl rfl rfl rfl) rfl rfl (S' := fun _ => True) trivial (v_lss rfl rfl) ?_
                  refine rs_kv 22 rfl rfl rfl rfl (S' := fun _ => True) trivial (v_pick_false rfl rfl) ?_
                  refine rs_kv 23 rfl rfl rfl rfl (S' := fun _ => True) trivial (v_move rfl) ?_
                  refine rs_split (s := 41) rfl (fun g4_23 => ?_) (fun g4_23 => ?_)
                  · try with_reducible exact ft_elim g4_23
                    all_goals
                      try replace g4_23 := of_decide_eq_true g4_23
                      refine rs_aoff 24 rfl (met_off rfl rfl rfl rfl rfl) rfl rfl ?_
                      refine rs_aoff 26 rfl (met_off rfl rfl rfl rfl rfl) rfl rfl ?_
                      refine rs_aoff 27 rfl (met_off rfl rfl rfl rfl rfl) rfl rfl ?_
                      refine rs_aoff 30 rfl (met_off rfl rfl rfl rfl rfl) rfl rfl ?_
                      refine rs_voff 25 rfl (met_off rfl rfl rfl rfl rfl) rfl rfl (by exact hw) ?_
                      refine rs_voff 28 rfl (met_off rfl rfl rfl rfl rfl) rfl rfl (by exact hw) ?_
                      refine rs_voff 31 rfl (met_off rfl rfl rfl rfl rfl) rfl rfl (by exact hw) ?_
                      refine rs_koff 29 rfl (met_off rfl rfl rfl rfl rfl) rfl rfl ?_
                      refine rs_koff 32 rfl (met_off rfl rfl rfl rfl rfl) rfl rfl ?_
                      refine rs_koff 33 rfl (met_off rfl rfl rfl rfl rfl) rfl rfl ?_
                      refine rs_kv 34 rfl rfl rfl rfl (S' := fun _ => True) trivial (v_pick_true rfl rfl) ?_
                      refine rs_done (g_le (xK (xK (xK (xK (xK (xK (xK (xK (xK (xK (xK (xK (xK (xK (xK (xK (xK (xK (xK (xK (xK (xK (xK (xK (xK (xK (xK (xK (xK (xK (xK (xK (xK (xK (xK (xK (xK (xK (xK (Fr.le_refl _)))))))))))))))))))))))))))))))))))))))) ?_)
                      refine g_cond_true rfl ?_
                      refine g_seq ?_
                      refine g_region ?_
                      refine xV rfl rfl rfl (v_assign rfl) ?_
                      refine rl_nil (g_le (xK (Fr.le_refl _)) ?_)
                      refine g_ret1 Try.func46 rfl rfl ?_
                      refine ⟨false, rfl, ⟨fun h => absurd h (by simp), fun h => ?_⟩, hw.xQ⟩
                      have h9 := h.1 x (List.mem_of_getElem? hx)
                      unfold within at h9
                      exfalso
                      omega
                  · try with_reducible exact tf_elim g4_23
                    all_goals
                      try replace g4_23 := of_decide_eq_false g4_23
                      have hus := hu x.seg (by omega) (by omega)
                      refine rs_ag 24 rfl (met_on rfl rfl rfl rfl) rfl rfl (v_fieldAddr0 T.fld_58_1_1 rfl) ?_
                      refine rs_ag 26 rfl (met_on rfl rfl rfl rfl) rfl rfl (v_move rfl) ?_
                      refine rs_ag 27 rfl (met_on rfl rfl rfl rfl) rfl rfl (v_fieldAddr0 T.fld_58_0_0 rfl) ?_
                      refine rs_ag 30 rfl (met_on rfl rfl rfl rfl) rfl rfl (v_fieldAddr0 T.fld_58_2_2 rfl) ?_
                      refine rs_vg 25 rfl (met_on rfl rfl rfl rfl) rfl rfl (OpV.mono (v_load T.scal_3 rfl) (fun w hw => by exact sat_cell hw (by (repeat first | with_reducible exact xH | apply xT); first | done | fail) rfl)) (by exact hw) ?_
                      refine rs_vg 28 rfl (met_on rfl rfl rfl rfl) rfl rfl (OpV.mono (v_load T.scal_3 rfl) (fun w hw => by exact sat_cell hw (by (repeat first | with_reducible exact xH | apply xT); first | done | fail) rfl)) (by exact hw) ?_
                      refine rs_vg 31 rfl (met_on rfl rfl rfl rfl) rfl rfl (OpV.mono (v_load T.scal_3 rfl) (fun w hw => by exact sat_cell hw (by (repeat first | with_reducible exact xH | apply xT); first | done | fail) rfl)) (by exact hw) ?_
                      refine rs_kg 29 rfl (met_on rfl rfl rfl rfl) (k_callv rfl rfl rfl ?_)
                      refine CallsV.mono (hused x.seg _ _ (by omega) (by omega) (hw.xQ : Sat E w (pt l (.cells [Value.pointer (some ⟨m, 0, none⟩), .int .i64 o, .slice (some ⟨b, 0, none⟩) (ss : List Sg).length c].toArray 47 (0, 0)) :: OwnSl 104 3 (.slice (some ⟨b, 0, none⟩) (ss).length c) (ss).length ((ss).flatMap Sg.cells) :: U :: pt bk3_2 (.cells x.cells.toArray 58 (0, 0)) :: A :: L))) ?_
                      rintro _ w ⟨rfl, hw⟩
                      refine ⟨_, rfl, ?_⟩
                      refine ⟨fun _ => (by exact Sat.sub hw (by (repeat (first | with_reducible exact Sub.refl _ | exact Sub.nil _ | (apply Sub.cons; focus ((repeat (first | with_reducible exact Pick.here _ | apply Pick.there)); (first | done | fail))) | with_reducible apply Sub.drop)); first | done | fail)), ?_⟩
                      refine rs_kvg 32 rfl (met_on rfl rfl rfl rfl) rfl rfl (S' := fun _ => True) trivial (v_sub rfl rfl (by omega)) ?_
                      refine rs_kvg 33 rfl (met_on rfl rfl rfl rfl) rfl rfl (S' := fun _ => True) trivial (v_gtr rfl rfl) ?_
                      refine rs_kv 34 rfl rfl rfl rfl (S' := fun _ => True) trivial (v_pick_false rfl rfl) ?_
                      refine rs_done (g_le (xK (xK (xK (xK (xK (xK (xK (xK (xK (xK (xK (xK (xK (xK (xK (xK (xK (xK (xK (xK (xK (xK (xK (xK (xK (xK (xK (xK (xK (xK (xK (xK (xK (xK (xK (xK (xK (xK (xK (Fr.le_refl _)))))))))))))))))))))))))))))))))))))))) ?_)
                      refine g_cond rfl (fun h2 => ?_) (fun h2 => ?_)
                      · try with_reducible exact ft_elim h2
                        all_goals
                          try replace h2 := of_decide_eq_true h2
                          refine g_seq ?_
                          refine g_region ?_
                          refine xV rfl rfl rfl (v_assign rfl) ?_
                          refine rl_nil (g_le (xK (Fr.le_refl _)) ?_)
                          refine g_ret1 Try.func46 rfl rfl ?_
                          refine ⟨false, rfl, ⟨fun h => absurd h (by simp), fun h => ?_⟩, hw.xQ⟩
                          have h9 := h.1 x (List.mem_of_getElem? hx)
                          unfold within at h9
                          exfalso
                          omega
                      · try with_reducible exact tf_elim h2
                        all_goals
                          try replace h2 := of_decide_eq_false h2
                          refine g_skip (g_inBlock ?_)
                          refine g_region ?_
                          refine xV rfl rfl rfl (v_add rfl rfl (by omega)) ?_
                          refine xV rfl rfl rfl (v_move rfl) ?_
                          refine rl_nil (g_le (xK (xK (Fr.le_refl _))) ?_)
                          refine g_le (by repeat (first | exact Fr.le_nil _ | refine Fr.le_cons rfl ?_)) (ih (i + 1) w ⟨by omega, fun j p hj hp => ?_, hw.xQ⟩ (by omega))
                          rcases Nat.lt_or_ge j i with h9 | h9
                          · exact hall j p h9 hp
                          · obtain rfl : j = i := by omega
                            rw [hx] at hp
                            obtain rfl := Option.some.inj hp
                            exact ⟨by omega, by omega, by omega, by omega, by omega⟩
  · try with_reducible exact tf_elim h1
    all_goals
      try replace h1 := of_decide_eq_false h1
      refine g_exit rfl (g_seq ?_)
      have hwi : ∀ p ∈ xs, within u ss.length p := fun p hp => by
        obtain ⟨j, hj, hj2⟩ := List.getElem_of_mem hp
        exact hall j p (by omega) (by rw [List.getElem?_eq_getElem hj, hj2])
      refine g_region ?_
      refine xV rfl rfl rfl (v_move rfl) ?_
      refine rl_k rfl (k_callf Try.func69 rfl rfl rfl rfl ?_)
      refine Calls.mono (values_calls a xs.length c' hw) ?_
      rintro _ w ⟨q, rfl, hw⟩
      refine ⟨_, rfl, ?_⟩
      refine rl_k rfl (k_callf Try.func68 rfl rfl rfl rfl ?_)
      refine Calls.mono (sorted_calls (lb := [.pointer (some ⟨q, 0, none⟩)]) Try.func81 rfl rfl (values_iter hS q) hn (Sat.unflat (X := [_, _]) (hw.xQ : Sat E w ([pt q (.cells [Value.slice a xs.length c'].toArray 70 (0, 0)), A] ++ (pt l (.cells [Value.pointer (some ⟨m, 0, none⟩), .int .i64 o, .slice (some ⟨b, 0, none⟩) (ss : List Sg).length c].toArray 47 (0, 0)) :: OwnSl 104 3 (.slice (some ⟨b, 0, none⟩) (ss).length c) (ss).length ((ss).flatMap Sg.cells) :: U :: L))))) ?_
      rintro _ w ⟨v2, rfl, ys, hys, hso, hw⟩
      refine ⟨_, rfl, ?_⟩
      refine xV rfl rfl rfl (v_assign rfl) ?_
      refine rl_nil (g_le (xK (xS rfl (xS rfl (xS rfl (Fr.le_refl _))))) ?_)
      have hyl := hys.length_eq
      have hw := Sat.flat (X := [_, _]) (hw.pick .at1)
      dsimp only [List.append, List.cons_append, List.nil_append] at hw
      have hwy : ∀ p ∈ ys, within u ss.length p := fun p hp => hwi p (hys.mem_iff.1 hp)
      have hly : ∀ p ∈ ys, 1 ≤ p.len := fun p hp => (hwy p hp).2.2.1
      have hiff : (∀ j, j < ys.length → adj ys j) ↔ fitsP u ss.length xs := (adj_apart hly hso).trans ((hys.pairwise_iff (fun h => apart_symm h)).trans ⟨fun h => ⟨hwi, h⟩, fun h => h.2⟩)
      rw [← hyl] at hw
      obtain ⟨ya, yc, rfl, _, _, hya⟩ := (hw.xP (A := OwnSl 58 3 v2 ys.length (ys.flatMap Pl.cells))).own_shape
      clear hall ih
      refine g_seq (g_seq ?_)
      refine g_region ?_
      refine xV rfl rfl rfl (v_move rfl) ?_
      refine xV rfl rfl rfl (v_lenSlice T.sl_70_58_3 rfl) ?_
      refine xV rfl rfl rfl (v_move rfl) ?_
      refine rl_nil (g_le (xK (xK (xK (Fr.le_refl _)))) ?_)
      refine g_block ?_
      refine g_loopC (σ := Nat) (fun C x => (59, .int .i64 (x : Nat)) :: C) [(6, _), (9, _), (57, _), (58, _)] (by repeat (first | exact Fr.le_nil _ | refine Fr.le_cons rfl ?_)) (fun z w => z ≤ ys.length ∧ (∀ j, j < z → adj ys j) ∧ Sat E w (OwnSl 58 3 (.slice ya ys.length yc) ys.length (ys.flatMap Pl.cells) :: pt l (.cells [Value.pointer (some ⟨m, 0, none⟩), .int .i64 o, .slice (some ⟨b, 0, none⟩) (ss : List Sg).length c].toArray 47 (0, 0)) :: OwnSl 104 3 (.slice (some ⟨b, 0, none⟩) (ss).length c) (ss).length ((ss).flatMap Sg.cells) :: U :: A :: L)) (fun z => ys.length - z) ?_ 0 (by repeat (first | exact Fr.le_nil _ | refine Fr.le_cons rfl ?_)) ⟨by simp, by simp, hw.xQ⟩
      rintro i w ⟨hi, hall, hw⟩ ih
      refine g_seq ?_
      refine g_region ?_
      refine xV rfl rfl rfl (v_lss rfl rfl) ?_
      refine rl_nil (g_le (xK (Fr.le_refl _)) ?_)
      refine g_seq ?_
      refine g_cond rfl (fun h3 => ?_) (fun h3 => ?_)
      · try with_reducible exact ft_elim h3
        all_goals
          try replace h3 := of_decide_eq_true h3
          refine g_skip (g_seq (g_block (g_seq ?_)))
          have hlt : i < ys.length := by omega
          obtain ⟨yb, hyb⟩ := hya (by omega)
          subst hyb
          have hx : ys[i]? = some ys[i] := List.getElem?_eq_getElem hlt
          generalize ys[i] = x at hx
          obtain ⟨pv, hpv⟩ : ∃ pv, ys[i - 1]? = some pv := ⟨_, List.getElem?_eq_getElem (by omega)⟩
          have hwx := hwy x (List.mem_of_getElem? hx)
          have hwp := hwy pv (List.mem_of_getElem? hpv)
          unfold within at hwx hwp
          have hu1 := hu x.seg hwx.1 hwx.2.1
          have hu2 := hu pv.seg hwp.1 hwp.2.1
          have hsub := subAt_flat (f := Pl.cells) (sz := 3) (fun _ => rfl) hx
          rw [show 0 + i * 3 = 0 + (i : Int).toNat * 3 by omega] at hsub
          dsimp only [Pl.cells] at hsub
          refine g_region ?_
          refine xV rfl rfl rfl (v_move rfl) ?_
          refine xV rfl rfl rfl (v_indexAddr T.sl_70_58_3 rfl rfl (by omega) (by omega)) ?_
          refine rl_v rfl rfl rfl (by exact own_cells hw (by (repeat first | with_reducible exact xH | apply xT); first | done | fail) (by assumption)) (v_loadAgg (vs := [_, _, _]) T.agg_58_3 rfl rfl) ?_
          refine rl_k rfl (k_alloc hw T.zero_58 rfl rfl (fun bk10_3 w hw => ?_))
          refine xV rfl rfl rfl (v_assign rfl) ?_
          refine rl_k rfl (k_storeWhole hw T.agg_58_3 rfl rfl (by simp [Value.oneCell']) rfl (by (repeat first | with_reducible exact xH | apply xT); first | done | fail) rfl (fun w hw => ?_))
          refine rl_nil (g_le (xK (xK (xK (xK (xK (Fr.le_refl _)))))) ?_)
          refine g_seq ?_
          have hsub2 := subAt_flat (f := Pl.cells) (sz := 3) (fun _ => rfl) hpv
          rw [show 0 + (i - 1) * 3 = 0 + ((i : Int) - 1).toNat * 3 by omega] at hsub2
          dsimp only [Pl.cells] at hsub2
          refine g_drawR ord_f46_r11_S14i (by kernel_rfl) T.mixed hw (fun w hw => ?_)
          refine rs_kv 0 rfl rfl rfl rfl (S' := fun _ => True) trivial (v_move rfl) ?_
          refine rs_kv 1 rfl rfl rfl rfl (S' := fun _ => True) trivial (v_gtr rfl rfl) ?_
          refine rs_kv 2 rfl rfl rfl rfl (S' := fun _ => True) trivial (v_move rfl) ?_
          refine rs_split (s := 66) rfl (fun g11_2 => ?_) (fun g11_2 => ?_)
          · try with_reducible exact ft_elim g11_2
            all_goals
              try replace g11_2 := of_decide_eq_true g11_2
              refine rs_ag 3 rfl (met_on rfl rfl rfl rfl) rfl rfl (v_move rfl) ?_
              refine rs_ag 4 rfl (met_on rfl rfl rfl rfl) rfl rfl (v_move rfl) ?_
              refine rs_ag 5 rfl (met_on rfl rfl rfl rfl) rfl rfl (v_sub rfl rfl (by omega)) ?_
              refine rs_ag 6 rfl (met_on rfl rfl rfl rfl) rfl rfl (v_indexAddr T.sl_70_58_3 rfl rfl (by omega) (by omega)) ?_
              refine rs_ag 7 rfl (met_on rfl rfl rfl rfl) rfl rfl (v_fieldAddr T.fld_58_0_0 rfl) ?_
              refine rs_ag 9 rfl (met_on rfl rfl rfl rfl) rfl rfl (v_fieldAddr0 T.fld_58_0_0 rfl) ?_
              refine rs_vg 8 rfl (met_on rfl rfl rfl rfl) rfl rfl (OpV.mono (v_load T.scal_3 rfl) (fun w hw => by exact own_at0 hw (by (repeat first | with_reducible exact xH | apply xT); first | done | fail) (by assumption) rfl)) (by exact hw) ?_
              refine rs_kvg 10 rfl (met_on rfl rfl rfl rfl) rfl rfl (by exact sat_cell hw (by (repeat first | with_reducible exact xH | apply xT); first | done | fail) rfl) (v_load T.scal_3 rfl) ?_
              refine rs_kvg 11 rfl (met_on rfl rfl rfl rfl) rfl rfl (S' := fun _ => True) trivial (v_eql rfl rfl) ?_
              refine rs_kv 12 rfl rfl rfl rfl (S' := fun _ => True) trivial (v_pick_true rfl rfl) ?_
              refine rs_kv 13 rfl rfl rfl rfl (S' := fun _ => True) trivial (v_move rfl) ?_
              refine rs_split (s := 77) rfl (fun g11_13 => ?_) (fun g11_13 => ?_)
              · try with_reducible exact ft_elim g11_13
                all_goals
                  try replace g11_13 := of_decide_eq_true g11_13
                  refine rs_ag 14 rfl (met_on rfl rfl rfl rfl) rfl rfl (v_move rfl) ?_
                  refine rs_ag 15 rfl (met_on rfl rfl rfl rfl) rfl rfl (v_move rfl) ?_
                  refine rs_ag 16 rfl (met_on rfl rfl rfl rfl) rfl rfl (v_sub rfl rfl (by omega)) ?_
                  refine rs_ag 17 rfl (met_on rfl rfl rfl rfl) rfl rfl (v_indexAddr T.sl_70_58_3 rfl rfl (by omega) (by omega)) ?_
                  refine rs_ag 18 rfl (met_on rfl rfl rfl rfl) rfl rfl (v_fieldAddr T.fld_58_1_1 rfl) ?_
                  refine rs_ag 20 rfl (met_on rfl rfl rfl rfl) rfl rfl (v_move rfl) ?_
                  refine rs_ag 21 rfl (met_on rfl rfl rfl rfl) rfl rfl (v_move rfl) ?_
                  refine rs_ag 22 rfl (met_on rfl rfl rfl rfl) rfl rfl (v_sub rfl rfl (by omega)) ?_
                  refine rs_ag 23 rfl (met_on rfl rfl rfl rfl) rfl rfl (v_indexAddr T.sl_70_58_3 rfl rfl (by omega) (by omega)) ?_
                  refine rs_ag 24 rfl (met_on rfl rfl rfl rfl) rfl rfl (v_fieldAddr T.fld_58_2_2 rfl) ?_
                  refine rs_ag 27 rfl (met_on rfl rfl rfl rfl) rfl rfl (v_fieldAddr0 T.fld_58_1_1 rfl) ?_
                  refine rs_vg 19 rfl (met_on rfl rfl rfl rfl) rfl rfl (OpV.mono (v_load T.scal_3 rfl) (fun w hw => by exact own_at hw (by (repeat first | with_reducible exact xH | apply xT); first | done | fail) (by assumption) rfl)) (by exact hw) ?_
                  refine rs_vg 25 rfl (met_on rfl rfl rfl rfl) rfl rfl (OpV.mono (v_load T.scal_3 rfl) (fun w hw => by exact own_at hw (by (repeat first | with_reducible exact xH | apply xT); first | done | fail) (by assumption) rfl)) (by exact hw) ?_
                  refine rs_ag 26 rfl (met_on rfl rfl rfl rfl) rfl rfl (v_add rfl rfl (by omega)) ?_
                  refine rs_kvg 28 rfl (met_on rfl rfl rfl rfl) rfl rfl (by exact sat_cell hw (by (repeat first | with_reducible exact xH | apply xT); first | done | fail) rfl) (v_load T.scal_3 rfl) ?_
                  refine rs_kvg 29 rfl (met_on rfl rfl rfl rfl) rfl rfl (S' := fun _ => True) trivial (v_gtr rfl rfl) ?_
                  refine rs_kv 30 rfl rfl rfl rfl (S' := fun _ => True) trivial (v_pick_true rfl rfl) ?_
                  refine rs_done (g_le (xK (xK (xK (xK (xK (xK (xK (xK (xK (xK (xK (xK (xK (xK (xK (xK (xK (xK (xK (xK (xK (xK (xK (xK (xK (xK (xK (xK (xK (xK (xK (xK (xK (Fr.le_refl _)))))))))))))))))))))))))))))))))) ?_)
                  refine g_cond rfl (fun h4 => ?_) (fun h4 => ?_)
                  · try with_reducible exact ft_elim h4
                    all_goals
                      try replace h4 := of_decide_eq_true h4
                      refine g_seq ?_
                      refine g_region ?_
                      refine xV rfl rfl rfl (v_assign rfl) ?_
                      refine rl_nil (g_le (xK (Fr.le_refl _)) ?_)
                      refine g_ret1 Try.func46 rfl rfl ?_
                      refine ⟨false, rfl, ⟨fun h => absurd h (by simp), fun h => ?_⟩, hw.xQ⟩
                      exact absurd ⟨by omega, by omega⟩ (hiff.2 h i hlt pv x (by omega) hpv hx)
                  · try with_reducible exact tf_elim h4
                    all_goals
                      try replace h4 := of_decide_eq_false h4
                      refine g_skip (g_inBlock ?_)
                      refine g_region ?_
                      refine xV rfl rfl rfl (v_add rfl rfl (by omega)) ?_
                      refine xV rfl rfl rfl (v_move rfl) ?_
                      refine rl_nil (g_le (xK (xK (Fr.le_refl _))) ?_)
                      refine g_le (by repeat (first | exact Fr.le_nil _ | refine Fr.le_cons rfl ?_)) (ih (i + 1) w ⟨by omega, fun j hj => ?_, hw.xQ⟩ (by omega))
                      rcases Nat.lt_or_ge j i with h9 | h9
                      · exact hall j h9
                      · obtain rfl : j = i := by omega
                        intro p q h0 hp hq ⟨h1, h2⟩
                        rw [hx] at hq
                        rw [hpv] at hp
                        obtain rfl := Option.some.inj hp
                        obtain rfl := Option.some.inj hq
                        omega
              · try with_reducible exact tf_elim g11_13
                all_goals
                  try replace g11_13 := of_decide_eq_false g11_13
                  refine rs_aoff 14 rfl (met_off rfl rfl rfl rfl rfl) rfl rfl ?_
                  refine rs_aoff 15 rfl (met_off rfl rfl rfl rfl rfl) rfl rfl ?_
                  refine rs_aoff 16 rfl (met_off rfl rfl rfl rfl rfl) rfl rfl ?_
                  refine rs_aoff 17 rfl (met_off rfl rfl rfl rfl rfl) rfl rfl ?_
                  refine rs_aoff 18 rfl (met_off rfl rfl rfl rfl rfl) rfl rfl ?_
                  refine rs_aoff 20 rfl (met_off rfl rfl rfl rfl rfl) rfl rfl ?_
                  refine rs_aoff 21 rfl (met_off rfl rfl rfl rfl rfl) rfl rfl ?_
                  refine rs_aoff 22 rfl (met_off rfl rfl rfl rfl rfl) rfl rfl ?_
                  refine rs_aoff 23 rfl (met_off rfl rfl rfl rfl rfl) rfl rfl ?_
                  refine rs_aoff 24 rfl (met_off rfl rfl rfl rfl rfl) rfl rfl ?_
                  refine rs_aoff 27 rfl (met_off rfl rfl rfl rfl rfl) rfl rfl ?_
                  refine rs_voff 19 rfl (met_off rfl rfl rfl rfl rfl) rfl rfl (by exact hw) ?_
                  refine rs_voff 25 rfl (met_off rfl rfl rfl rfl rfl) rfl rfl (by exact hw) ?_
                  refine rs_aoff 26 rfl (met_off rfl rfl rfl rfl rfl) rfl rfl ?_
                  refine rs_koff 28 rfl (met_off rfl rfl rfl rfl rfl) rfl rfl ?_
                  refine rs_koff 29 rfl (met_off rfl rfl rfl rfl rfl) rfl rfl ?_
                  refine rs_kv 30 rfl rfl rfl rfl (S' := fun _ => True) trivial (v_pick_false rfl rfl) ?_
                  refine rs_done (g_le (xK (xK (xK (xK (xK (xK (xK (xK (xK (xK (xK (xK (xK (xK (xK (xK (xK (xK (xK (xK (xK (xK (xK (xK (xK (xK (xK (xK (xK (xK (xK (xK (xK (Fr.le_refl _)))))))))))))))))))))))))))))))))) ?_)
                  refine g_cond_false rfl ?_
                  refine g_skip (g_inBlock ?_)
                  refine g_region ?_
                  refine xV rfl rfl rfl (v_add rfl rfl (by omega)) ?_
                  refine xV rfl rfl rfl (v_move rfl) ?_
                  refine rl_nil (g_le (xK (xK (Fr.le_refl _))) ?_)
                  refine g_le (by repeat (first | exact Fr.le_nil _ | refine Fr.le_cons rfl ?_)) (ih (i + 1) w ⟨by omega, fun j hj => ?_, hw.xQ⟩ (by omega))
                  rcases Nat.lt_or_ge j i with h9 | h9
                  · exact hall j h9
                  · obtain rfl : j = i := by omega
                    intro p q h0 hp hq ⟨h1, h2⟩
                    rw [hx] at hq
                    rw [hpv] at hp
                    obtain rfl := Option.some.inj hp
                    obtain rfl := Option.some.inj hq
                    omega
          · try with_reducible exact tf_elim g11_2
            all_goals
              try replace g11_2 := of_decide_eq_false g11_2
              refine rs_aoff 3 rfl (met_off rfl rfl rfl rfl rfl) rfl rfl ?_
              refine rs_aoff 4 rfl (met_off rfl rfl rfl rfl rfl) rfl rfl ?_
              refine rs_aoff 5 rfl (met_off rfl rfl rfl rfl rfl) rfl rfl ?_
              refine rs_aoff 6 rfl (met_off rfl rfl rfl rfl rfl) rfl rfl ?_
              refine rs_aoff 7 rfl (met_off rfl rfl rfl rfl rfl) rfl rfl ?_
              refine rs_aoff 9 rfl (met_off rfl rfl rfl rfl rfl) rfl rfl ?_
              refine rs_voff 8 rfl (met_off rfl rfl rfl rfl rfl) rfl rfl (by exact hw) ?_
              refine rs_koff 10 rfl (met_off rfl rfl rfl rfl rfl) rfl rfl ?_
              refine rs_koff 11 rfl (met_off rfl rfl rfl rfl rfl) rfl rfl ?_
              refine rs_kv 12 rfl rfl rfl rfl (S' := fun _ => True) trivial (v_pick_false rfl rfl) ?_
              refine rs_kv 13 rfl rfl rfl rfl (S' := fun _ => True) trivial (v_move rfl) ?_
              refine rs_aoff 14 rfl (met_off rfl rfl rfl rfl rfl) rfl rfl ?_
              refine rs_aoff 15 rfl (met_off rfl rfl rfl rfl rfl) rfl rfl ?_
              refine rs_aoff 16 rfl (met_off rfl rfl rfl rfl rfl) rfl rfl ?_
              refine rs_aoff 17 rfl (met_off rfl rfl rfl rfl rfl) rfl rfl ?_
              refine rs_aoff 18 rfl (met_off rfl rfl rfl rfl rfl) rfl rfl ?_
              refine rs_aoff 20 rfl (met_off rfl rfl rfl rfl rfl) rfl rfl ?_
              refine rs_aoff 21 rfl (met_off rfl rfl rfl rfl rfl) rfl rfl ?_
              refine rs_aoff 22 rfl (met_off rfl rfl rfl rfl rfl) rfl rfl ?_
              refine rs_aoff 23 rfl (met_off rfl rfl rfl rfl rfl) rfl rfl ?_
              refine rs_aoff 24 rfl (met_off rfl rfl rfl rfl rfl) rfl rfl ?_
              refine rs_aoff 27 rfl (met_off rfl rfl rfl rfl rfl) rfl rfl ?_
              refine rs_voff 19 rfl (met_off rfl rfl rfl rfl rfl) rfl rfl (by exact hw) ?_
              refine rs_voff 25 rfl (met_off rfl rfl rfl rfl rfl) rfl rfl (by exact hw) ?_
              refine rs_aoff 26 rfl (met_off rfl rfl rfl rfl rfl) rfl rfl ?_
              refine rs_koff 28 rfl (met_off rfl rfl rfl rfl rfl) rfl rfl ?_
              refine rs_koff 29 rfl (met_off rfl rfl rfl rfl rfl) rfl rfl ?_
              refine rs_kv 30 rfl rfl rfl rfl (S' := fun _ => True) trivial (v_pick_false rfl rfl) ?_
              refine rs_done (g_le (xK (xK (xK (xK (xK (xK (xK (xK (xK (xK (xK (xK (xK (xK (xK (xK (xK (xK (xK (xK (xK (xK (xK (xK (xK (xK (xK (xK (xK (xK (xK (xK (Fr.le_refl _))))))))))))))))))))))))))))))))) ?_)
              refine g_cond_false rfl ?_
              refine g_skip (g_inBlock ?_)
              refine g_region ?_
              refine xV rfl rfl rfl (v_add rfl rfl (by omega)) ?_
              refine xV rfl rfl rfl (v_move rfl) ?_
              refine rl_nil (g_le (xK (xK (Fr.le_refl _))) ?_)
              refine g_le (by repeat (first | exact Fr.le_nil _ | refine Fr.le_cons rfl ?_)) (ih (i + 1) w ⟨by omega, fun j hj => ?_, hw.xQ⟩ (by omega))
              rcases Nat.lt_or_ge j i with h9 | h9
              · exact hall j h9
              · obtain rfl : j = i := by omega
                intro p q h0 hp hq ⟨h1, h2⟩
                rw [hx] at hq
                rw [hpv] at hp
                obtain rfl := Option.some.inj hp
                obtain rfl := Option.some.inj hq
                omega
      · try with_reducible exact tf_elim h3
        all_goals
          try replace h3 := of_decide_eq_false h3
          refine g_exit rfl (g_seq ?_)
          refine g_region ?_
          refine xV rfl rfl rfl (v_assign rfl) ?_
          refine rl_nil (g_le (xK (Fr.le_refl _)) ?_)
          refine g_ret1 Try.func46 rfl rfl ?_
          exact ⟨true, rfl, ⟨fun _ => hiff.1 (fun j hj => hall j (by omega)), fun _ => rfl⟩, hw.xQ⟩
end Go.Proofs.Ytipdklbedpkobaa
