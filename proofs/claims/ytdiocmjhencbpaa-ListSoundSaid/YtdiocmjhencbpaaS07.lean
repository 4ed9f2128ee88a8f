/-
  What package slices does with rows of secrets and kids, in place.
-/
import Derived.Test.YtdiocmjhencbpaaN06f
import Derived.Test.YtdiocmjhencbpaaX12
namespace Go.Proofs.Ytdiocmjhencbpaa
set_option maxRecDepth 8000
set_option linter.unusedSimpArgs false
set_option linter.unusedVariables false
open Go Xe
theorem take_mid {A B C : List Value} {o o' : Nat} (ho : o = A.length) (ho' : o' = A.length) : ((A ++ B).take o ++ C).take o' = A := by
  subst ho ho'
  rw [List.take_left, List.take_left]
theorem subAt_drop {xs : List Value} {o p : Nat} (h : o = p) : SubAt xs o (xs.drop p) := by
  subst h
  have := subAt_slice (xs := xs) (xs.length) o
  rwa [List.take_of_length_le (by rw [List.length_drop]; omega)] at this
theorem subAt_all (xs : List Value) : SubAt xs 0 xs := by
  have := subAt_drop (xs := xs) (o := 0) (p := 0) rfl
  rwa [List.drop_zero] at this
theorem subAt_app {xs ys : List Value} : ∀ {o : Nat} {vs : List Value}, SubAt xs o vs → SubAt (xs ++ ys) o vs
  | _, [], _ => trivial
  | o, v :: vs, h => ⟨by
      have hlt := (List.getElem?_eq_some_iff.1 h.1).1
      rw [List.getElem?_append_left hlt]; exact h.1, subAt_app h.2⟩
/-- A row that was copied anew, its new part first, then what lay behind. -/
theorem copy_new {A z v D : List Value} {o1 e1 o2 e2 : Nat} (h1 : o1 = A.length) (h2 : e1 = o1 + v.length) (h3 : o2 = A.length + v.length) (h4 : e2 = o2 + D.length) (hz : z.length = v.length + D.length) :
    (((A ++ z).take o1 ++ v ++ (A ++ z).drop e1).take o2 ++ D ++ ((A ++ z).take o1 ++ v ++ (A ++ z).drop e1).drop e2) = A ++ v ++ D := by
  subst h1 h2 h3 h4
  have e : (A ++ z).take A.length = A := List.take_left
  rw [e, List.take_left' (by rw [List.length_append]), List.drop_eq_nil_of_le (by simp only [List.length_append, List.length_drop]; omega), List.append_nil]
/-- A row whose tail is moved up, then the gap filled. -/
theorem copy_up {cells ys v : List Value} {p m o1 e1 o2 e2 : Nat} (h : p ≤ cells.length) (hv : v.length = m) (hy : ys.length = m) (h1 : o1 = p + m) (h2 : e1 = o1 + (cells.drop p).length) (h3 : o2 = p) (h4 : e2 = p + m) :
    (((cells ++ ys).take o1 ++ cells.drop p ++ (cells ++ ys).drop e1).take o2 ++ v ++ ((cells ++ ys).take o1 ++ cells.drop p ++ (cells ++ ys).drop e1).drop e2) = cells.take p ++ v ++ cells.drop p := by
  subst h1 h2 h3 h4
  have hB : ((cells ++ ys).take (o2 + m)).length = o2 + m := by rw [List.length_take, List.length_append]; omega
  have hT : (cells ++ ys).drop (o2 + m + (cells.drop o2).length) = [] := List.drop_eq_nil_of_le (by rw [List.length_append, List.length_drop]; omega)
  rw [hT, List.append_nil, List.take_append_of_le_length (by omega), List.take_take, Nat.min_eq_left (by omega), List.take_append_of_le_length h, List.drop_left' hB]
/-- A row whose tail is moved up by more than its gap, then the gap filled. -/
theorem copy_over {cells ys v : List Value} {p q o1 e1 o2 e2 : Nat} (h : p ≤ cells.length) (h1 : o1 = p + v.length) (h2 : e1 = o1 + (cells.drop q).length) (h5 : e1 = (cells ++ ys).length) (h3 : o2 = p) (h4 : e2 = p + v.length) :
    (((cells ++ ys).take o1 ++ cells.drop q ++ (cells ++ ys).drop e1).take o2 ++ v ++ ((cells ++ ys).take o1 ++ cells.drop q ++ (cells ++ ys).drop e1).drop e2) = cells.take p ++ v ++ cells.drop q := by
  subst h3
  have hB : ((cells ++ ys).take o1).length = o1 := by rw [List.length_take]; omega
  have hT : (cells ++ ys).drop e1 = [] := List.drop_eq_nil_of_le (by omega)
  rw [hT, List.append_nil, List.take_append_of_le_length (by omega), List.take_take, Nat.min_eq_left (by omega), List.take_append_of_le_length h, List.drop_left' (by omega)]
/-- A row a part of which was written over, then the rest drawn up to it. -/
theorem copy_fit {cells v : List Value} {p q o1 e1 o2 e2 : Nat} (h : p + v.length ≤ q) (hq : q ≤ cells.length) (h1 : o1 = p) (h2 : e1 = p + v.length) (h3 : o2 = p + v.length) (h4 : e2 = o2 + (cells.drop q).length) :
    ∃ T, ((cells.take o1 ++ v ++ cells.drop e1).take o2 ++ cells.drop q ++ (cells.take o1 ++ v ++ cells.drop e1).drop e2) = (cells.take p ++ v ++ cells.drop q) ++ T := by
  subst h1 h2 h3
  have hB : (cells.take o1 ++ v).length = o1 + v.length := by rw [List.length_append, List.length_take]; omega
  exact ⟨_, by rw [List.take_left' hB]⟩
theorem drop_fit {cells v : List Value} {p q o1 e1 o : Nat} (h : p + v.length ≤ q) (hq : q ≤ cells.length) (h1 : o1 = p) (h2 : e1 = p + v.length) (h3 : o = q) : SubAt (cells.take o1 ++ v ++ cells.drop e1) o (cells.drop q) := by
  subst h1 h2 h3
  have hB : (cells.take o1 ++ v).length = o1 + v.length := by rw [List.length_append, List.length_take]; omega
  have h9 := subAt_drop (xs := cells.take o1 ++ v ++ cells.drop (o1 + v.length)) (o := o) (p := o) rfl
  have e : (cells.take o1 ++ v).drop o = [] := List.drop_eq_nil_of_le (by omega)
  rw [List.drop_append, e, List.nil_append, List.drop_drop, hB, show o1 + v.length + (o - (o1 + v.length)) = o by omega] at h9
  exact h9
theorem ord_f67_r11_S07 : orderOfB Try.f67 11 [8] (.a 0 (.a 1 (.a 2 (.a 3 (.a 4 (.a 5 (.k 6 (.k 7 (.k 8 .done))))))))) = true := by kernel_rfl
theorem ord_f67_r15_S07 : orderOfB Try.f67 15 [8] (.a 0 (.a 1 (.a 2 (.a 3 (.a 4 (.a 5 (.k 6 (.k 7 (.k 8 .done))))))))) = true := by kernel_rfl
/-- A row with one element more. -/
theorem insertEn_calls {E : Env} {w : World} {L : List As} {a : Option Addr} {n c i vb vc : Nat} {cells vcells : List Value} (hi : i ≤ n) (hb : n ≤ 100000) (hone : ∀ u ∈ cells, u.oneCell' = true) (hvl : vcells.length = 1 * 2) (hvo : ∀ u ∈ vcells, u.oneCell' = true)
    (hw : Sat E w (OwnSl 40 2 (.slice (some ⟨vb, 0, none⟩) 1 vc) 1 vcells :: OwnSl 40 2 (.slice a n c) n cells :: L)) :
    Calls Try.prog 67 #[.slice a n c, .int .i64 i, .slice (some ⟨vb, 0, none⟩) 1 vc] w fun e w' => ∃ v, e = .returned v ∧ Sat E w' (OwnSl 40 2 v (n + 1) (cells.take (i * 2) ++ vcells ++ cells.drop (i * 2)) :: L) := by
  obtain ⟨a', c', hv, hnc, hcm, ha⟩ := (hw.pick .at1).own_shape
  simp only [Value.slice.injEq] at hv
  obtain ⟨rfl, _, rfl⟩ := hv
  have hlen := (hw.pick .at1).own_len
  simp only [maxLen] at hcm
  refine calls_of_g (n := 95) Try.func67 rfl rfl rfl ?_
  change G _ _ _ _ _ [(0, _), (1, _), (2, _)] _
  refine g_seq ?_
  refine g_region ?_
  refine xV rfl rfl rfl (v_assign rfl) ?_
  refine rl_nil (g_le (xK (Fr.le_refl _)) ?_)
  refine g_seq ?_
  refine g_region ?_
  refine xV rfl rfl rfl (v_move rfl) ?_
  refine xV rfl rfl rfl (v_move rfl) ?_
  refine xV rfl rfl rfl (v_sliceFromA T.sl_33_40_2 rfl rfl (by omega) (by omega) (by omega)) ?_
  refine rl_nil (g_le (xS rfl (xS rfl (xS rfl (Fr.le_refl _)))) ?_)
  refine g_seq ?_
  refine g_region ?_
  refine xV rfl rfl rfl (v_move rfl) ?_
  refine xV rfl rfl rfl (v_lenSlice T.sl_33_40_2 rfl) ?_
  refine xV rfl rfl rfl (v_assign rfl) ?_
  refine rl_nil (g_le (xK (xS rfl (xS rfl (Fr.le_refl _)))) ?_)
  refine g_seq (g_seq ?_)
  refine g_region ?_
  refine xV rfl rfl rfl (v_move rfl) ?_
  refine xV rfl rfl rfl (v_eqlF rfl rfl (by omega)) ?_
  refine rl_nil (g_le (xK (xS rfl (Fr.le_refl _))) ?_)
  refine g_cond_false rfl ?_
  refine g_skip (g_seq ?_)
  refine g_region ?_
  refine xV rfl rfl rfl (v_move rfl) ?_
  refine xV rfl rfl rfl (v_lenSlice T.sl_33_40_2 rfl) ?_
  refine xV rfl rfl rfl (v_assign rfl) ?_
  refine rl_nil (g_le (xK (xS rfl (xS rfl (Fr.le_refl _)))) ?_)
  refine g_seq (g_seq ?_)
  refine g_region ?_
  refine xV rfl rfl rfl (v_move rfl) ?_
  refine xV rfl rfl rfl (v_move rfl) ?_
  refine xV rfl rfl rfl (v_eql rfl rfl) ?_
  refine rl_nil (g_le (xK (xS rfl (xS rfl (Fr.le_refl _)))) ?_)
  refine g_cond rfl (fun h2 => ?_) (fun h2 => ?_)
  · try with_reducible exact ft_elim h2
    all_goals
      try replace h2 := of_decide_eq_true h2
      refine g_seq ?_
      refine g_region ?_
      refine xV rfl rfl rfl (v_move rfl) ?_
      refine xV rfl rfl rfl (v_move rfl) ?_
      have hsrc : SrcAt w (some ⟨vb, 0, none⟩) 1 vcells := .inr ⟨vb, 0, rfl, own_cells hw (by (repeat first | with_reducible exact xH | apply xT); first | done | fail) (subAt_all _)⟩
      refine rl_k rfl (k_appendS (news := vcells) hw T.sl_33_40_2 T.zero_40 T.bytes_40_40 rfl (by decide) rfl rfl (by (repeat first | with_reducible exact xH | apply xT); first | done | fail) hvl hsrc hvo (by omega) (by simp only [maxLen]; omega) rfl (fun vv7_2 w hw hnil => ?_))
      refine xV rfl rfl rfl (v_assign rfl) ?_
      refine rl_nil (g_le (xK (xS rfl (xS rfl (xS rfl (Fr.le_refl _))))) ?_)
      refine g_ret1 Try.func67 rfl rfl ?_
      refine ⟨_, rfl, ?_⟩
      rw [List.take_of_length_le (show cells.length ≤ i * 2 by omega), List.drop_eq_nil_of_le (show cells.length ≤ i * 2 by omega), List.append_nil]
      exact hw.xQ
  · try with_reducible exact tf_elim h2
    all_goals
      try replace h2 := of_decide_eq_false h2
      obtain ⟨gb, rfl⟩ := ha (by omega)
      refine g_skip (g_seq (g_seq ?_))
      refine g_region ?_
      refine xV rfl rfl rfl (v_move rfl) ?_
      refine xV rfl rfl rfl (v_move rfl) ?_
      refine xV rfl rfl rfl (v_add rfl rfl (by omega)) ?_
      refine xV rfl rfl rfl (v_move rfl) ?_
      refine xV rfl rfl rfl (v_capSlice T.sl_33_40_2 rfl) ?_
      refine xV rfl rfl rfl (v_gtr rfl rfl) ?_
      refine rl_nil (g_le (xK (xS rfl (xS rfl (xS rfl (xS rfl (xS rfl (Fr.le_refl _))))))) ?_)
      refine g_cond rfl (fun h3 => ?_) (fun h3 => ?_)
      · try with_reducible exact ft_elim h3
        all_goals
          try replace h3 := of_decide_eq_true h3
          refine g_seq ?_
          refine g_region ?_
          refine xV rfl rfl rfl (v_move rfl) ?_
          refine xV rfl rfl rfl (v_move rfl) ?_
          refine xV rfl rfl rfl (v_sliceTo T.sl_33_40_2 rfl rfl (by omega) (by omega)) ?_
          refine xV rfl rfl rfl (v_move rfl) ?_
          refine xV rfl rfl rfl (v_move rfl) ?_
          refine xV rfl rfl rfl (v_add rfl rfl (by omega)) ?_
          refine xV rfl rfl rfl (v_move rfl) ?_
          refine xV rfl rfl rfl (v_sub rfl rfl (by omega)) ?_
          refine rl_k rfl (k_appendZ (k := n + 1 - i) (m := i) (xs := cells) hw T.sl_33_40_2 T.int_3_i64 T.zero_40 T.bytes_40_40 rfl (by decide) rfl rfl (by omega) (by (repeat first | with_reducible exact xH | apply xT); first | done | fail) (by omega) (by omega) (by omega) (by omega) (by simp only [maxLen]; omega) rfl (fun bk9_8 cc9_8 zz9_8 w hzl hw => ?_))
          refine xV rfl rfl rfl (v_assign rfl) ?_
          refine rl_nil (g_le (xK (xS rfl (xS rfl (xS rfl (xS rfl (xS rfl (xS rfl (xS rfl (xS rfl (xS rfl (Fr.le_refl _))))))))))) ?_)
          refine g_seq ?_
          obtain ⟨_, _, hv9, hcc, _, _⟩ := hw.own_shape
          simp only [Value.slice.injEq] at hv9
          obtain ⟨_, _, rfl⟩ := hv9
          refine g_region ?_
          refine xV rfl rfl rfl (v_move rfl) ?_
          refine xV rfl rfl rfl (v_move rfl) ?_
          refine xV rfl rfl rfl (v_sliceFrom T.sl_33_40_2 rfl rfl (by omega) (by omega) (by omega)) ?_
          refine xV rfl rfl rfl (v_move rfl) ?_
          have hsrc : SrcAt w (some ⟨vb, 0, none⟩) 1 vcells := .inr ⟨vb, 0, rfl, own_cells hw (by (repeat first | with_reducible exact xH | apply xT); first | done | fail) (subAt_all _)⟩
          refine rl_k rfl (k_copyOwn (k := 1) (vs := vcells) hw T.sl_33_40_2 rfl rfl (by show min _ _ = _; omega) (by (repeat first | with_reducible exact xH | apply xT); first | done | fail) hvl hsrc hvo (by simp only [List.length_append, List.length_take]; omega) rfl (fun w hw => ?_))
          refine rl_nil (g_le (xS rfl (xS rfl (xS rfl (xS rfl (xS rfl (Fr.le_refl _)))))) ?_)
          refine g_seq ?_
          refine g_drawA ord_f67_r11_S07 (by kernel_rfl) T.mixed hw (fun w hw => ?_)
          refine rs_a 0 rfl rfl rfl rfl (v_move rfl) ?_
          refine rs_a 1 rfl rfl rfl rfl (v_move rfl) ?_
          refine rs_a 2 rfl rfl rfl rfl (v_move rfl) ?_
          refine rs_a 3 rfl rfl rfl rfl (v_add rfl rfl (by omega)) ?_
          refine rs_a 4 rfl rfl rfl rfl (v_sliceFrom T.sl_33_40_2 rfl rfl (by omega) (by omega) (by omega)) ?_
          refine rs_a 5 rfl rfl rfl rfl (v_move rfl) ?_
          refine rs_kv 6 rfl rfl rfl rfl (S' := fun _ => True) trivial (v_move rfl) ?_
          refine rs_kv 7 rfl rfl rfl rfl (S' := fun _ => True) trivial (v_sliceFrom T.sl_33_40_2 rfl rfl (by omega) (by omega) (by omega)) ?_
          have hsrc : SrcAt w (some ⟨gb, 0 + (i : Int).toNat * 2, none⟩) (n - i) (cells.drop (i * 2)) := .inr ⟨gb, _, rfl, own_cells hw (by (repeat first | with_reducible exact xH | apply xT); first | done | fail) (subAt_drop (by omega))⟩
          refine rs_k 8 rfl rfl (k_copyOwn (k := n - i) (vs := cells.drop (i * 2)) hw T.sl_33_40_2 rfl rfl (by show min _ _ = _; omega) (by (repeat first | with_reducible exact xH | apply xT); first | done | fail) (by rw [List.length_drop]; omega) hsrc (fun u hu => hone u (List.mem_of_mem_drop hu)) (by simp only [List.length_append, List.length_take, List.length_drop]; omega) rfl (fun w hw => ?_))
          refine ⟨fun _ => trivial, ?_⟩
          refine rs_done (g_le (xS rfl (xS rfl (xS rfl (xS rfl (xS rfl (xS rfl (xS rfl (xS rfl (xS rfl (Fr.le_refl _)))))))))) ?_)
          refine g_seq ?_
          refine g_region ?_
          refine xV rfl rfl rfl (v_move rfl) ?_
          refine xV rfl rfl rfl (v_assign rfl) ?_
          refine rl_nil (g_le (xK (xS rfl (Fr.le_refl _))) ?_)
          refine g_ret1 Try.func67 rfl rfl ?_
          refine ⟨_, rfl, ?_⟩
          rw [copy_new (by rw [List.length_take]; omega) rfl (by rw [List.length_take]; omega) rfl (by rw [List.length_drop]; omega)] at hw
          rw [show i + (n + 1 - i) = n + 1 by omega] at hw ⊢
          exact hw.xQ
      · try with_reducible exact tf_elim h3
        all_goals
          try replace h3 := of_decide_eq_false h3
          refine g_skip (g_seq ?_)
          refine g_region ?_
          refine xV rfl rfl rfl (v_move rfl) ?_
          refine xV rfl rfl rfl (v_move rfl) ?_
          refine xV rfl rfl rfl (v_move rfl) ?_
          refine xV rfl rfl rfl (v_add rfl rfl (by omega)) ?_
          refine xV rfl rfl rfl (v_sliceTo T.sl_33_40_2 rfl rfl (by omega) (by omega)) ?_
          refine xV rfl rfl rfl (v_assign rfl) ?_
          refine rl_nil (g_le (xK (xS rfl (xS rfl (xS rfl (xS rfl (xS rfl (Fr.le_refl _))))))) ?_)
          obtain ⟨ys, hyl, hw⟩ := (hw.xP (A := OwnSl 40 2 (.slice (some ⟨gb, 0, none⟩) n c) n cells)).own_more (j := ((n : Int) + 1).toNat) (by omega) (by omega)
          refine g_seq (g_seq ?_)
          refine g_region ?_
          refine xV rfl rfl rfl (v_move rfl) ?_
          refine xV rfl rfl rfl (v_move rfl) ?_
          refine xV rfl rfl rfl (v_move rfl) ?_
          refine xV rfl rfl rfl (v_move rfl) ?_
          refine xV rfl rfl rfl (v_add rfl rfl (by omega)) ?_
          refine xV rfl rfl rfl (v_sliceFrom T.sl_33_40_2 rfl rfl (by omega) (by omega) (by omega)) ?_
          obtain ⟨cs1, cs2, hne, hh1, hh2, _, hp2⟩ := Sat.own_apart (hw.pick .at1) (by omega) (by rw [List.length_append]; omega)
          refine rl_k rfl (k_ext (e := Extern.SlicesOverlaps.overlaps #[33, 33] #[4]) Try.func76 (by kernel_rfl) (by kernel_rfl) (by kernel_rfl) (by kernel_rfl) rfl (overlaps_run T.sl_33_40_2 hne hh1 hh2 hp2) rfl ?_)
          refine xV rfl rfl rfl (v_not rfl) ?_
          refine rl_nil (g_le (xK (xS rfl (xS rfl (xS rfl (xS rfl (xS rfl (xS rfl (xS rfl (Fr.le_refl _))))))))) ?_)
          refine g_cond_true rfl ?_
          refine g_seq ?_
          refine g_drawA ord_f67_r15_S07 (by kernel_rfl) T.mixed hw (fun w hw => ?_)
          refine rs_a 0 rfl rfl rfl rfl (v_move rfl) ?_
          refine rs_a 1 rfl rfl rfl rfl (v_move rfl) ?_
          refine rs_a 2 rfl rfl rfl rfl (v_move rfl) ?_
          refine rs_a 3 rfl rfl rfl rfl (v_add rfl rfl (by omega)) ?_
          refine rs_a 4 rfl rfl rfl rfl (v_sliceFrom T.sl_33_40_2 rfl rfl (by omega) (by omega) (by omega)) ?_
          refine rs_a 5 rfl rfl rfl rfl (v_move rfl) ?_
          refine rs_kv 6 rfl rfl rfl rfl (S' := fun _ => True) trivial (v_move rfl) ?_
          refine rs_kv 7 rfl rfl rfl rfl (S' := fun _ => True) trivial (v_sliceFrom T.sl_33_40_2 rfl rfl (by omega) (by omega) (by omega)) ?_
          have hsrc : SrcAt w (some ⟨gb, 0 + (i : Int).toNat * 2, none⟩) (n - i) (cells.drop (i * 2)) := .inr ⟨gb, _, rfl, own_cells hw (by (repeat first | with_reducible exact xH | apply xT); first | done | fail) (subAt_app (subAt_drop (by omega)))⟩
          refine rs_k 8 rfl rfl (k_copyOwn (k := n - i) (vs := cells.drop (i * 2)) hw T.sl_33_40_2 rfl rfl (by show min _ _ = _; omega) (by (repeat first | with_reducible exact xH | apply xT); first | done | fail) (by rw [List.length_drop]; omega) hsrc (fun u hu => hone u (List.mem_of_mem_drop hu)) (by simp only [List.length_append, List.length_drop]; omega) rfl (fun w hw => ?_))
          refine ⟨fun _ => trivial, ?_⟩
          refine rs_done (g_le (xS rfl (xS rfl (xS rfl (xS rfl (xS rfl (xS rfl (xS rfl (xS rfl (xS rfl (Fr.le_refl _)))))))))) ?_)
          refine g_seq ?_
          refine g_region ?_
          refine xV rfl rfl rfl (v_move rfl) ?_
          refine xV rfl rfl rfl (v_move rfl) ?_
          refine xV rfl rfl rfl (v_sliceFrom T.sl_33_40_2 rfl rfl (by omega) (by omega) (by omega)) ?_
          refine xV rfl rfl rfl (v_move rfl) ?_
          have hsrc : SrcAt w (some ⟨vb, 0, none⟩) 1 vcells := .inr ⟨vb, 0, rfl, own_cells hw (by (repeat first | with_reducible exact xH | apply xT); first | done | fail) (subAt_all _)⟩
          refine rl_k rfl (k_copyOwn (k := 1) (vs := vcells) hw T.sl_33_40_2 rfl rfl (by show min _ _ = _; omega) (by (repeat first | with_reducible exact xH | apply xT); first | done | fail) hvl hsrc hvo (by simp only [List.length_append, List.length_take, List.length_drop]; omega) rfl (fun w hw => ?_))
          refine rl_nil (g_le (xS rfl (xS rfl (xS rfl (xS rfl (xS rfl (Fr.le_refl _)))))) ?_)
          refine g_seq ?_
          refine g_region ?_
          refine xV rfl rfl rfl (v_move rfl) ?_
          refine xV rfl rfl rfl (v_assign rfl) ?_
          refine rl_nil (g_le (xK (xS rfl (Fr.le_refl _))) ?_)
          refine g_ret1 Try.func67 rfl rfl ?_
          refine ⟨_, rfl, ?_⟩
          rw [copy_up (m := 2) (by omega) hvl (by omega) (by omega) rfl (by omega) (by omega)] at hw
          rw [show ((n : Int) + 1).toNat = n + 1 by omega] at hw
          rw [show ((n : Int) + ((1 : Nat) : Int)).toNat = n + 1 by omega]
          exact hw.xQ
theorem ord_f69_r9_S07 : orderOfB Try.f69 9 [] (.a 0 (.a 1 (.a 2 (.a 3 (.a 4 (.a 5 (.a 6 (.a 7 (.k 8 (.k 9 (.k 10 (.k 11 (.k 12 .done))))))))))))) = true := by kernel_rfl
theorem ord_f69_r13_S07 : orderOfB Try.f69 13 [9] (.a 0 (.a 1 (.a 2 (.a 3 (.a 4 (.a 5 (.a 6 (.k 7 (.k 8 (.k 9 .done)))))))))) = true := by kernel_rfl
theorem ord_f69_r18_S07 : orderOfB Try.f69 18 [9] (.a 0 (.a 1 (.a 2 (.a 3 (.a 4 (.a 5 (.a 6 (.k 7 (.k 8 (.k 9 .done)))))))))) = true := by kernel_rfl
theorem ord_f69_r22_S07 : orderOfB Try.f69 22 [9] (.a 0 (.a 1 (.a 2 (.a 3 (.a 4 (.a 5 (.a 6 (.k 7 (.k 8 (.k 9 .done)))))))))) = true := by kernel_rfl
set_option maxHeartbeats 4000000 in
/-- A row in which some elements stand for others. -/
theorem replaceKd_calls {E : Env} {w : World} {L : List As} {a : Option Addr} {n c i j vb m vc : Nat} {cells vcells : List Value} (hi : i < j) (hj : j ≤ n) (hb : n ≤ 100000) (hm0 : 0 < m) (hm : m ≤ 100000) (hone : ∀ u ∈ cells, u.oneCell' = true) (hvl : vcells.length = m * 5) (hvo : ∀ u ∈ vcells, u.oneCell' = true)
    (hw : Sat E w (OwnSl 104 5 (.slice (some ⟨vb, 0, none⟩) m vc) m vcells :: OwnSl 104 5 (.slice a n c) n cells :: L)) :
    Calls Try.prog 69 #[.slice a n c, .int .i64 i, .int .i64 j, .slice (some ⟨vb, 0, none⟩) m vc] w fun e w' => ∃ v, e = .returned v ∧ Sat E w' (OwnSl 104 5 v (i + m + (n - j)) (cells.take (i * 5) ++ vcells ++ cells.drop (j * 5)) :: L) := by
  obtain ⟨a', c', hv, hnc, hcm, ha⟩ := (hw.pick .at1).own_shape
  simp only [Value.slice.injEq] at hv
  obtain ⟨rfl, _, rfl⟩ := hv
  have hlen := (hw.pick .at1).own_len
  simp only [maxLen] at hcm
  obtain ⟨gb, rfl⟩ := ha (by omega)
  refine calls_of_g (n := 224) Try.func69 rfl rfl rfl ?_
  change G _ _ _ _ _ [(0, _), (1, _), (2, _), (3, _)] _
  refine g_seq ?_
  refine g_region ?_
  refine xV rfl rfl rfl (v_assign rfl) ?_
  refine rl_nil (g_le (xK (Fr.le_refl _)) ?_)
  refine g_seq ?_
  refine g_region ?_
  refine xV rfl rfl rfl (v_move rfl) ?_
  refine xV rfl rfl rfl (v_move rfl) ?_
  refine xV rfl rfl rfl (v_move rfl) ?_
  refine xV rfl rfl rfl (v_sliceFromTo T.sl_82_104_5 rfl rfl rfl (by omega) (by omega) (by omega) (by omega)) ?_
  refine rl_nil (g_le (xS rfl (xS rfl (xS rfl (xS rfl (Fr.le_refl _))))) ?_)
  refine g_seq (g_seq ?_)
  refine g_region ?_
  refine xV rfl rfl rfl (v_move rfl) ?_
  refine xV rfl rfl rfl (v_move rfl) ?_
  refine xV rfl rfl rfl (v_eqlF rfl rfl (by omega)) ?_
  refine rl_nil (g_le (xK (xS rfl (xS rfl (Fr.le_refl _)))) ?_)
  refine g_cond_false rfl ?_
  refine g_skip (g_seq (g_seq ?_))
  refine g_region ?_
  refine xV rfl rfl rfl (v_move rfl) ?_
  refine xV rfl rfl rfl (v_move rfl) ?_
  refine xV rfl rfl rfl (v_lenSlice T.sl_82_104_5 rfl) ?_
  refine xV rfl rfl rfl (v_eql rfl rfl) ?_
  refine rl_nil (g_le (xK (xS rfl (xS rfl (xS rfl (Fr.le_refl _))))) ?_)
  refine g_cond rfl (fun h2 => ?_) (fun h2 => ?_)
  · try with_reducible exact ft_elim h2
    all_goals
      try replace h2 := of_decide_eq_true h2
      try (exfalso; omega)
      all_goals
        refine g_seq ?_
        refine g_region ?_
        refine xV rfl rfl rfl (v_move rfl) ?_
        refine xV rfl rfl rfl (v_move rfl) ?_
        refine xV rfl rfl rfl (v_sliceTo T.sl_82_104_5 rfl rfl (by omega) (by omega)) ?_
        refine xV rfl rfl rfl (v_move rfl) ?_
        have hsrc : SrcAt w (some ⟨vb, 0, none⟩) m vcells := .inr ⟨vb, 0, rfl, own_cells hw (by (repeat first | with_reducible exact xH | apply xT); first | done | fail) (subAt_all _)⟩
        have hw := (hw.xP (A := OwnSl 104 5 (.slice (some ⟨gb, 0, none⟩) n c) n cells)).own_take (j := i) (by omega)
        refine rl_k rfl (k_appendB (m := i) (news := vcells) hw T.sl_82_104_5 T.zero_104 T.bytes_104_48 rfl (by decide) rfl rfl (by (repeat first | with_reducible exact xH | apply xT); first | done | fail) hvl hsrc hvo (by omega) (by simp only [maxLen]; omega) rfl (fun vv5_4 w hw hin => ?_))
        obtain ⟨a2, c2, rfl, hc2, _, _⟩ := hw.own_shape
        refine xV rfl rfl rfl (v_assign rfl) ?_
        refine rl_nil (g_le (xK (xS rfl (xS rfl (xS rfl (xS rfl (xS rfl (Fr.le_refl _))))))) ?_)
        refine g_seq (g_seq ?_)
        refine g_region ?_
        refine xV rfl rfl rfl (v_move rfl) ?_
        refine xV rfl rfl rfl (v_lenSlice T.sl_82_104_5 rfl) ?_
        refine xV rfl rfl rfl (v_move rfl) ?_
        refine xV rfl rfl rfl (v_lenSlice T.sl_82_104_5 rfl) ?_
        refine xV rfl rfl rfl (v_lss rfl rfl) ?_
        refine rl_nil (g_le (xK (xS rfl (xS rfl (xS rfl (xS rfl (Fr.le_refl _)))))) ?_)
        refine g_cond rfl (fun h3 => ?_) (fun h3 => ?_)
        · try with_reducible exact ft_elim h3
          all_goals
            try replace h3 := of_decide_eq_true h3
            have hz := hw
            clear hw
            have hin2 := hin (by omega)
            simp only [Value.slice.injEq] at hin2
            obtain ⟨rfl, _, rfl⟩ := hin2
            have hw := hz
            try (exfalso; omega)
            all_goals
              refine g_region ?_
              refine xV rfl rfl rfl (v_move rfl) ?_
              refine xV rfl rfl rfl (v_move rfl) ?_
              refine xV rfl rfl rfl (v_lenSlice T.sl_82_104_5 rfl) ?_
              refine xV rfl rfl rfl (v_sliceFrom T.sl_82_104_5 rfl rfl (by omega) (by omega) (by omega)) ?_
              obtain ⟨ys, hyl, hw⟩ := hw.own_more (j := n) (by omega) hnc
              refine rl_k rfl (k_clearPart hw T.sl_82_104_5 T.zero_104 rfl (by simp [Value.cells, Value.oneCell']) rfl (by (repeat first | with_reducible exact xH | apply xT); first | done | fail) (by simp only [List.length_append, List.length_take]; omega) rfl (fun zs w hzl hw => ?_))
              refine rl_nil (g_le (xS rfl (xS rfl (xS rfl (xS rfl (Fr.le_refl _))))) ?_)
              refine g_seq ?_
              refine g_region ?_
              refine xV rfl rfl rfl (v_move rfl) ?_
              refine xV rfl rfl rfl (v_assign rfl) ?_
              refine rl_nil (g_le (xK (xS rfl (Fr.le_refl _))) ?_)
              refine g_ret1 Try.func69 rfl rfl ?_
              refine ⟨_, rfl, ?_⟩
              have h9 := (hw.pick .at0).own_take (j := i + m) (by omega)
              rw [List.append_assoc, take_mid (by simp only [List.length_append, List.length_take]; omega) (by simp only [List.length_append, List.length_take]; omega)] at h9
              rw [show i + m + (n - j) = i + m by omega, List.drop_eq_nil_of_le (show cells.length ≤ j * 5 by omega), List.append_nil]
              exact h9.xQ
        · try with_reducible exact tf_elim h3
          all_goals
            try replace h3 := of_decide_eq_false h3
            try (exfalso; omega)
            all_goals
              refine g_skip (g_seq ?_)
              refine g_region ?_
              refine xV rfl rfl rfl (v_move rfl) ?_
              refine xV rfl rfl rfl (v_assign rfl) ?_
              refine rl_nil (g_le (xK (xS rfl (Fr.le_refl _))) ?_)
              refine g_ret1 Try.func69 rfl rfl ?_
              refine ⟨_, rfl, ?_⟩
              rw [show i + m + (n - j) = i + m by omega, List.drop_eq_nil_of_le (show cells.length ≤ j * 5 by omega), List.append_nil]
              exact hw.xQ
  · try with_reducible exact tf_elim h2
    all_goals
      try replace h2 := of_decide_eq_false h2
      try (exfalso; omega)
      all_goals
        refine g_skip (g_seq ?_)
        refine g_drawA ord_f69_r9_S07 (by kernel_rfl) T.mixed hw (fun w hw => ?_)
        refine rs_a 0 rfl rfl rfl rfl (v_move rfl) ?_
        refine rs_a 1 rfl rfl rfl rfl (v_move rfl) ?_
        refine rs_a 2 rfl rfl rfl rfl (v_sliceTo T.sl_82_104_5 rfl rfl (by omega) (by omega)) ?_
        refine rs_a 3 rfl rfl rfl rfl (v_lenSlice T.sl_82_104_5 rfl) ?_
        refine rs_a 4 rfl rfl rfl rfl (v_move rfl) ?_
        refine rs_a 5 rfl rfl rfl rfl (v_lenSlice T.sl_82_104_5 rfl) ?_
        refine rs_a 6 rfl rfl rfl rfl (v_add rfl rfl (by omega)) ?_
        refine rs_a 7 rfl rfl rfl rfl (v_move rfl) ?_
        refine rs_kv 8 rfl rfl rfl rfl (S' := fun _ => True) trivial (v_move rfl) ?_
        refine rs_kv 9 rfl rfl rfl rfl (S' := fun _ => True) trivial (v_sliceFrom T.sl_82_104_5 rfl rfl (by omega) (by omega) (by omega)) ?_
        refine rs_kv 10 rfl rfl rfl rfl (S' := fun _ => True) trivial (v_lenSlice T.sl_82_104_5 rfl) ?_
        refine rs_kv 11 rfl rfl rfl rfl (S' := fun _ => True) trivial (v_add rfl rfl (by omega)) ?_
        refine rs_kv 12 rfl rfl rfl rfl (S' := fun _ => True) trivial (v_assign rfl) ?_
        refine rs_done (g_le (xK (xS rfl (xS rfl (xS rfl (xS rfl (xS rfl (xS rfl (xS rfl (xS rfl (xS rfl (xS rfl (xS rfl (xS rfl (Fr.le_refl _)))))))))))))) ?_)
        refine g_seq (g_seq ?_)
        refine g_region ?_
        refine xV rfl rfl rfl (v_move rfl) ?_
        refine xV rfl rfl rfl (v_move rfl) ?_
        refine xV rfl rfl rfl (v_capSlice T.sl_82_104_5 rfl) ?_
        refine xV rfl rfl rfl (v_gtr rfl rfl) ?_
        refine rl_nil (g_le (xK (xS rfl (xS rfl (xS rfl (Fr.le_refl _))))) ?_)
        refine g_cond rfl (fun h4 => ?_) (fun h4 => ?_)
        · try with_reducible exact ft_elim h4
          all_goals
            try replace h4 := of_decide_eq_true h4
            try (exfalso; omega)
            all_goals
              refine g_seq ?_
              refine g_region ?_
              refine xV rfl rfl rfl (v_move rfl) ?_
              refine xV rfl rfl rfl (v_move rfl) ?_
              refine xV rfl rfl rfl (v_sliceTo T.sl_82_104_5 rfl rfl (by omega) (by omega)) ?_
              refine xV rfl rfl rfl (v_move rfl) ?_
              refine xV rfl rfl rfl (v_move rfl) ?_
              refine xV rfl rfl rfl (v_sub rfl rfl (by omega)) ?_
              refine rl_k rfl (k_appendZ (k := m + (n - j)) (m := i) (xs := cells) hw T.sl_82_104_5 T.int_3_i64 T.zero_104 T.bytes_104_48 rfl (by decide) rfl rfl (by omega) (by (repeat first | with_reducible exact xH | apply xT); first | done | fail) (by omega) (by omega) (by omega) (by omega) (by simp only [maxLen]; omega) rfl (fun bk11_6 cc11_6 zz11_6 w hzl hw => ?_))
              refine xV rfl rfl rfl (v_assign rfl) ?_
              refine rl_nil (g_le (xK (xS rfl (xS rfl (xS rfl (xS rfl (xS rfl (xS rfl (xS rfl (Fr.le_refl _))))))))) ?_)
              refine g_seq ?_
              obtain ⟨_, _, hv9, hcc, _, _⟩ := hw.own_shape
              simp only [Value.slice.injEq] at hv9
              obtain ⟨_, _, rfl⟩ := hv9
              refine g_region ?_
              refine xV rfl rfl rfl (v_move rfl) ?_
              refine xV rfl rfl rfl (v_move rfl) ?_
              refine xV rfl rfl rfl (v_sliceFrom T.sl_82_104_5 rfl rfl (by omega) (by omega) (by omega)) ?_
              refine xV rfl rfl rfl (v_move rfl) ?_
              have hsrc : SrcAt w (some ⟨vb, 0, none⟩) m vcells := .inr ⟨vb, 0, rfl, own_cells hw (by (repeat first | with_reducible exact xH | apply xT); first | done | fail) (subAt_all _)⟩
              refine rl_k rfl (k_copyOwn (k := m) (vs := vcells) hw T.sl_82_104_5 rfl rfl (by show min _ _ = _; omega) (by (repeat first | with_reducible exact xH | apply xT); first | done | fail) hvl hsrc hvo (by simp only [List.length_append, List.length_take]; omega) rfl (fun w hw => ?_))
              refine rl_nil (g_le (xS rfl (xS rfl (xS rfl (xS rfl (xS rfl (Fr.le_refl _)))))) ?_)
              refine g_seq ?_
              refine g_drawA ord_f69_r13_S07 (by kernel_rfl) T.mixed hw (fun w hw => ?_)
              refine rs_a 0 rfl rfl rfl rfl (v_move rfl) ?_
              refine rs_a 1 rfl rfl rfl rfl (v_move rfl) ?_
              refine rs_a 2 rfl rfl rfl rfl (v_move rfl) ?_
              refine rs_a 3 rfl rfl rfl rfl (v_lenSlice T.sl_82_104_5 rfl) ?_
              refine rs_a 4 rfl rfl rfl rfl (v_add rfl rfl (by omega)) ?_
              refine rs_a 5 rfl rfl rfl rfl (v_sliceFrom T.sl_82_104_5 rfl rfl (by omega) (by omega) (by omega)) ?_
              refine rs_a 6 rfl rfl rfl rfl (v_move rfl) ?_
              refine rs_kv 7 rfl rfl rfl rfl (S' := fun _ => True) trivial (v_move rfl) ?_
              refine rs_kv 8 rfl rfl rfl rfl (S' := fun _ => True) trivial (v_sliceFrom T.sl_82_104_5 rfl rfl (by omega) (by omega) (by omega)) ?_
              have hsrc : SrcAt w (some ⟨gb, 0 + (j : Int).toNat * 5, none⟩) (n - j) (cells.drop (j * 5)) := .inr ⟨gb, _, rfl, own_cells hw (by (repeat first | with_reducible exact xH | apply xT); first | done | fail) (subAt_drop (by omega))⟩
              refine rs_k 9 rfl rfl (k_copyOwn (k := n - j) (vs := cells.drop (j * 5)) hw T.sl_82_104_5 rfl rfl (by show min _ _ = _; omega) (by (repeat first | with_reducible exact xH | apply xT); first | done | fail) (by rw [List.length_drop]; omega) hsrc (fun u hu => hone u (List.mem_of_mem_drop hu)) (by simp only [List.length_append, List.length_take, List.length_drop]; omega) rfl (fun w hw => ?_))
              refine ⟨fun _ => trivial, ?_⟩
              refine rs_done (g_le (xS rfl (xS rfl (xS rfl (xS rfl (xS rfl (xS rfl (xS rfl (xS rfl (xS rfl (xS rfl (Fr.le_refl _))))))))))) ?_)
              refine g_seq ?_
              refine g_region ?_
              refine xV rfl rfl rfl (v_move rfl) ?_
              refine xV rfl rfl rfl (v_assign rfl) ?_
              refine rl_nil (g_le (xK (xS rfl (Fr.le_refl _))) ?_)
              refine g_ret1 Try.func69 rfl rfl ?_
              refine ⟨_, rfl, ?_⟩
              rw [copy_new (by rw [List.length_take]; omega) rfl (by rw [List.length_take]; omega) rfl (by rw [List.length_drop]; omega)] at hw
              rw [show i + m + (n - j) = i + (m + (n - j)) by omega]
              exact hw.xQ
        · try with_reducible exact tf_elim h4
          all_goals
            try replace h4 := of_decide_eq_false h4
            try (exfalso; omega)
            all_goals
              refine g_skip (g_seq ?_)
              refine g_region ?_
              refine xV rfl rfl rfl (v_move rfl) ?_
              refine xV rfl rfl rfl (v_move rfl) ?_
              refine xV rfl rfl rfl (v_sliceTo T.sl_82_104_5 rfl rfl (by omega) (by omega)) ?_
              refine xV rfl rfl rfl (v_assign rfl) ?_
              refine rl_nil (g_le (xK (xS rfl (xS rfl (xS rfl (Fr.le_refl _))))) ?_)
              refine g_seq (g_seq ?_)
              refine g_region ?_
              refine xV rfl rfl rfl (v_move rfl) ?_
              refine xV rfl rfl rfl (v_move rfl) ?_
              refine xV rfl rfl rfl (v_lenSlice T.sl_82_104_5 rfl) ?_
              refine xV rfl rfl rfl (v_add rfl rfl (by omega)) ?_
              refine xV rfl rfl rfl (v_move rfl) ?_
              refine xV rfl rfl rfl (v_leq rfl rfl) ?_
              refine rl_nil (g_le (xK (xS rfl (xS rfl (xS rfl (xS rfl (xS rfl (Fr.le_refl _))))))) ?_)
              refine g_cond rfl (fun h5 => ?_) (fun h5 => ?_)
              · try with_reducible exact ft_elim h5
                all_goals
                  try replace h5 := of_decide_eq_true h5
                  try (exfalso; omega)
                  all_goals
                    refine g_seq ?_
                    refine g_region ?_
                    refine xV rfl rfl rfl (v_move rfl) ?_
                    refine xV rfl rfl rfl (v_move rfl) ?_
                    refine xV rfl rfl rfl (v_sliceFrom T.sl_82_104_5 rfl rfl (by omega) (by omega) (by omega)) ?_
                    refine xV rfl rfl rfl (v_move rfl) ?_
                    have hsrc : SrcAt w (some ⟨vb, 0, none⟩) m vcells := .inr ⟨vb, 0, rfl, own_cells hw (by (repeat first | with_reducible exact xH | apply xT); first | done | fail) (subAt_all _)⟩
                    refine rl_k rfl (k_copyOwn (k := m) (vs := vcells) (m := n) (xs := cells) hw T.sl_82_104_5 rfl rfl (by show min _ _ = _; omega) (by (repeat first | with_reducible exact xH | apply xT); first | done | fail) hvl hsrc hvo (by omega) rfl (fun w hw => ?_))
                    refine rl_nil (g_le (xS rfl (xS rfl (xS rfl (xS rfl (xS rfl (Fr.le_refl _)))))) ?_)
                    refine g_seq ?_
                    refine g_drawA ord_f69_r18_S07 (by kernel_rfl) T.mixed hw (fun w hw => ?_)
                    refine rs_a 0 rfl rfl rfl rfl (v_move rfl) ?_
                    refine rs_a 1 rfl rfl rfl rfl (v_move rfl) ?_
                    refine rs_a 2 rfl rfl rfl rfl (v_move rfl) ?_
                    refine rs_a 3 rfl rfl rfl rfl (v_lenSlice T.sl_82_104_5 rfl) ?_
                    refine rs_a 4 rfl rfl rfl rfl (v_add rfl rfl (by omega)) ?_
                    refine rs_a 5 rfl rfl rfl rfl (v_sliceFrom T.sl_82_104_5 rfl rfl (by omega) (by omega) (by omega)) ?_
                    refine rs_a 6 rfl rfl rfl rfl (v_move rfl) ?_
                    refine rs_kv 7 rfl rfl rfl rfl (S' := fun _ => True) trivial (v_move rfl) ?_
                    refine rs_kv 8 rfl rfl rfl rfl (S' := fun _ => True) trivial (v_sliceFrom T.sl_82_104_5 rfl rfl (by omega) (by omega) (by omega)) ?_
                    have hsrc : SrcAt w (some ⟨gb, 0 + (j : Int).toNat * 5, none⟩) (n - j) (cells.drop (j * 5)) := .inr ⟨gb, _, rfl, own_cells hw (by (repeat first | with_reducible exact xH | apply xT); first | done | fail) (drop_fit (p := i * 5) (by omega) (by omega) (by omega) (by omega) (by omega))⟩
                    refine rs_k 9 rfl rfl (k_copyOwn (k := n - j) (vs := cells.drop (j * 5)) hw T.sl_82_104_5 rfl rfl (by show min _ _ = _; omega) (by (repeat first | with_reducible exact xH | apply xT); first | done | fail) (by rw [List.length_drop]; omega) hsrc (fun u hu => hone u (List.mem_of_mem_drop hu)) (by simp only [List.length_append, List.length_take, List.length_drop]; omega) rfl (fun w hw => ?_))
                    refine ⟨fun _ => trivial, ?_⟩
                    refine rs_done (g_le (xS rfl (xS rfl (xS rfl (xS rfl (xS rfl (xS rfl (xS rfl (xS rfl (xS rfl (xS rfl (Fr.le_refl _))))))))))) ?_)
                    refine g_seq ?_
                    refine g_region ?_
                    refine xV rfl rfl rfl (v_move rfl) ?_
                    refine xV rfl rfl rfl (v_move rfl) ?_
                    refine xV rfl rfl rfl (v_sliceFromA T.sl_82_104_5 rfl rfl (by omega) (by omega) (by omega)) ?_
                    refine rl_k rfl (k_clearTail hw T.sl_82_104_5 T.zero_104 rfl (by simp [Value.cells, Value.oneCell']) rfl (by (repeat first | with_reducible exact xH | apply xT); first | done | fail) (by omega) (by omega) rfl (fun zs w hzl hw => ?_))
                    refine rl_nil (g_le (xS rfl (xS rfl (xS rfl (Fr.le_refl _)))) ?_)
                    refine g_seq ?_
                    refine g_region ?_
                    refine xV rfl rfl rfl (v_move rfl) ?_
                    refine xV rfl rfl rfl (v_assign rfl) ?_
                    refine rl_nil (g_le (xK (xS rfl (Fr.le_refl _))) ?_)
                    refine g_ret1 Try.func69 rfl rfl ?_
                    refine ⟨_, rfl, ?_⟩
                    obtain ⟨T, hT⟩ := copy_fit (cells := cells) (v := vcells) (p := i * 5) (q := j * 5) (o1 := 0 + (i : Int).toNat * 5) (e1 := 0 + (i : Int).toNat * 5 + vcells.length) (o2 := 0 + ((i : Int) + (m : Int)).toNat * 5) (e2 := 0 + ((i : Int) + (m : Int)).toNat * 5 + (cells.drop (j * 5)).length) (by omega) (by omega) (by omega) (by omega) (by omega) rfl
                    rw [hT] at hw
                    have h9 := (hw.pick .at0).own_take (j := i + m + (n - j)) (by omega)
                    rw [List.append_assoc _ zs, take_mid (by simp only [List.length_append, List.length_take, List.length_drop]; omega) (by simp only [List.length_append, List.length_take, List.length_drop]; omega)] at h9
                    rw [show (((i : Int).toNat : Int) + (m : Int) + ((n - (j : Int).toNat : Nat) : Int)).toNat = i + m + (n - j) by omega]
                    exact h9.xQ
              · try with_reducible exact tf_elim h5
                all_goals
                  try replace h5 := of_decide_eq_false h5
                  try (exfalso; omega)
                  all_goals
                    refine g_skip (g_seq (g_seq ?_))
                    refine g_region ?_
                    refine xV rfl rfl rfl (v_move rfl) ?_
                    refine xV rfl rfl rfl (v_move rfl) ?_
                    refine xV rfl rfl rfl (v_move rfl) ?_
                    refine xV rfl rfl rfl (v_lenSlice T.sl_82_104_5 rfl) ?_
                    refine xV rfl rfl rfl (v_add rfl rfl (by omega)) ?_
                    refine xV rfl rfl rfl (v_sliceFrom T.sl_82_104_5 rfl rfl (by omega) (by omega) (by omega)) ?_
                    refine xV rfl rfl rfl (v_move rfl) ?_
                    obtain ⟨ys, hyl, hw⟩ := (hw.xP (A := OwnSl 104 5 (.slice (some ⟨gb, 0, none⟩) n c) n cells)).own_more (j := ((i : Int) + (m : Int) + ((n - (j : Int).toNat : Nat) : Int)).toNat) (by omega) (by omega)
                    obtain ⟨cs1, cs2, hne, hh1, hh2, _, hp2⟩ := Sat.own_apart hw (by rw [List.length_append]; omega) (by omega)
                    refine rl_k rfl (k_ext (e := Extern.SlicesOverlaps.overlaps #[82, 82] #[4]) Try.func79 (by kernel_rfl) (by kernel_rfl) (by kernel_rfl) (by kernel_rfl) rfl (overlaps_run T.sl_82_104_5 hne hh1 hh2 hp2) rfl ?_)
                    refine xV rfl rfl rfl (v_not rfl) ?_
                    refine rl_nil (g_le (xK (xS rfl (xS rfl (xS rfl (xS rfl (xS rfl (xS rfl (xS rfl (xS rfl (Fr.le_refl _)))))))))) ?_)
                    refine g_cond_true rfl ?_
                    refine g_seq ?_
                    refine g_drawA ord_f69_r22_S07 (by kernel_rfl) T.mixed hw (fun w hw => ?_)
                    refine rs_a 0 rfl rfl rfl rfl (v_move rfl) ?_
                    refine rs_a 1 rfl rfl rfl rfl (v_move rfl) ?_
                    refine rs_a 2 rfl rfl rfl rfl (v_move rfl) ?_
                    refine rs_a 3 rfl rfl rfl rfl (v_lenSlice T.sl_82_104_5 rfl) ?_
                    refine rs_a 4 rfl rfl rfl rfl (v_add rfl rfl (by omega)) ?_
                    refine rs_a 5 rfl rfl rfl rfl (v_sliceFrom T.sl_82_104_5 rfl rfl (by omega) (by omega) (by omega)) ?_
                    refine rs_a 6 rfl rfl rfl rfl (v_move rfl) ?_
                    refine rs_kv 7 rfl rfl rfl rfl (S' := fun _ => True) trivial (v_move rfl) ?_
                    refine rs_kv 8 rfl rfl rfl rfl (S' := fun _ => True) trivial (v_sliceFrom T.sl_82_104_5 rfl rfl (by omega) (by omega) (by omega)) ?_
                    have hsrc : SrcAt w (some ⟨gb, 0 + (j : Int).toNat * 5, none⟩) (n - j) (cells.drop (j * 5)) := .inr ⟨gb, _, rfl, own_cells hw (by (repeat first | with_reducible exact xH | apply xT); first | done | fail) (subAt_app (subAt_drop (by omega)))⟩
                    refine rs_k 9 rfl rfl (k_copyOwn (k := n - j) (vs := cells.drop (j * 5)) hw T.sl_82_104_5 rfl rfl (by show min _ _ = _; omega) (by (repeat first | with_reducible exact xH | apply xT); first | done | fail) (by rw [List.length_drop]; omega) hsrc (fun u hu => hone u (List.mem_of_mem_drop hu)) (by simp only [List.length_append, List.length_take, List.length_drop]; omega) rfl (fun w hw => ?_))
                    refine ⟨fun _ => trivial, ?_⟩
                    refine rs_done (g_le (xS rfl (xS rfl (xS rfl (xS rfl (xS rfl (xS rfl (xS rfl (xS rfl (xS rfl (xS rfl (Fr.le_refl _))))))))))) ?_)
                    refine g_seq ?_
                    refine g_region ?_
                    refine xV rfl rfl rfl (v_move rfl) ?_
                    refine xV rfl rfl rfl (v_move rfl) ?_
                    refine xV rfl rfl rfl (v_sliceFrom T.sl_82_104_5 rfl rfl (by omega) (by omega) (by omega)) ?_
                    refine xV rfl rfl rfl (v_move rfl) ?_
                    have hsrc : SrcAt w (some ⟨vb, 0, none⟩) m vcells := .inr ⟨vb, 0, rfl, own_cells hw (by (repeat first | with_reducible exact xH | apply xT); first | done | fail) (subAt_all _)⟩
                    refine rl_k rfl (k_copyOwn (k := m) (vs := vcells) hw T.sl_82_104_5 rfl rfl (by show min _ _ = _; omega) (by (repeat first | with_reducible exact xH | apply xT); first | done | fail) hvl hsrc hvo (by simp only [List.length_append, List.length_take, List.length_drop]; omega) rfl (fun w hw => ?_))
                    refine rl_nil (g_le (xS rfl (xS rfl (xS rfl (xS rfl (xS rfl (Fr.le_refl _)))))) ?_)
                    refine g_seq ?_
                    refine g_region ?_
                    refine xV rfl rfl rfl (v_move rfl) ?_
                    refine xV rfl rfl rfl (v_assign rfl) ?_
                    refine rl_nil (g_le (xK (xS rfl (Fr.le_refl _))) ?_)
                    refine g_ret1 Try.func69 rfl rfl ?_
                    refine ⟨_, rfl, ?_⟩
                    rw [copy_over (p := i * 5) (q := j * 5) (by omega) (by omega) rfl (by rw [List.length_append, List.length_drop]; omega) (by omega) (by omega)] at hw
                    rw [show (((i : Int).toNat : Int) + (m : Int) + ((n - (j : Int).toNat : Nat) : Int)).toNat = i + m + (n - j) by omega]
                    rw [show ((i : Int) + (m : Int) + ((n - (j : Int).toNat : Nat) : Int)).toNat = i + m + (n - j) by omega] at hw
                    exact hw.xQ
end Go.Proofs.Ytdiocmjhencbpaa
