/-
  The log (layer 14): what is live; Settle.
-/
import Derived.Test.YtipdklbedpkobaaS14i
namespace Go.Proofs.Ytipdklbedpkobaa
set_option maxRecDepth 8000
set_option linter.unusedSimpArgs false
set_option linter.unusedVariables false
open Go Xe Go.Lib
def zl (x : Sg) : Sg := ⟨x.kind, x.used, 0⟩
def fr (x : Sg) : Sg := if x.kind = 2 ∧ x.live = 0 then ⟨1, x.used, x.live⟩ else x
def upTo (f : Sg → Sg) (ss : List Sg) (i : Nat) : List Sg := ss.mapIdx fun j x => if j < i then f x else x
theorem upTo_len (f : Sg → Sg) (ss : List Sg) (i : Nat) : (upTo f ss i).length = ss.length := by simp [upTo]
theorem upTo_zero (f : Sg → Sg) (ss : List Sg) : upTo f ss 0 = ss := by
  apply List.ext_getElem?; intro i; unfold upTo; rw [List.getElem?_mapIdx]; cases ss[i]? <;> simp
theorem upTo_all (f : Sg → Sg) (ss : List Sg) : upTo f ss ss.length = ss.map f := by
  apply List.ext_getElem?; intro i; unfold upTo; rw [List.getElem?_mapIdx, List.getElem?_map]
  cases h : ss[i]? with
  | none => rfl
  | some x => simp [(List.getElem?_eq_some_iff.1 h).1]
theorem upTo_at {f : Sg → Sg} {ss : List Sg} {i : Nat} {x : Sg} (h : ss[i]? = some x) : (upTo f ss i)[i]? = some x := by
  unfold upTo; rw [List.getElem?_mapIdx, h]; simp
theorem upTo_succ {f : Sg → Sg} {ss : List Sg} {i : Nat} {x : Sg} (h : ss[i]? = some x) : (upTo f ss i).set i (f x) = upTo f ss (i + 1) := by
  have hi := (List.getElem?_eq_some_iff.1 h).1
  apply List.ext_getElem?; intro j
  by_cases hj : j = i
  · subst hj
    rw [List.getElem?_set_self (by rw [upTo_len]; exact hi)]
    unfold upTo; rw [List.getElem?_mapIdx, h]; simp
  · rw [List.getElem?_set_ne (fun e => hj e.symm)]
    unfold upTo; rw [List.getElem?_mapIdx, List.getElem?_mapIdx]
    cases ss[j]? with
    | none => rfl
    | some y =>
      simp only [Option.map_some]
      by_cases h1 : j < i
      · rw [if_pos h1, if_pos (by omega)]
      · rw [if_neg h1, if_neg (by omega)]
theorem upTo_same {f : Sg → Sg} {ss : List Sg} {i : Nat} {x : Sg} (h : ss[i]? = some x) (hf : f x = x) : upTo f ss (i + 1) = upTo f ss i := by
  have hi := (List.getElem?_eq_some_iff.1 h).1
  rw [← upTo_succ h, hf]
  apply List.ext_getElem?; intro j
  by_cases hj : j = i
  · subst hj; rw [List.getElem?_set_self (by rw [upTo_len]; exact hi), upTo_at h]
  · rw [List.getElem?_set_ne (fun e => hj e.symm)]
/-- How many bytes of a segment are live. -/
def liveOf : List Pl → Int → Int
  | [], _ => 0
  | p :: ps, s => (if p.seg = s then p.len else 0) + liveOf ps s
theorem liveOf_snoc (ps : List Pl) (p : Pl) (s : Int) : liveOf (ps ++ [p]) s = liveOf ps s + (if p.seg = s then p.len else 0) := by
  induction ps with
  | nil => simp [liveOf]
  | cons q ps ih => simp only [List.cons_append, liveOf, ih]; omega
theorem liveOf_bound (n : Int) : ∀ (ps : List Pl) (s : Int), (∀ p ∈ ps, 0 ≤ p.len ∧ p.len ≤ n) → 0 ≤ liveOf ps s ∧ liveOf ps s ≤ ps.length * n
  | [], _, _ => by simp [liveOf]
  | p :: ps, s, h => by
    have h1 := h p (by simp)
    have h2 := liveOf_bound n ps s (fun q hq => h q (List.mem_cons_of_mem _ hq))
    simp only [liveOf, List.length_cons]
    have e : ((ps.length + 1 : Nat) : Int) * n = ps.length * n + n := by rw [Int.natCast_add, Int.add_mul]; simp
    rw [e]
    split <;> omega
def lived (ss : List Sg) (ps : List Pl) : List Sg := ss.mapIdx fun i x => ⟨x.kind, x.used, liveOf ps i⟩
theorem lived_len (ss : List Sg) (ps : List Pl) : (lived ss ps).length = ss.length := by simp [lived]
theorem lived_nil (ss : List Sg) : lived ss [] = ss.map zl := by
  apply List.ext_getElem?; intro i; unfold lived; rw [List.getElem?_mapIdx, List.getElem?_map]; rfl
theorem lived_at {ss : List Sg} {i : Nat} {x : Sg} (ps : List Pl) (h : ss[i]? = some x) : (lived ss ps)[i]? = some ⟨x.kind, x.used, liveOf ps i⟩ := by
  unfold lived; rw [List.getElem?_mapIdx, h]; rfl
theorem lived_snoc {ss : List Sg} {x : Sg} (ps : List Pl) {p : Pl} (h0 : 0 ≤ p.seg) (h : ss[p.seg.toNat]? = some x) : (lived ss ps).set p.seg.toNat ⟨x.kind, x.used, liveOf ps p.seg.toNat + p.len⟩ = lived ss (ps ++ [p]) := by
  have hi := (List.getElem?_eq_some_iff.1 h).1
  apply List.ext_getElem?; intro j
  by_cases hj : j = p.seg.toNat
  · subst hj
    rw [List.getElem?_set_self (by rw [lived_len]; exact hi), lived_at _ h, liveOf_snoc, if_pos (by omega)]
  · rw [List.getElem?_set_ne (fun e => hj e.symm)]
    unfold lived; rw [List.getElem?_mapIdx, List.getElem?_mapIdx]
    cases ss[j]? with
    | none => rfl
    | some y => simp only [Option.map_some]; rw [liveOf_snoc, if_neg (by omega), Int.add_zero]
theorem ord_f47_r8_S14j : orderOfB Try.f47 8 [14] (.a 0 (.a 1 (.a 2 (.a 4 (.a 9 (.v 3 (.v 5 (.a 6 (.a 7 (.v 8 (.k 10 (.k 11 (.k 12 (.k 13 (.k 14 .done))))))))))))))) = true := by kernel_rfl
set_option maxHeartbeats 2000000 in
theorem account_calls {E : Env} {w : World} {L : List As} {l m b c : Nat} {o : Int} {ss : List Sg} {A : As} {v : Value} {xs : List Pl} (hb : ss.length ≤ 4096) (hS : SrcA A v xs) (hwi : ∀ p ∈ xs, 0 ≤ p.seg ∧ p.seg < ss.length ∧ 1 ≤ p.len ∧ p.len ≤ 1048576)
    (hw : Sat E w (pt l (.cells [Value.pointer (some ⟨m, 0, none⟩), .int .i64 o, .slice (some ⟨b, 0, none⟩) (ss : List Sg).length c].toArray 47 (0, 0)) :: OwnSl 104 3 (.slice (some ⟨b, 0, none⟩) (ss).length c) (ss).length ((ss).flatMap Sg.cells) :: A :: L)) :
    Calls Try.prog 47 #[.pointer (some ⟨l, 0, none⟩), v] w fun e w' => e = .returned (.tuple #[]) ∧ Sat E w' (pt l (.cells [Value.pointer (some ⟨m, 0, none⟩), .int .i64 o, .slice (some ⟨b, 0, none⟩) ((lived ss xs) : List Sg).length c].toArray 47 (0, 0)) :: OwnSl 104 3 (.slice (some ⟨b, 0, none⟩) ((lived ss xs)).length c) ((lived ss xs)).length (((lived ss xs)).flatMap Sg.cells) :: A :: L) := by
  obtain ⟨a, c', rfl, hn, hat⟩ := id hS
  refine calls_of_g (n := 44) Try.func47 rfl rfl rfl ?_
  change G _ _ _ _ _ [(0, _), (1, _)] _
  refine g_seq (g_seq ?_)
  refine g_region ?_
  refine xV rfl rfl rfl (v_move rfl) ?_
  refine xV rfl rfl rfl (v_nilCheck rfl) ?_
  refine xV rfl rfl rfl (v_fieldAddr0 T.fld_47_2_2 rfl) ?_
  refine rl_v rfl rfl rfl (by exact sat_cell hw (by (repeat first | with_reducible exact xH | apply xT); first | done | fail) rfl) (v_load T.scal_45 rfl) ?_
  refine xV rfl rfl rfl (v_lenSlice T.sl_45_104_3 rfl) ?_
  refine xV rfl rfl rfl (v_move rfl) ?_
  refine rl_nil (g_le (xK (xK (xS rfl (xS rfl (xS rfl (xS rfl (Fr.le_refl _))))))) ?_)
  refine g_block ?_
  refine g_loopC (σ := Nat) (fun C x => (12, .int .i64 (x : Nat)) :: C) [(0, _), (1, _), (11, _)] (by repeat (first | exact Fr.le_nil _ | refine Fr.le_cons rfl ?_)) (fun z w => z ≤ ss.length ∧ Sat E w (OwnSl 104 3 (.slice (some ⟨b, 0, none⟩) ss.length c) ss.length ((upTo zl ss z).flatMap Sg.cells) :: pt l (.cells [Value.pointer (some ⟨m, 0, none⟩), .int .i64 o, .slice (some ⟨b, 0, none⟩) ss.length c].toArray 47 (0, 0)) :: A :: L)) (fun z => ss.length - z) ?_ 0 (by repeat (first | exact Fr.le_nil _ | refine Fr.le_cons rfl ?_)) ⟨by simp, by rw [upTo_zero]; exact hw.xQ⟩
  rintro i w ⟨hi, hw⟩ ih
  refine g_seq ?_
  refine g_region ?_
  refine xV rfl rfl rfl (v_lss rfl rfl) ?_
  refine rl_nil (g_le (xK (Fr.le_refl _)) ?_)
  refine g_seq ?_
  refine g_cond rfl (fun h1 => ?_) (fun h1 => ?_)
  · try with_reducible exact ft_elim h1
    all_goals
      try replace h1 := of_decide_eq_true h1
      refine g_skip (g_seq (g_block (g_seq ?_)))
      refine g_region ?_
      refine xV rfl rfl rfl (v_move rfl) ?_
      refine xV rfl rfl rfl (v_assign rfl) ?_
      refine rl_nil (g_le (xK (xK (Fr.le_refl _))) ?_)
      have hlt : i < ss.length := by omega
      have hx : ss[i]? = some ss[i] := List.getElem?_eq_getElem hlt
      generalize ss[i] = x at hx
      have hst : 0 + (i : Int).toNat * 3 + 2 < ((upTo zl ss i).flatMap Sg.cells).length := by rw [sg_len, upTo_len]; omega
      refine g_region ?_
      refine xV rfl rfl rfl (v_move rfl) ?_
      refine xV rfl rfl rfl (v_nilCheck rfl) ?_
      refine xV rfl rfl rfl (v_fieldAddr0 T.fld_47_2_2 rfl) ?_
      refine rl_v rfl rfl rfl (by exact sat_cell hw (by (repeat first | with_reducible exact xH | apply xT); first | done | fail) rfl) (v_load T.scal_45 rfl) ?_
      refine xV rfl rfl rfl (v_move rfl) ?_
      refine xV rfl rfl rfl (v_indexAddr T.sl_45_104_3 rfl rfl (by omega) (by omega)) ?_
      refine xV rfl rfl rfl (v_fieldAddr T.fld_104_2_2 rfl) ?_
      refine rl_k rfl (k_storeOwn hw T.scal_3 rfl rfl rfl (by (repeat first | with_reducible exact xH | apply xT); first | done | fail) (by assumption) (fun w hw => ?_))
      refine rl_nil (g_le (xK (xK (xK (xK (xK (xK (xK (Fr.le_refl _)))))))) ?_)
      refine g_inBlock ?_
      refine g_region ?_
      refine xV rfl rfl rfl (v_add rfl rfl (by omega)) ?_
      refine xV rfl rfl rfl (v_move rfl) ?_
      refine rl_nil (g_le (xK (xK (Fr.le_refl _))) ?_)
      rw [show 0 + (i : Int).toNat * 3 + 2 = i * 3 + 2 by omega, sg_set (y := zl x) (upTo_at hx) (by omega) rfl, upTo_succ hx] at hw
      exact g_le (by repeat (first | exact Fr.le_nil _ | refine Fr.le_cons rfl ?_)) (ih (i + 1) w ⟨by omega, hw.xQ⟩ (by omega))
  · try with_reducible exact tf_elim h1
    all_goals
      try replace h1 := of_decide_eq_false h1
      refine g_exit rfl (g_seq ?_)
      obtain rfl : i = ss.length := by omega
      rw [upTo_all, ← lived_nil] at hw
      refine g_region ?_
      refine xV rfl rfl rfl (v_move rfl) ?_
      refine xV rfl rfl rfl (v_lenSlice T.sl_70_58_3 rfl) ?_
      refine xV rfl rfl rfl (v_move rfl) ?_
      refine rl_nil (g_le (xK (xK (xK (Fr.le_refl _)))) ?_)
      refine g_block ?_
      refine g_loopC (σ := Nat) (fun C x => (25, .int .i64 (x : Nat)) :: C) [(0, _), (23, _), (24, _)] (by repeat (first | exact Fr.le_nil _ | refine Fr.le_cons rfl ?_)) (fun z w => z ≤ xs.length ∧ Sat E w (OwnSl 104 3 (.slice (some ⟨b, 0, none⟩) ss.length c) ss.length ((lived ss (xs.take z)).flatMap Sg.cells) :: pt l (.cells [Value.pointer (some ⟨m, 0, none⟩), .int .i64 o, .slice (some ⟨b, 0, none⟩) ss.length c].toArray 47 (0, 0)) :: A :: L)) (fun z => xs.length - z) ?_ 0 (by repeat (first | exact Fr.le_nil _ | refine Fr.le_cons rfl ?_)) ⟨by simp, by rw [List.take_zero]; exact hw.xQ⟩
      rintro i w ⟨hi, hw⟩ ih
      refine g_seq ?_
      refine g_region ?_
      refine xV rfl rfl rfl (v_lss rfl rfl) ?_
      refine rl_nil (g_le (xK (Fr.le_refl _)) ?_)
      refine g_seq ?_
      refine g_cond rfl (fun h2 => ?_) (fun h2 => ?_)
      · try with_reducible exact ft_elim h2
        all_goals
          try replace h2 := of_decide_eq_true h2
          refine g_skip (g_seq (g_block (g_seq ?_)))
          have hlt : i < xs.length := by omega
          have hx : xs[i]? = some xs[i] := List.getElem?_eq_getElem hlt
          generalize xs[i] = x at hx
          obtain ⟨b', o', hab, hcx⟩ := hat i x hx
          subst hab
          rw [show i * 3 = (i : Int).toNat * 3 by omega] at hcx
          obtain ⟨hx1, hx2, hx3, hx4⟩ := hwi x (List.mem_of_getElem? hx)
          obtain ⟨y, hy⟩ : ∃ y, ss[x.seg.toNat]? = some y := ⟨_, List.getElem?_eq_getElem (by omega)⟩
          have hlb := liveOf_bound 1048576 (xs.take i) x.seg.toNat (fun p hp => by have := hwi p (List.mem_of_mem_take hp); omega)
          have htl : (xs.take i).length ≤ xs.length := by rw [List.length_take]; omega
          have hsub := subAt_flat (f := Sg.cells) (sz := 3) (fun _ => rfl) (lived_at (xs.take i) hy)
          dsimp only [Sg.cells] at hsub
          have hst : 0 + x.seg.toNat * 3 + 2 < ((lived ss (xs.take i)).flatMap Sg.cells).length := by rw [sg_len, lived_len]; omega
          refine g_region ?_
          refine xV rfl rfl rfl (v_indexAddr T.sl_70_58_3 rfl rfl (by omega) (by omega)) ?_
          refine rl_v rfl rfl rfl (by exact hcx _ _ _ (hw.xP)) (v_loadAgg (vs := [_, _, _]) T.agg_58_3 rfl rfl) ?_
          refine rl_k rfl (k_alloc hw T.zero_58 rfl rfl (fun bk7_2 w hw => ?_))
          refine rl_k rfl (k_storeWhole hw T.agg_58_3 rfl rfl (by simp [Value.oneCell']) rfl (by (repeat first | with_reducible exact xH | apply xT); first | done | fail) rfl (fun w hw => ?_))
          refine rl_nil (g_le (xK (xK (xK (Fr.le_refl _)))) ?_)
          refine g_drawR ord_f47_r8_S14j (by kernel_rfl) T.mixed hw (fun w hw => ?_)
          refine rs_a 0 rfl rfl rfl rfl (v_move rfl) ?_
          refine rs_a 1 rfl rfl rfl rfl (v_nilCheck rfl) ?_
          refine rs_a 2 rfl rfl rfl rfl (v_fieldAddr0 T.fld_47_2_2 rfl) ?_
          refine rs_a 4 rfl rfl rfl rfl (v_fieldAddr0 T.fld_58_0_0 rfl) ?_
          refine rs_a 9 rfl rfl rfl rfl (v_fieldAddr0 T.fld_58_2_2 rfl) ?_
          refine rs_v 3 rfl rfl rfl rfl (OpV.mono (v_load T.scal_45 rfl) (fun w hw => by exact sat_cell hw (by (repeat first | with_reducible exact xH | apply xT); first | done | fail) rfl)) (by exact hw) ?_
          refine rs_v 5 rfl rfl rfl rfl (OpV.mono (v_load T.scal_3 rfl) (fun w hw => by exact sat_cell hw (by (repeat first | with_reducible exact xH | apply xT); first | done | fail) rfl)) (by exact hw) ?_
          refine rs_a 6 rfl rfl rfl rfl (v_indexAddr T.sl_45_104_3 rfl rfl (by omega) (by omega)) ?_
          refine rs_a 7 rfl rfl rfl rfl (v_fieldAddr T.fld_104_2_2 rfl) ?_
          refine rs_v 8 rfl rfl rfl rfl (OpV.mono (v_load T.scal_3 rfl) (fun w hw => by exact own_at hw (by (repeat first | with_reducible exact xH | apply xT); first | done | fail) (by assumption) rfl)) (by exact hw) ?_
          refine rs_kv 10 rfl rfl rfl rfl (by exact sat_cell hw (by (repeat first | with_reducible exact xH | apply xT); first | done | fail) rfl) (v_load T.scal_3 rfl) ?_
          refine rs_kv 11 rfl rfl rfl rfl (S' := fun _ => True) trivial (v_add rfl rfl (by omega)) ?_
          refine rs_kv 12 rfl rfl rfl rfl (S' := fun _ => True) trivial (v_indexAddr T.sl_45_104_3 rfl rfl (by omega) (by omega)) ?_
          refine rs_kv 13 rfl rfl rfl rfl (S' := fun _ => True) trivial (v_fieldAddr T.fld_104_2_2 rfl) ?_
          refine rs_k 14 rfl rfl (k_storeOwn hw T.scal_3 rfl rfl rfl (by (repeat first | with_reducible exact xH | apply xT); first | done | fail) (by assumption) (fun w hw => ?_))
          refine ⟨fun hn => absurd (by decide) hn, ?_⟩
          refine rs_done (g_le (xK (xK (xK (xK (xK (xK (xK (xK (xK (xK (xK (xK (xK (xK (Fr.le_refl _))))))))))))))) ?_)
          refine g_inBlock ?_
          refine g_region ?_
          refine xV rfl rfl rfl (v_add rfl rfl (by omega)) ?_
          refine xV rfl rfl rfl (v_move rfl) ?_
          refine rl_nil (g_le (xK (xK (Fr.le_refl _))) ?_)
          rw [show 0 + x.seg.toNat * 3 + 2 = x.seg.toNat * 3 + 2 by omega, sg_set (y := ⟨y.kind, y.used, liveOf (xs.take i) x.seg.toNat + x.len⟩) (lived_at _ hy) (by omega) rfl, lived_snoc _ hx1 hy] at hw
          refine g_le (by repeat (first | exact Fr.le_nil _ | refine Fr.le_cons rfl ?_)) (ih (i + 1) w ⟨by omega, ?_⟩ (by omega))
          rw [List.take_add_one, hx, Option.toList_some]
          exact hw.xQ
      · try with_reducible exact tf_elim h2
        all_goals
          try replace h2 := of_decide_eq_false h2
          refine g_exit rfl ?_
          refine g_end0 Try.func47 rfl ?_
          obtain rfl : i = xs.length := by omega
          rw [List.take_length] at hw
          refine ⟨rfl, ?_⟩
          rw [lived_len]
          exact hw.xQ
end Go.Proofs.Ytipdklbedpkobaa
