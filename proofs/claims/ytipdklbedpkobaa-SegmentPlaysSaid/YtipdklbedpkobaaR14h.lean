/-
  The laws' helpers of layer 14 that go over a log and the document's.
-/
import Derived.Test.YtipdklbedpkobaaR14g
namespace Go.Proofs.Ytipdklbedpkobaa
set_option maxRecDepth 8000
set_option linter.unusedSimpArgs false
set_option linter.unusedVariables false
open Go Xe Go.Lib
theorem ord_f32_r1_R14h : orderOfB Try.f32 1 [] (.k 0 (.k 1 (.k 2 (.v 3 (.k 4 (.k 5 (.k 6 (.k 7 (.k 8 (.k 9 (.k 10 .done))))))))))) = true := by kernel_rfl
theorem begin_out {E : Env} {w : World} {L : List As} {l m b c : Nat} {o op us : Int} {ss : List Sg} (v : Value) (hb : ss.length ≤ 4096) (h : ¬ (0 ≤ op ∧ op < ss.length)) (hw : Sat E w (pt l (.cells [Value.pointer (some ⟨m, 0, none⟩), .int .i64 o, .slice (some ⟨b, 0, none⟩) (ss : List Sg).length c].toArray 47 (0, 0)) :: OwnSl 104 3 (.slice (some ⟨b, 0, none⟩) (ss).length c) (ss).length ((ss).flatMap Sg.cells) :: L)) :
    Calls Try.prog 32 #[.pointer (some ⟨l, 0, none⟩), .int .i64 op, .int .i64 us, v] w fun e w' => e = .returned (.int .i64 120) ∧ Sat E w' (pt l (.cells [Value.pointer (some ⟨m, 0, none⟩), .int .i64 o, .slice (some ⟨b, 0, none⟩) (ss : List Sg).length c].toArray 47 (0, 0)) :: OwnSl 104 3 (.slice (some ⟨b, 0, none⟩) (ss).length c) (ss).length ((ss).flatMap Sg.cells) :: L) := by
  refine calls_of_g (n := 89) Try.func32 rfl rfl rfl ?_
  change G _ _ _ _ _ [(0, _), (1, _), (2, _), (3, _)] _
  refine g_seq ?_
  refine g_region ?_
  refine rl_k rfl (k_box hw rfl rfl rfl (fun bk0_0 w hw => ?_))
  refine rl_k rfl (k_box hw rfl rfl rfl (fun bk0_1 w hw => ?_))
  refine rl_k rfl (k_box hw rfl rfl rfl (fun bk0_2 w hw => ?_))
  refine xV rfl rfl rfl (v_assign rfl) ?_
  refine rl_nil (g_le (xK (xK (xK (xK (Fr.le_refl _))))) ?_)
  refine g_seq (g_seq ?_)
  refine g_drawR ord_f32_r1_R14h (by kernel_rfl) T.mixed hw (fun w hw => ?_)
  refine rs_kv 0 rfl rfl rfl rfl (by exact sat_cell hw (by (repeat first | with_reducible exact xH | apply xT); first | done | fail) rfl) (v_load T.scal_3 rfl) ?_
  refine rs_kv 1 rfl rfl rfl rfl (S' := fun _ => True) trivial (v_lss rfl rfl) ?_
  refine rs_kv 2 rfl rfl rfl rfl (S' := fun _ => True) trivial (v_move rfl) ?_
  refine rs_split (s := 14) rfl (fun g1_2 => ?_) (fun g1_2 => ?_)
  · try with_reducible exact ft_elim g1_2
    all_goals
      try replace g1_2 := of_decide_eq_true g1_2
      refine rs_voff 3 rfl (met_off rfl rfl rfl rfl rfl) rfl rfl (by exact hw) ?_
      refine rs_koff 4 rfl (met_off rfl rfl rfl rfl rfl) rfl rfl ?_
      refine rs_koff 5 rfl (met_off rfl rfl rfl rfl rfl) rfl rfl ?_
      refine rs_koff 6 rfl (met_off rfl rfl rfl rfl rfl) rfl rfl ?_
      refine rs_koff 7 rfl (met_off rfl rfl rfl rfl rfl) rfl rfl ?_
      refine rs_koff 8 rfl (met_off rfl rfl rfl rfl rfl) rfl rfl ?_
      refine rs_koff 9 rfl (met_off rfl rfl rfl rfl rfl) rfl rfl ?_
      refine rs_kv 10 rfl rfl rfl rfl (S' := fun _ => True) trivial (v_pick_true rfl rfl) ?_
      refine rs_done (g_le (xK (xS rfl (xS rfl (xS rfl (xS rfl (xS rfl (xS rfl (xS rfl (xS rfl (xS rfl (xS rfl (xS rfl (Fr.le_refl _))))))))))))) ?_)
      refine g_cond_true rfl ?_
      refine g_seq ?_
      refine g_region ?_
      refine xV rfl rfl rfl (v_assign rfl) ?_
      refine rl_nil (g_le (xK (Fr.le_refl _)) ?_)
      refine g_ret1 Try.func32 rfl rfl ?_
      exact ⟨rfl, hw.xQ⟩
  · try with_reducible exact tf_elim g1_2
    all_goals
      try replace g1_2 := of_decide_eq_false g1_2
      refine rs_vg 3 rfl (met_on rfl rfl rfl rfl) rfl rfl (OpV.mono (v_load T.scal_3 rfl) (fun w hw => by exact sat_cell hw (by (repeat first | with_reducible exact xH | apply xT); first | done | fail) rfl)) (by exact hw) ?_
      refine rs_kvg 4 rfl (met_on rfl rfl rfl rfl) rfl rfl (by exact sat_cell hw (by (repeat first | with_reducible exact xH | apply xT); first | done | fail) rfl) (v_load T.scal_36 rfl) ?_
      refine rs_kvg 5 rfl (met_on rfl rfl rfl rfl) rfl rfl (S' := fun _ => True) trivial (v_nilCheck rfl) ?_
      refine rs_kvg 6 rfl (met_on rfl rfl rfl rfl) rfl rfl (S' := fun _ => True) trivial (v_fieldAddr0 T.fld_47_2_2 rfl) ?_
      refine rs_kvg 7 rfl (met_on rfl rfl rfl rfl) rfl rfl (by exact sat_cell hw (by (repeat first | with_reducible exact xH | apply xT); first | done | fail) rfl) (v_load T.scal_45 rfl) ?_
      refine rs_kvg 8 rfl (met_on rfl rfl rfl rfl) rfl rfl (S' := fun _ => True) trivial (v_lenSlice T.sl_45_104_3 rfl) ?_
      refine rs_kvg 9 rfl (met_on rfl rfl rfl rfl) rfl rfl (S' := fun _ => True) trivial (v_geqT rfl rfl (by omega)) ?_
      refine rs_kv 10 rfl rfl rfl rfl (S' := fun _ => True) trivial (v_pick_false rfl rfl) ?_
      refine rs_done (g_le (xK (xS rfl (xS rfl (xS rfl (xS rfl (xS rfl (xS rfl (xS rfl (xS rfl (xS rfl (xS rfl (xS rfl (Fr.le_refl _))))))))))))) ?_)
      refine g_cond_true rfl ?_
      refine g_seq ?_
      refine g_region ?_
      refine xV rfl rfl rfl (v_assign rfl) ?_
      refine rl_nil (g_le (xK (Fr.le_refl _)) ?_)
      refine g_ret1 Try.func32 rfl rfl ?_
      exact ⟨rfl, hw.xQ⟩
theorem rbegin_out {E : Env} {w : World} {L : List As} {q rm p k1 k2 k3 c1 c2 c3 : Nat} {op us : Int} {rs : List Sg} {md : Md} (v : Value) (h : ¬ md.is op) (hw : Sat E w (pt q (.cells [Value.pointer (some ⟨rm, 0, none⟩), .slice (some ⟨k1, 0, none⟩) (rs : List Sg).length c1, .slice (some ⟨k2, 0, none⟩) (rs : List Sg).length c2, .slice (some ⟨k3, 0, none⟩) (rs : List Sg).length c3].toArray 120 (0, 0)) :: OwnSl 3 1 (.slice (some ⟨k1, 0, none⟩) (rs).length c1) (rs).length ((rs).map fun x => Value.int .i64 x.kind) :: OwnSl 3 1 (.slice (some ⟨k2, 0, none⟩) (rs).length c2) (rs).length ((rs).map fun x => Value.int .i64 x.used) :: OwnSl 3 1 (.slice (some ⟨k3, 0, none⟩) (rs).length c3) (rs).length ((rs).map fun x => Value.int .i64 x.live) :: RmAt rm p md :: L)) :
    Calls Try.prog 54 #[.pointer (some ⟨q, 0, none⟩), .int .i64 op, .int .i64 us, v] w fun e w' => e = .returned (.int .i64 120) ∧ Sat E w' (pt q (.cells [Value.pointer (some ⟨rm, 0, none⟩), .slice (some ⟨k1, 0, none⟩) (rs : List Sg).length c1, .slice (some ⟨k2, 0, none⟩) (rs : List Sg).length c2, .slice (some ⟨k3, 0, none⟩) (rs : List Sg).length c3].toArray 120 (0, 0)) :: OwnSl 3 1 (.slice (some ⟨k1, 0, none⟩) (rs).length c1) (rs).length ((rs).map fun x => Value.int .i64 x.kind) :: OwnSl 3 1 (.slice (some ⟨k2, 0, none⟩) (rs).length c2) (rs).length ((rs).map fun x => Value.int .i64 x.used) :: OwnSl 3 1 (.slice (some ⟨k3, 0, none⟩) (rs).length c3) (rs).length ((rs).map fun x => Value.int .i64 x.live) :: RmAt rm p md :: L) := by
  refine calls_of_g (n := 133) Try.func54 rfl rfl rfl ?_
  change G _ _ _ _ _ [(0, _), (1, _), (2, _), (3, _)] _
  refine g_seq ?_
  refine g_region ?_
  refine xV rfl rfl rfl (v_assign rfl) ?_
  refine rl_nil (g_le (xK (Fr.le_refl _)) ?_)
  refine g_seq (g_seq ?_)
  refine g_region ?_
  refine xV rfl rfl rfl (v_move rfl) ?_
  refine xV rfl rfl rfl (v_nilCheck rfl) ?_
  refine xV rfl rfl rfl (v_fieldAddr0 T.fld_120_0_0 rfl) ?_
  refine rl_v rfl rfl rfl (by exact sat_cell hw (by (repeat first | with_reducible exact xH | apply xT); first | done | fail) rfl) (v_load T.scal_81 rfl) ?_
  refine xV rfl rfl rfl (v_move rfl) ?_
  refine rl_k rfl (k_callf Try.func73 rfl rfl rfl rfl ?_)
  refine Calls.mono (ris_calls op (hw.xP (A := RmAt rm p md))) ?_
  rw [decide_eq_false h]
  rintro _ w ⟨rfl, hw⟩
  refine ⟨_, rfl, ?_⟩
  refine xV rfl rfl rfl (v_not rfl) ?_
  refine rl_nil (g_le (xK (xS rfl (xS rfl (xS rfl (xS rfl (xS rfl (xS rfl (Fr.le_refl _)))))))) ?_)
  refine g_cond_true rfl ?_
  refine g_seq ?_
  refine g_region ?_
  refine xV rfl rfl rfl (v_assign rfl) ?_
  refine rl_nil (g_le (xK (Fr.le_refl _)) ?_)
  refine g_ret1 Try.func54 rfl rfl ?_
  exact ⟨rfl, hw.xQ⟩
theorem els_pl {g : Hp} {cells : List Value} {xs : List Pl} (h : Els rdPl 3 g cells xs) : cells = xs.flatMap Pl.cells := by
  apply List.ext_getElem?
  intro t
  by_cases ht : t < xs.length * 3
  · rw [flatMap_get (enc := Pl.cells) (k := 3) (fun _ => rfl) xs t ht]
    have hi : t / 3 < xs.length := by omega
    obtain ⟨h1, h2⟩ := h.at (i := t / 3) (List.getElem?_eq_getElem hi)
    have h3 : (cells.drop (t / 3 * 3)).take 3 = (xs[t / 3]).cells := h1.1
    rw [getElem!_pos xs (t / 3) hi, ← h3, List.getElem?_take, if_pos (by omega), List.getElem?_drop, show t / 3 * 3 + t % 3 = t by omega]
  · have hl := h.len
    have hcl : (xs.flatMap Pl.cells).length = xs.length * 3 := by
      clear h ht hl
      induction xs with
      | nil => rfl
      | cons y ys ih => simp only [List.flatMap_cons, List.length_append, ih, List.length_cons, List.length_nil]; omega
    rw [List.getElem?_eq_none (by omega), List.getElem?_eq_none (by omega)]
theorem srcA_ro {g : Hp} {a : Option Addr} {n c : Nat} {xs : List Pl} (h : rdSl 24 3 rdPl g [.slice a n c] xs) : SrcA (RO g) (.slice a n c) xs := by
  obtain ⟨rfl, hb, _, _, gx⟩ := rdSl_get h
  refine ⟨a, c, rfl, by simp only [reachBytes] at hb; omega, fun i x hx => ?_⟩
  have hi := (List.getElem?_eq_some_iff.1 hx).1
  obtain ⟨b, o, x', ecs, rfl, hx', hat, _, hrd⟩ := gx (i : Nat) (by omega) (by omega)
  rw [Int.toNat_natCast] at hx' hat
  rw [hx] at hx'
  obtain rfl := Option.some.inj hx'
  refine ⟨b, o, rfl, fun E w L hw => ?_⟩
  have h1 : ecs = x.cells := hrd.1
  rw [← h1]
  exact ro_ats hw (.here _) hat
theorem md_ptr {E : Env} {w : World} {L : List As} {m p : Nat} {md : Md} (h : Sat E w (MdAt m p md :: L)) : w.cell? ⟨m, 0, none⟩ = some (.pointer (some ⟨p, 0, none⟩)) := by
  obtain ⟨_, g, cap, pa, pc, vs, _, _, _, h⟩ := md_open h
  exact sat_cell h (.here _) rfl
theorem rm_ptr {E : Env} {w : World} {L : List As} {m p : Nat} {md : Md} (h : Sat E w (RmAt m p md :: L)) : w.cell? ⟨m, 0, none⟩ = some (.pointer (some ⟨p, 0, none⟩)) := by
  obtain ⟨a, c, pa, pc, _, h⟩ := rm_open h
  exact sat_cell h (.here _) rfl
theorem ord_f37_r4_R14h : orderOfB Try.f37 4 [] (.a 0 (.k 1 (.k 2 (.k 3 (.k 4 (.a 5 (.k 6 (.k 7 (.k 8 (.k 9 (.k 10 (.a 11 (.k 12 (.k 13 (.k 14 (.k 15 (.k 16 (.a 17 (.a 18 (.a 19 (.a 20 (.a 22 (.v 21 (.k 23 (.k 24 (.k 25 (.k 26 (.k 27 (.k 28 .done))))))))))))))))))))))))))))) = true := by kernel_rfl
theorem ord_f37_r16_R14h : orderOfB Try.f37 16 [] (.a 0 (.a 1 (.a 3 (.a 4 (.a 5 (.a 7 (.v 6 (.a 8 (.v 9 (.k 2 (.k 10 (.k 11 (.a 12 (.a 13 (.a 15 (.a 16 (.a 17 (.a 19 (.v 18 (.a 20 (.v 21 (.k 14 (.k 22 (.k 23 (.k 24 (.a 25 (.a 26 (.a 27 (.a 29 (.a 31 (.a 32 (.a 33 (.a 35 (.v 28 (.v 34 (.k 30 (.k 36 (.k 37 (.k 38 .done))))))))))))))))))))))))))))))))))))))) = true := by kernel_rfl
theorem ord_f37_r18_R14h : orderOfB Try.f37 18 [] (.k 0 (.k 1 (.a 2 (.a 4 (.k 3 (.k 5 (.k 6 (.k 7 (.k 8 (.a 9 (.a 11 (.k 10 (.k 12 (.k 13 (.k 14 (.k 15 (.a 16 (.a 17 (.a 18 (.a 24 (.a 25 (.a 26 (.v 19 (.a 20 (.a 21 (.v 22 (.v 27 (.a 28 (.a 29 (.v 30 (.a 31 (.a 32 (.v 33 (.k 23 (.k 34 (.k 35 (.k 36 (.a 37 (.a 38 (.a 39 (.a 42 (.a 43 (.a 44 (.v 40 (.v 45 (.a 46 (.a 47 (.v 48 (.a 49 (.k 41 (.k 50 (.k 51 (.k 52 .done))))))))))))))))))))))))))))))))))))))))))))))))))))) = true := by kernel_rfl
set_option maxHeartbeats 4000000 in
theorem tells_calls {E : Env} {w : World} {L : List As} {l m p b c q rm p2 k1 k2 k3 c1 c2 c3 : Nat} {o : Int} {ss rs : List Sg} {md : Md} {pw : Pw} (K : Lk o ss rs md pw)
    (hw : Sat E w (pt l (.cells [Value.pointer (some ⟨m, 0, none⟩), .int .i64 o, .slice (some ⟨b, 0, none⟩) (ss : List Sg).length c].toArray 47 (0, 0)) :: OwnSl 104 3 (.slice (some ⟨b, 0, none⟩) (ss).length c) (ss).length ((ss).flatMap Sg.cells) :: MdAt m p md :: PwAt p pw :: pt q (.cells [Value.pointer (some ⟨rm, 0, none⟩), .slice (some ⟨k1, 0, none⟩) (rs : List Sg).length c1, .slice (some ⟨k2, 0, none⟩) (rs : List Sg).length c2, .slice (some ⟨k3, 0, none⟩) (rs : List Sg).length c3].toArray 120 (0, 0)) :: OwnSl 3 1 (.slice (some ⟨k1, 0, none⟩) (rs).length c1) (rs).length ((rs).map fun x => Value.int .i64 x.kind) :: OwnSl 3 1 (.slice (some ⟨k2, 0, none⟩) (rs).length c2) (rs).length ((rs).map fun x => Value.int .i64 x.used) :: OwnSl 3 1 (.slice (some ⟨k3, 0, none⟩) (rs).length c3) (rs).length ((rs).map fun x => Value.int .i64 x.live) :: RmAt rm p2 md :: RwAt p2 pw.ref :: L)) :
    Calls Try.prog 37 #[.pointer (some ⟨l, 0, none⟩), .pointer (some ⟨q, 0, none⟩)] w fun e w' => e = .returned (.bool true) ∧ Sat E w' (pt l (.cells [Value.pointer (some ⟨m, 0, none⟩), .int .i64 o, .slice (some ⟨b, 0, none⟩) (ss : List Sg).length c].toArray 47 (0, 0)) :: OwnSl 104 3 (.slice (some ⟨b, 0, none⟩) (ss).length c) (ss).length ((ss).flatMap Sg.cells) :: MdAt m p md :: PwAt p pw :: pt q (.cells [Value.pointer (some ⟨rm, 0, none⟩), .slice (some ⟨k1, 0, none⟩) (rs : List Sg).length c1, .slice (some ⟨k2, 0, none⟩) (rs : List Sg).length c2, .slice (some ⟨k3, 0, none⟩) (rs : List Sg).length c3].toArray 120 (0, 0)) :: OwnSl 3 1 (.slice (some ⟨k1, 0, none⟩) (rs).length c1) (rs).length ((rs).map fun x => Value.int .i64 x.kind) :: OwnSl 3 1 (.slice (some ⟨k2, 0, none⟩) (rs).length c2) (rs).length ((rs).map fun x => Value.int .i64 x.used) :: OwnSl 3 1 (.slice (some ⟨k3, 0, none⟩) (rs).length c3) (rs).length ((rs).map fun x => Value.int .i64 x.live) :: RmAt rm p2 md :: RwAt p2 pw.ref :: L) := by
  have hb : ss.length ≤ 4096 := by have h1 := K.len; have h2 := K.mo.2.1; omega
  have hrl := K.rlen
  have hrb : rs.length ≤ 4096 := by omega
  have hml : md.segs.length = rs.length := by have := K.len; omega
  have hug := uget (rs := rs) K.o0 (sgAt_some K.o0 (by have := K.o1; omega))
  have hueq : (sgAt rs o).used = (sgAt ss o).used := (K.at K.o0 K.o1).2.2 (by rw [K.ob]; omega)
  have ho0 := K.o0
  have ho1 := K.o1
  have hpe : pw.ref = ⟨!pw.off, pw.ahead, pw.writes⟩ := rfl
  refine calls_of_g (n := 172) Try.func37 rfl rfl rfl ?_
  change G _ _ _ _ _ [(0, _), (1, _)] _
  refine g_seq ?_
  refine g_region ?_
  refine xV rfl rfl rfl (v_assign rfl) ?_
  refine rl_nil (g_le (xK (Fr.le_refl _)) ?_)
  refine g_seq ?_
  refine g_region ?_
  refine xV rfl rfl rfl (v_move rfl) ?_
  refine rl_k rfl (k_callf Try.func24 rfl rfl rfl rfl ?_)
  refine Calls.mono (open_calls ⟨K.o0, K.o1⟩ hb hw) ?_
  rintro _ w ⟨rfl, hw⟩
  refine ⟨_, rfl, ?_⟩
  refine xV rfl rfl rfl (v_move rfl) ?_
  refine xV rfl rfl rfl (v_extract rfl rfl) ?_
  refine xV rfl rfl rfl (v_extract rfl rfl) ?_
  refine xV rfl rfl rfl (v_assign rfl) ?_
  refine xV rfl rfl rfl (v_assign rfl) ?_
  refine rl_nil (g_le (xK (xK (xS rfl (xS rfl (xS rfl (xS rfl (xS rfl (Fr.le_refl _)))))))) ?_)
  refine g_seq ?_
  refine g_region ?_
  refine xV rfl rfl rfl (v_move rfl) ?_
  refine rl_k rfl (k_callf Try.func23 rfl rfl rfl rfl ?_)
  refine Calls.mono (free_calls (l := l) (m := m) (b := b) (c := c) (o := o) (ss := ss) hb (hw.xQ)) ?_
  rintro _ w ⟨fv, rfl, hw⟩
  obtain ⟨fa, fc, rfl, _, hfm, hfa⟩ := hw.own_shape
  refine ⟨_, rfl, ?_⟩
  refine xV rfl rfl rfl (v_assign rfl) ?_
  refine rl_nil (g_le (xK (xS rfl (xS rfl (Fr.le_refl _)))) ?_)
  refine g_seq ?_
  refine g_region ?_
  refine xV rfl rfl rfl (v_move rfl) ?_
  refine rl_k rfl (k_callf Try.func27 rfl rfl rfl rfl ?_)
  refine Calls.mono (sealed_calls (l := l) (m := m) (b := b) (c := c) (o := o) (ss := ss) hb (hw.xQ)) ?_
  rintro _ w ⟨sv, rfl, hw⟩
  obtain ⟨sa, sc, rfl, _, hsm, hsa⟩ := hw.own_shape
  refine ⟨_, rfl, ?_⟩
  refine xV rfl rfl rfl (v_assign rfl) ?_
  refine rl_nil (g_le (xK (xS rfl (xS rfl (Fr.le_refl _)))) ?_)
  refine g_seq ?_
  refine g_drawR ord_f37_r4_R14h (by kernel_rfl) T.mixed hw (fun w hw => ?_)
  refine rs_a 0 rfl rfl rfl rfl (v_move rfl) ?_
  refine rs_kv 1 rfl rfl rfl rfl (S' := fun _ => True) trivial (v_move rfl) ?_
  refine rs_k 2 rfl rfl (k_callf Try.func62 rfl rfl rfl rfl ?_)
  refine Calls.mono (rof_calls (q := q) (rm := rm) (k1 := k1) (k2 := k2) (k3 := k3) (c1 := c1) (c2 := c2) (c3 := c3) (rs := rs) 1 hrb (hw.xQ)) ?_
  rw [K.ofS 1]
  rintro _ w ⟨v1, rfl, hw⟩
  refine ⟨_, rfl, ?_⟩
  refine ⟨fun _ => (by exact Sat.sub hw (by (repeat (first | with_reducible exact Sub.refl _ | exact Sub.nil _ | (apply Sub.cons; focus ((repeat (first | with_reducible exact Pick.here _ | apply Pick.there)); (first | done | fail))) | with_reducible apply Sub.drop)); first | done | fail)), ?_⟩
  refine rs_k 3 rfl rfl (k_callf Try.func29 rfl rfl rfl rfl ?_)
  refine Calls.mono (same_calls (xs := ofS 1 ss 0) (ys := ofS 1 ss 0) (hw.xQ)) ?_
  rw [decide_eq_true rfl]
  rintro _ w ⟨rfl, hw⟩
  refine ⟨_, rfl, ?_⟩
  refine ⟨fun _ => (by exact Sat.sub hw (by (repeat (first | with_reducible exact Sub.refl _ | exact Sub.nil _ | (apply Sub.cons; focus ((repeat (first | with_reducible exact Pick.here _ | apply Pick.there)); (first | done | fail))) | with_reducible apply Sub.drop)); first | done | fail)), ?_⟩
  refine rs_kv 4 rfl rfl rfl rfl (S' := fun _ => True) trivial (v_move rfl) ?_
  refine rs_split (s := 26) rfl (fun g4_4 => ?_) (fun g4_4 => ?_)
  · try with_reducible exact ft_elim g4_4
    all_goals
      try replace g4_4 := of_decide_eq_true g4_4
      refine rs_ag 5 rfl (met_on rfl rfl rfl rfl) rfl rfl (v_move rfl) ?_
      refine rs_kvg 6 rfl (met_on rfl rfl rfl rfl) rfl rfl (S' := fun _ => True) trivial (v_move rfl) ?_
      refine rs_kg 7 rfl (met_on rfl rfl rfl rfl) (k_callf Try.func62 rfl rfl rfl rfl ?_)
      refine Calls.mono (rof_calls (q := q) (rm := rm) (k1 := k1) (k2 := k2) (k3 := k3) (c1 := c1) (c2 := c2) (c3 := c3) (rs := rs) 2 hrb (hw.xQ)) ?_
      rw [K.ofS 2]
      rintro _ w ⟨v2, rfl, hw⟩
      refine ⟨_, rfl, ?_⟩
      refine ⟨fun _ => (by exact Sat.sub hw (by (repeat (first | with_reducible exact Sub.refl _ | exact Sub.nil _ | (apply Sub.cons; focus ((repeat (first | with_reducible exact Pick.here _ | apply Pick.there)); (first | done | fail))) | with_reducible apply Sub.drop)); first | done | fail)), ?_⟩
      refine rs_kg 8 rfl (met_on rfl rfl rfl rfl) (k_callf Try.func29 rfl rfl rfl rfl ?_)
      refine Calls.mono (same_calls (xs := ofS 2 ss 0) (ys := ofS 2 ss 0) (hw.xQ)) ?_
      rw [decide_eq_true rfl]
      rintro _ w ⟨rfl, hw⟩
      refine ⟨_, rfl, ?_⟩
      refine ⟨fun _ => (by exact Sat.sub hw (by (repeat (first | with_reducible exact Sub.refl _ | exact Sub.nil _ | (apply Sub.cons; focus ((repeat (first | with_reducible exact Pick.here _ | apply Pick.there)); (first | done | fail))) | with_reducible apply Sub.drop)); first | done | fail)), ?_⟩
      refine rs_kv 9 rfl rfl rfl rfl (S' := fun _ => True) trivial (v_pick_true rfl rfl) ?_
      refine rs_kv 10 rfl rfl rfl rfl (S' := fun _ => True) trivial (v_move rfl) ?_
      refine rs_split (s := 32) rfl (fun g4_10 => ?_) (fun g4_10 => ?_)
      · try with_reducible exact ft_elim g4_10
        all_goals
          try replace g4_10 := of_decide_eq_true g4_10
          refine rs_ag 11 rfl (met_on rfl rfl rfl rfl) rfl rfl (v_move rfl) ?_
          refine rs_kvg 12 rfl (met_on rfl rfl rfl rfl) rfl rfl (S' := fun _ => True) trivial (v_move rfl) ?_
          refine rs_kg 13 rfl (met_on rfl rfl rfl rfl) (k_callf Try.func63 rfl rfl rfl rfl ?_)
          refine Calls.mono (opened_calls (q := q) (rm := rm) (k1 := k1) (k2 := k2) (k3 := k3) (c1 := c1) (c2 := c2) (c3 := c3) (rs := rs) hrb (hw.xQ)) ?_
          rw [K.idx3]
          rintro _ w ⟨rfl, hw⟩
          refine ⟨_, rfl, ?_⟩
          refine ⟨fun _ => (by exact Sat.sub hw (by (repeat (first | with_reducible exact Sub.refl _ | exact Sub.nil _ | (apply Sub.cons; focus ((repeat (first | with_reducible exact Pick.here _ | apply Pick.there)); (first | done | fail))) | with_reducible apply Sub.drop)); first | done | fail)), ?_⟩
          refine rs_kvg 14 rfl (met_on rfl rfl rfl rfl) rfl rfl (S' := fun _ => True) trivial (v_eqlT rfl rfl (by omega)) ?_
          refine rs_kv 15 rfl rfl rfl rfl (S' := fun _ => True) trivial (v_pick_true rfl rfl) ?_
          refine rs_kv 16 rfl rfl rfl rfl (S' := fun _ => True) trivial (v_move rfl) ?_
          refine rs_split (s := 38) rfl (fun g4_16 => ?_) (fun g4_16 => ?_)
          · try with_reducible exact ft_elim g4_16
            all_goals
              try replace g4_16 := of_decide_eq_true g4_16
              refine rs_ag 17 rfl (met_on rfl rfl rfl rfl) rfl rfl (v_move rfl) ?_
              refine rs_ag 18 rfl (met_on rfl rfl rfl rfl) rfl rfl (v_move rfl) ?_
              refine rs_ag 19 rfl (met_on rfl rfl rfl rfl) rfl rfl (v_nilCheck rfl) ?_
              refine rs_ag 20 rfl (met_on rfl rfl rfl rfl) rfl rfl (v_fieldAddr0 T.fld_120_2_2 rfl) ?_
              refine rs_ag 22 rfl (met_on rfl rfl rfl rfl) rfl rfl (v_move rfl) ?_
              refine rs_vg 21 rfl (met_on rfl rfl rfl rfl) rfl rfl (OpV.mono (v_load T.scal_61 rfl) (fun w hw => by exact sat_cell hw (by (repeat first | with_reducible exact xH | apply xT); first | done | fail) rfl)) (by exact Sat.sub hw (by (repeat (first | with_reducible exact Sub.refl _ | exact Sub.nil _ | (apply Sub.cons; focus ((repeat (first | with_reducible exact Pick.here _ | apply Pick.there)); (first | done | fail))) | with_reducible apply Sub.drop)); first | done | fail)) ?_
              refine rs_kg 23 rfl (met_on rfl rfl rfl rfl) (k_callf Try.func63 rfl rfl rfl rfl ?_)
              refine Calls.mono (opened_calls (q := q) (rm := rm) (k1 := k1) (k2 := k2) (k3 := k3) (c1 := c1) (c2 := c2) (c3 := c3) (rs := rs) hrb (hw.xQ)) ?_
              rw [K.idx3]
              rintro _ w ⟨rfl, hw⟩
              refine ⟨_, rfl, ?_⟩
              refine ⟨fun _ => (by exact Sat.sub hw (by (repeat (first | with_reducible exact Sub.refl _ | exact Sub.nil _ | (apply Sub.cons; focus ((repeat (first | with_reducible exact Pick.here _ | apply Pick.there)); (first | done | fail))) | with_reducible apply Sub.drop)); first | done | fail)), ?_⟩
              refine rs_kvg 24 rfl (met_on rfl rfl rfl rfl) rfl rfl (S' := fun _ => True) trivial (v_indexAddr T.sl_61_3_1 rfl rfl (by omega) (by omega)) ?_
              refine rs_kvg 25 rfl (met_on rfl rfl rfl rfl) rfl rfl (by exact own_cell hw (by (repeat first | with_reducible exact xH | apply xT); first | done | fail) (by first | rfl | assumption)) (v_load T.scal_3 rfl) ?_
              refine rs_kvg 26 rfl (met_on rfl rfl rfl rfl) rfl rfl (S' := fun _ => True) trivial (v_eqlT rfl rfl (by omega)) ?_
              refine rs_kv 27 rfl rfl rfl rfl (S' := fun _ => True) trivial (v_pick_true rfl rfl) ?_
              refine rs_kv 28 rfl rfl rfl rfl (S' := fun _ => True) trivial (v_assign rfl) ?_
              refine rs_done (g_le (xK (xS rfl (xS rfl (xS rfl (xS rfl (xS rfl (xS rfl (xS rfl (xS rfl (xS rfl (xS rfl (xS rfl (xS rfl (xS rfl (xS rfl (xS rfl (xS rfl (xS rfl (xS rfl (xS rfl (xS rfl (xS rfl (xS rfl (xS rfl (xS rfl (xS rfl (xS rfl (xS rfl (xS rfl (xS rfl (xS rfl (xS rfl (Fr.le_refl _))))))))))))))))))))))))))))))))) ?_)
              refine g_seq (g_seq ?_)
              have hf1 : ((ofS 1 ss 0).map (Value.int .i64)).length = (ofS 1 ss 0).length := by simp
              generalize hFv : ((ofS 1 ss 0).map (Value.int .i64)) = F1 at hw hf1
              have hs1 : ((ofS 2 ss 0).map (Value.int .i64)).length = (ofS 2 ss 0).length := by simp
              generalize hSv : ((ofS 2 ss 0).map (Value.int .i64)) = F2 at hw hs1
              simp only [maxLen] at hfm hsm
              refine g_region ?_
              refine xV rfl rfl rfl (v_assign rfl) ?_
              refine rl_nil (g_le (xK (Fr.le_refl _)) ?_)
              refine g_block ?_
              refine g_loopC (σ := Nat × List Value) (fun C x => (10, .int .i64 (x.1 : Nat)) :: C) [(0, _), (1, _), (4, _), (7, _), (8, _), (9, _)] (by repeat (first | exact Fr.le_nil _ | refine Fr.le_cons rfl ?_)) (fun z w => z.1 ≤ (ofS 1 ss 0).length ∧ z.2.length = (ofS 1 ss 0).length ∧ Sat E w (OwnSl 3 1 (.slice fa (ofS 1 ss 0).length fc) (ofS 1 ss 0).length z.2 :: OwnSl 3 1 (.slice sa (ofS 2 ss 0).length sc) (ofS 2 ss 0).length F2 :: pt l (.cells [Value.pointer (some ⟨m, 0, none⟩), .int .i64 o, .slice (some ⟨b, 0, none⟩) (ss : List Sg).length c].toArray 47 (0, 0)) :: OwnSl 104 3 (.slice (some ⟨b, 0, none⟩) (ss).length c) (ss).length ((ss).flatMap Sg.cells) :: MdAt m p md :: PwAt p pw :: pt q (.cells [Value.pointer (some ⟨rm, 0, none⟩), .slice (some ⟨k1, 0, none⟩) (rs : List Sg).length c1, .slice (some ⟨k2, 0, none⟩) (rs : List Sg).length c2, .slice (some ⟨k3, 0, none⟩) (rs : List Sg).length c3].toArray 120 (0, 0)) :: OwnSl 3 1 (.slice (some ⟨k1, 0, none⟩) (rs).length c1) (rs).length ((rs).map fun x => Value.int .i64 x.kind) :: OwnSl 3 1 (.slice (some ⟨k2, 0, none⟩) (rs).length c2) (rs).length ((rs).map fun x => Value.int .i64 x.used) :: OwnSl 3 1 (.slice (some ⟨k3, 0, none⟩) (rs).length c3) (rs).length ((rs).map fun x => Value.int .i64 x.live) :: RmAt rm p2 md :: RwAt p2 pw.ref :: L)) (fun z => (ofS 1 ss 0).length - z.1) ?_ (0, F1) (by repeat (first | exact Fr.le_nil _ | refine Fr.le_cons rfl ?_)) ⟨by simp, hf1, hw.xQ⟩
              rintro ⟨i, fs⟩ w ⟨hi, hfl, hw⟩ ih
              dsimp only at hi hfl hw ih ⊢
              refine g_seq (g_seq ?_)
              refine g_region ?_
              refine xV rfl rfl rfl (v_move rfl) ?_
              refine xV rfl rfl rfl (v_move rfl) ?_
              refine xV rfl rfl rfl (v_lenSlice T.sl_61_3_1 rfl) ?_
              refine xV rfl rfl rfl (v_lss rfl rfl) ?_
              refine rl_nil (g_le (xK (xK (xK (xK (Fr.le_refl _))))) ?_)
              refine g_cond rfl (fun h1 => ?_) (fun h1 => ?_)
              · try with_reducible exact ft_elim h1
                all_goals
                  try replace h1 := of_decide_eq_true h1
                  refine g_skip (g_seq (g_block ?_))
                  obtain ⟨fg, hfg⟩ := hfa (by omega)
                  subst hfg
                  have hst : 0 + (i : Int).toNat * 1 < fs.length := by omega
                  refine g_region ?_
                  refine xV rfl rfl rfl (v_move rfl) ?_
                  refine xV rfl rfl rfl (v_move rfl) ?_
                  refine xV rfl rfl rfl (v_indexAddr T.sl_61_3_1 rfl rfl (by omega) (by omega)) ?_
                  refine rl_k rfl (k_storeOwn hw T.scal_3 rfl rfl rfl (by (repeat first | with_reducible exact xH | apply xT); first | done | fail) (by assumption) (fun w hw => ?_))
                  refine rl_nil (g_le (xK (xK (xK (Fr.le_refl _)))) ?_)
                  refine g_inBlock ?_
                  refine g_region ?_
                  refine xV rfl rfl rfl (v_move rfl) ?_
                  refine xV rfl rfl rfl (v_add rfl rfl (by omega)) ?_
                  refine xV rfl rfl rfl (v_assign rfl) ?_
                  refine rl_nil (g_le (xK (xK (xK (Fr.le_refl _)))) ?_)
                  exact g_le (by repeat (first | exact Fr.le_nil _ | refine Fr.le_cons rfl ?_)) (ih (i + 1, fs.set (0 + (i : Int).toNat * 1) (Value.int .i64 (-1))) w ⟨by simp only; omega, by simp only [List.length_set]; exact hfl, hw⟩ (by simp only; omega))
              · try with_reducible exact tf_elim h1
                all_goals
                  try replace h1 := of_decide_eq_false h1
                  refine g_exit rfl (g_seq (g_seq ?_))
                  have hw := hw.drop
                  clear ih
                  refine g_region ?_
                  refine xV rfl rfl rfl (v_assign rfl) ?_
                  refine rl_nil (g_le (xK (Fr.le_refl _)) ?_)
                  refine g_block ?_
                  refine g_loopC (σ := Nat × List Value) (fun C x => (11, .int .i64 (x.1 : Nat)) :: C) [(0, _), (1, _), (4, _), (8, _), (9, _)] (by repeat (first | exact Fr.le_nil _ | refine Fr.le_cons rfl ?_)) (fun z w => z.1 ≤ (ofS 2 ss 0).length ∧ z.2.length = (ofS 2 ss 0).length ∧ Sat E w (OwnSl 3 1 (.slice sa (ofS 2 ss 0).length sc) (ofS 2 ss 0).length z.2 :: pt l (.cells [Value.pointer (some ⟨m, 0, none⟩), .int .i64 o, .slice (some ⟨b, 0, none⟩) (ss : List Sg).length c].toArray 47 (0, 0)) :: OwnSl 104 3 (.slice (some ⟨b, 0, none⟩) (ss).length c) (ss).length ((ss).flatMap Sg.cells) :: MdAt m p md :: PwAt p pw :: pt q (.cells [Value.pointer (some ⟨rm, 0, none⟩), .slice (some ⟨k1, 0, none⟩) (rs : List Sg).length c1, .slice (some ⟨k2, 0, none⟩) (rs : List Sg).length c2, .slice (some ⟨k3, 0, none⟩) (rs : List Sg).length c3].toArray 120 (0, 0)) :: OwnSl 3 1 (.slice (some ⟨k1, 0, none⟩) (rs).length c1) (rs).length ((rs).map fun x => Value.int .i64 x.kind) :: OwnSl 3 1 (.slice (some ⟨k2, 0, none⟩) (rs).length c2) (rs).length ((rs).map fun x => Value.int .i64 x.used) :: OwnSl 3 1 (.slice (some ⟨k3, 0, none⟩) (rs).length c3) (rs).length ((rs).map fun x => Value.int .i64 x.live) :: RmAt rm p2 md :: RwAt p2 pw.ref :: L)) (fun z => (ofS 2 ss 0).length - z.1) ?_ (0, F2) (by repeat (first | exact Fr.le_nil _ | refine Fr.le_cons rfl ?_)) ⟨by simp, hs1, hw⟩
                  rintro ⟨i, fs⟩ w ⟨hi, hfl, hw⟩ ih
                  dsimp only at hi hfl hw ih ⊢
                  refine g_seq (g_seq ?_)
                  refine g_region ?_
                  refine xV rfl rfl rfl (v_move rfl) ?_
                  refine xV rfl rfl rfl (v_move rfl) ?_
                  refine xV rfl rfl rfl (v_lenSlice T.sl_61_3_1 rfl) ?_
                  refine xV rfl rfl rfl (v_lss rfl rfl) ?_
                  refine rl_nil (g_le (xK (xK (xK (xK (Fr.le_refl _))))) ?_)
                  refine g_cond rfl (fun h2 => ?_) (fun h2 => ?_)
                  · try with_reducible exact ft_elim h2
                    all_goals
                      try replace h2 := of_decide_eq_true h2
                      refine g_skip (g_seq (g_block ?_))
                      obtain ⟨sg, hsg⟩ := hsa (by omega)
                      subst hsg
                      have hst : 0 + (i : Int).toNat * 1 < fs.length := by omega
                      refine g_region ?_
                      refine xV rfl rfl rfl (v_move rfl) ?_
                      refine xV rfl rfl rfl (v_move rfl) ?_
                      refine xV rfl rfl rfl (v_indexAddr T.sl_61_3_1 rfl rfl (by omega) (by omega)) ?_
                      refine rl_k rfl (k_storeOwn hw T.scal_3 rfl rfl rfl (by (repeat first | with_reducible exact xH | apply xT); first | done | fail) (by assumption) (fun w hw => ?_))
                      refine rl_nil (g_le (xK (xK (xK (Fr.le_refl _)))) ?_)
                      refine g_inBlock ?_
                      refine g_region ?_
                      refine xV rfl rfl rfl (v_move rfl) ?_
                      refine xV rfl rfl rfl (v_add rfl rfl (by omega)) ?_
                      refine xV rfl rfl rfl (v_assign rfl) ?_
                      refine rl_nil (g_le (xK (xK (xK (Fr.le_refl _)))) ?_)
                      exact g_le (by repeat (first | exact Fr.le_nil _ | refine Fr.le_cons rfl ?_)) (ih (i + 1, fs.set (0 + (i : Int).toNat * 1) (Value.int .i64 (-1))) w ⟨by simp only; omega, by simp only [List.length_set]; exact hfl, hw⟩ (by simp only; omega))
                  · try with_reducible exact tf_elim h2
                    all_goals
                      try replace h2 := of_decide_eq_false h2
                      refine g_exit rfl (g_seq (g_seq ?_))
                      have hw := hw.drop
                      clear ih
                      refine g_region ?_
                      refine xV rfl rfl rfl (v_assign rfl) ?_
                      refine rl_nil (g_le (xK (Fr.le_refl _)) ?_)
                      refine g_block ?_
                      refine g_loopC (σ := Nat) (fun C x => (12, .int .i64 (x : Nat)) :: C) [(0, _), (1, _), (4, _), (9, _)] (by repeat (first | exact Fr.le_nil _ | refine Fr.le_cons rfl ?_)) (fun z w => z ≤ rs.length ∧ Sat E w (pt l (.cells [Value.pointer (some ⟨m, 0, none⟩), .int .i64 o, .slice (some ⟨b, 0, none⟩) (ss : List Sg).length c].toArray 47 (0, 0)) :: OwnSl 104 3 (.slice (some ⟨b, 0, none⟩) (ss).length c) (ss).length ((ss).flatMap Sg.cells) :: MdAt m p md :: PwAt p pw :: pt q (.cells [Value.pointer (some ⟨rm, 0, none⟩), .slice (some ⟨k1, 0, none⟩) (rs : List Sg).length c1, .slice (some ⟨k2, 0, none⟩) (rs : List Sg).length c2, .slice (some ⟨k3, 0, none⟩) (rs : List Sg).length c3].toArray 120 (0, 0)) :: OwnSl 3 1 (.slice (some ⟨k1, 0, none⟩) (rs).length c1) (rs).length ((rs).map fun x => Value.int .i64 x.kind) :: OwnSl 3 1 (.slice (some ⟨k2, 0, none⟩) (rs).length c2) (rs).length ((rs).map fun x => Value.int .i64 x.used) :: OwnSl 3 1 (.slice (some ⟨k3, 0, none⟩) (rs).length c3) (rs).length ((rs).map fun x => Value.int .i64 x.live) :: RmAt rm p2 md :: RwAt p2 pw.ref :: L)) (fun z => rs.length - z) ?_ 0 (by repeat (first | exact Fr.le_nil _ | refine Fr.le_cons rfl ?_)) ⟨by simp, hw⟩
                      rintro i w ⟨hi, hw⟩ ih
                      refine g_seq (g_seq ?_)
                      refine g_region ?_
                      refine xV rfl rfl rfl (v_move rfl) ?_
                      refine xV rfl rfl rfl (v_move rfl) ?_
                      refine xV rfl rfl rfl (v_nilCheck rfl) ?_
                      refine xV rfl rfl rfl (v_fieldAddr0 T.fld_120_1_1 rfl) ?_
                      refine rl_v rfl rfl rfl (by exact sat_cell hw (by (repeat first | with_reducible exact xH | apply xT); first | done | fail) rfl) (v_load T.scal_61 rfl) ?_
                      refine xV rfl rfl rfl (v_lenSlice T.sl_61_3_1 rfl) ?_
                      refine xV rfl rfl rfl (v_lss rfl rfl) ?_
                      refine xV rfl rfl rfl (v_move rfl) ?_
                      refine rl_split (s := 75) rfl (fun g14_7 => ?_) (fun g14_7 => ?_)
                      · try with_reducible exact ft_elim g14_7
                        all_goals
                          try replace g14_7 := of_decide_eq_true g14_7
                          refine rl_vg (met_on rfl rfl rfl rfl) rfl rfl (S := fun _ => True) trivial (v_move rfl) ?_
                          refine rl_vg (met_on rfl rfl rfl rfl) rfl rfl (S := fun _ => True) trivial (v_lss rfl rfl) ?_
                          refine xV rfl rfl rfl (v_pick_true rfl rfl) ?_
                          refine rl_nil (g_le (xK (xK (xK (xK (xK (xK (xK (xK (xK (xK (xK (xK (Fr.le_refl _))))))))))))) ?_)
                          refine g_cond rfl (fun h3 => ?_) (fun h3 => ?_)
                          · try with_reducible exact ft_elim h3
                            all_goals
                              try replace h3 := of_decide_eq_true h3
                              refine g_skip (g_seq (g_block (g_seq ?_)))
                              have hlt : i < rs.length := by omega
                              obtain ⟨y, hy⟩ : ∃ y, rs[((i : Nat) : Int).toNat]? = some y := ⟨_, List.getElem?_eq_getElem (by omega)⟩
                              have hkg := kget (by omega) hy
                              have hlg := lget (by omega) hy
                              have hks : kindS ss (i : Int) = y.kind := by rw [← (K.kindS (i : Int)).1]; unfold kindS sgAt; rw [if_pos (by omega), hy]; rfl
                              have hls : liveS ss (i : Int) = y.live := by rw [← (K.kindS (i : Int)).2]; unfold liveS sgAt; rw [if_pos (by omega), hy]; rfl
                              refine g_drawR ord_f37_r16_R14h (by kernel_rfl) T.mixed hw (fun w hw => ?_)
                              refine rs_a 0 rfl rfl rfl rfl (v_move rfl) ?_
                              refine rs_a 1 rfl rfl rfl rfl (v_move rfl) ?_
                              refine rs_a 3 rfl rfl rfl rfl (v_move rfl) ?_
                              refine rs_a 4 rfl rfl rfl rfl (v_nilCheck rfl) ?_
                              refine rs_a 5 rfl rfl rfl rfl (v_fieldAddr0 T.fld_120_1_1 rfl) ?_
                              refine rs_a 7 rfl rfl rfl rfl (v_move rfl) ?_
                              refine rs_v 6 rfl rfl rfl rfl (OpV.mono (v_load T.scal_61 rfl) (fun w hw => by exact sat_cell hw (by (repeat first | with_reducible exact xH | apply xT); first | done | fail) rfl)) (by exact hw) ?_
                              refine rs_a 8 rfl rfl rfl rfl (v_indexAddr T.sl_61_3_1 rfl rfl (by omega) (by omega)) ?_
                              refine rs_v 9 rfl rfl rfl rfl (OpV.mono (v_load T.scal_3 rfl) (fun w hw => by exact own_cell hw (by (repeat first | with_reducible exact xH | apply xT); first | done | fail) (by first | rfl | assumption))) (by exact hw) ?_
                              refine rs_k 2 rfl rfl (k_callf Try.func28 rfl rfl rfl rfl ?_)
                              refine Calls.mono (kindS_calls (l := l) (m := m) (b := b) (c := c) (o := o) (ss := ss) (i : Int) hb (hw.xQ)) ?_
                              rw [hks]
                              rintro _ w ⟨rfl, hw⟩
                              refine ⟨_, rfl, ?_⟩
                              refine ⟨fun _ => (by exact hw), ?_⟩
                              refine rs_kv 10 rfl rfl rfl rfl (S' := fun _ => True) trivial (v_neqF rfl rfl (by omega)) ?_
                              refine rs_kv 11 rfl rfl rfl rfl (S' := fun _ => True) trivial (v_move rfl) ?_
                              refine rs_split (s := 92) rfl (fun g16_11 => ?_) (fun g16_11 => ?_)
                              · try with_reducible exact ft_elim g16_11
                                all_goals
                                  try replace g16_11 := of_decide_eq_true g16_11
                                  simp at g16_11
                              · try with_reducible exact tf_elim g16_11
                                all_goals
                                  try replace g16_11 := of_decide_eq_false g16_11
                                  refine rs_ag 12 rfl (met_on rfl rfl rfl rfl) rfl rfl (v_move rfl) ?_
                                  refine rs_ag 13 rfl (met_on rfl rfl rfl rfl) rfl rfl (v_move rfl) ?_
                                  refine rs_ag 15 rfl (met_on rfl rfl rfl rfl) rfl rfl (v_move rfl) ?_
                                  refine rs_ag 16 rfl (met_on rfl rfl rfl rfl) rfl rfl (v_nilCheck rfl) ?_
                                  refine rs_ag 17 rfl (met_on rfl rfl rfl rfl) rfl rfl (v_fieldAddr0 T.fld_120_3_3 rfl) ?_
                                  refine rs_ag 19 rfl (met_on rfl rfl rfl rfl) rfl rfl (v_move rfl) ?_
                                  refine rs_vg 18 rfl (met_on rfl rfl rfl rfl) rfl rfl (OpV.mono (v_load T.scal_61 rfl) (fun w hw => by exact sat_cell hw (by (repeat first | with_reducible exact xH | apply xT); first | done | fail) rfl)) (by exact hw) ?_
                                  refine rs_ag 20 rfl (met_on rfl rfl rfl rfl) rfl rfl (v_indexAddr T.sl_61_3_1 rfl rfl (by omega) (by omega)) ?_
                                  refine rs_vg 21 rfl (met_on rfl rfl rfl rfl) rfl rfl (OpV.mono (v_load T.scal_3 rfl) (fun w hw => by exact own_cell hw (by (repeat first | with_reducible exact xH | apply xT); first | done | fail) (by first | rfl | assumption))) (by exact hw) ?_
                                  refine rs_kg 14 rfl (met_on rfl rfl rfl rfl) (k_callf Try.func30 rfl rfl rfl rfl ?_)
                                  refine Calls.mono (liveS_calls (l := l) (m := m) (b := b) (c := c) (o := o) (ss := ss) (i : Int) hb (hw.xQ)) ?_
                                  rw [hls]
                                  rintro _ w ⟨rfl, hw⟩
                                  refine ⟨_, rfl, ?_⟩
                                  refine ⟨fun _ => (by exact hw), ?_⟩
                                  refine rs_kvg 22 rfl (met_on rfl rfl rfl rfl) rfl rfl (S' := fun _ => True) trivial (v_neqF rfl rfl (by omega)) ?_
                                  refine rs_kv 23 rfl rfl rfl rfl (S' := fun _ => True) trivial (v_pick_false rfl rfl) ?_
                                  refine rs_kv 24 rfl rfl rfl rfl (S' := fun _ => True) trivial (v_move rfl) ?_
                                  refine rs_split (s := 105) rfl (fun g16_24 => ?_) (fun g16_24 => ?_)
                                  · try with_reducible exact ft_elim g16_24
                                    all_goals
                                      try replace g16_24 := of_decide_eq_true g16_24
                                      simp at g16_24
                                  · try with_reducible exact tf_elim g16_24
                                    all_goals
                                      try replace g16_24 := of_decide_eq_false g16_24
                                      refine rs_ag 25 rfl (met_on rfl rfl rfl rfl) rfl rfl (v_move rfl) ?_
                                      refine rs_ag 26 rfl (met_on rfl rfl rfl rfl) rfl rfl (v_nilCheck rfl) ?_
                                      refine rs_ag 27 rfl (met_on rfl rfl rfl rfl) rfl rfl (v_fieldAddr0 T.fld_47_0_0 rfl) ?_
                                      refine rs_ag 29 rfl (met_on rfl rfl rfl rfl) rfl rfl (v_move rfl) ?_
                                      refine rs_ag 31 rfl (met_on rfl rfl rfl rfl) rfl rfl (v_move rfl) ?_
                                      refine rs_ag 32 rfl (met_on rfl rfl rfl rfl) rfl rfl (v_nilCheck rfl) ?_
                                      refine rs_ag 33 rfl (met_on rfl rfl rfl rfl) rfl rfl (v_fieldAddr0 T.fld_120_0_0 rfl) ?_
                                      refine rs_ag 35 rfl (met_on rfl rfl rfl rfl) rfl rfl (v_move rfl) ?_
                                      refine rs_vg 28 rfl (met_on rfl rfl rfl rfl) rfl rfl (OpV.mono (v_load T.scal_24 rfl) (fun w hw => by exact sat_cell hw (by (repeat first | with_reducible exact xH | apply xT); first | done | fail) rfl)) (by exact hw) ?_
                                      refine rs_vg 34 rfl (met_on rfl rfl rfl rfl) rfl rfl (OpV.mono (v_load T.scal_81 rfl) (fun w hw => by exact sat_cell hw (by (repeat first | with_reducible exact xH | apply xT); first | done | fail) rfl)) (by exact hw) ?_
                                      refine rs_kg 30 rfl (met_on rfl rfl rfl rfl) (k_callf Try.func50 rfl rfl rfl rfl ?_)
                                      refine Calls.mono (mused_calls m p md (i : Int) (hw.xP (A := MdAt m p md))) ?_
                                      rintro _ w ⟨rfl, hw⟩
                                      refine ⟨_, rfl, ?_⟩
                                      refine ⟨fun _ => (by exact Sat.sub hw (by (repeat (first | with_reducible exact Sub.refl _ | exact Sub.nil _ | (apply Sub.cons; focus ((repeat (first | with_reducible exact Pick.here _ | apply Pick.there)); (first | done | fail))) | with_reducible apply Sub.drop)); first | done | fail)), ?_⟩
                                      refine rs_kg 36 rfl (met_on rfl rfl rfl rfl) (k_callf Try.func64 rfl rfl rfl rfl ?_)
                                      refine Calls.mono (rused_calls (i : Int) (hw.xP (A := RmAt rm p2 md))) ?_
                                      rintro _ w ⟨rfl, hw⟩
                                      refine ⟨_, rfl, ?_⟩
                                      refine ⟨fun _ => (by exact Sat.sub hw (by (repeat (first | with_reducible exact Sub.refl _ | exact Sub.nil _ | (apply Sub.cons; focus ((repeat (first | with_reducible exact Pick.here _ | apply Pick.there)); (first | done | fail))) | with_reducible apply Sub.drop)); first | done | fail)), ?_⟩
                                      refine rs_kvg 37 rfl (met_on rfl rfl rfl rfl) rfl rfl (S' := fun _ => True) trivial (v_neqF rfl rfl (by omega)) ?_
                                      refine rs_kv 38 rfl rfl rfl rfl (S' := fun _ => True) trivial (v_pick_false rfl rfl) ?_
                                      refine rs_done (g_le (xK (xK (xK (xK (xK (xK (xK (xK (xK (xK (xK (xK (xK (xK (xK (xK (xK (xK (xK (xK (xK (xK (xK (xK (xK (xK (xK (xK (xK (xK (xK (xK (xK (xK (xK (xK (xK (xK (xK (xK (xK (Fr.le_refl _)))))))))))))))))))))))))))))))))))))))))) ?_)
                                      refine g_cond_false rfl ?_
                                      refine g_skip (g_inBlock ?_)
                                      refine g_region ?_
                                      refine xV rfl rfl rfl (v_move rfl) ?_
                                      refine xV rfl rfl rfl (v_add rfl rfl (by omega)) ?_
                                      refine xV rfl rfl rfl (v_assign rfl) ?_
                                      refine rl_nil (g_le (xK (xK (xK (Fr.le_refl _)))) ?_)
                                      exact g_le (by repeat (first | exact Fr.le_nil _ | refine Fr.le_cons rfl ?_)) (ih (i + 1) w ⟨by omega, hw.xQ⟩ (by omega))
                          · try with_reducible exact tf_elim h3
                            all_goals
                              try replace h3 := of_decide_eq_false h3
                              refine g_exit rfl (g_seq ?_)
                              obtain ⟨ra, rc, pa, pc, _, hw⟩ := rm_open (hw.xP (A := RmAt rm p2 md))
                              simp only [hpe] at hw
                              refine g_drawR ord_f37_r18_R14h (by kernel_rfl) T.mixed hw (fun w hw => ?_)
                              refine rs_kv 0 rfl rfl rfl rfl (S' := fun _ => True) trivial (v_move rfl) ?_
                              refine rs_kv 1 rfl rfl rfl rfl (S' := fun _ => True) trivial (v_move rfl) ?_
                              refine rs_split (s := 121) rfl (fun g18_1 => ?_) (fun g18_1 => ?_)
                              · try with_reducible exact ft_elim g18_1
                                all_goals
                                  try replace g18_1 := of_decide_eq_true g18_1
                                  refine rs_ag 2 rfl (met_on rfl rfl rfl rfl) rfl rfl (v_move rfl) ?_
                                  refine rs_ag 4 rfl (met_on rfl rfl rfl rfl) rfl rfl (v_move rfl) ?_
                                  refine rs_kg 3 rfl (met_on rfl rfl rfl rfl) (k_callf Try.func23 rfl rfl rfl rfl ?_)
                                  refine Calls.mono (free_calls (l := l) (m := m) (b := b) (c := c) (o := o) (ss := ss) hb (hw.xQ)) ?_
                                  rintro _ w ⟨fv3, rfl, hw⟩
                                  refine ⟨_, rfl, ?_⟩
                                  refine ⟨fun _ => (by exact Sat.sub hw (by (repeat (first | with_reducible exact Sub.refl _ | exact Sub.nil _ | (apply Sub.cons; focus ((repeat (first | with_reducible exact Pick.here _ | apply Pick.there)); (first | done | fail))) | with_reducible apply Sub.drop)); first | done | fail)), ?_⟩
                                  refine rs_kg 5 rfl (met_on rfl rfl rfl rfl) (k_callf Try.func62 rfl rfl rfl rfl ?_)
                                  refine Calls.mono (rof_calls (q := q) (rm := rm) (k1 := k1) (k2 := k2) (k3 := k3) (c1 := c1) (c2 := c2) (c3 := c3) (rs := rs) 1 hrb (hw.xQ)) ?_
                                  rw [K.ofS 1]
                                  rintro _ w ⟨v1, rfl, hw⟩
                                  refine ⟨_, rfl, ?_⟩
                                  refine ⟨fun _ => (by exact Sat.sub hw (by (repeat (first | with_reducible exact Sub.refl _ | exact Sub.nil _ | (apply Sub.cons; focus ((repeat (first | with_reducible exact Pick.here _ | apply Pick.there)); (first | done | fail))) | with_reducible apply Sub.drop)); first | done | fail)), ?_⟩
                                  refine rs_kg 6 rfl (met_on rfl rfl rfl rfl) (k_callf Try.func29 rfl rfl rfl rfl ?_)
                                  refine Calls.mono (same_calls (xs := ofS 1 ss 0) (ys := ofS 1 ss 0) (hw.xQ)) ?_
                                  rw [decide_eq_true rfl]
                                  rintro _ w ⟨rfl, hw⟩
                                  refine ⟨_, rfl, ?_⟩
                                  refine ⟨fun _ => (by exact Sat.sub hw (by (repeat (first | with_reducible exact Sub.refl _ | exact Sub.nil _ | (apply Sub.cons; focus ((repeat (first | with_reducible exact Pick.here _ | apply Pick.there)); (first | done | fail))) | with_reducible apply Sub.drop)); first | done | fail)), ?_⟩
                                  refine rs_kv 7 rfl rfl rfl rfl (S' := fun _ => True) trivial (v_pick_true rfl rfl) ?_
                                  refine rs_kv 8 rfl rfl rfl rfl (S' := fun _ => True) trivial (v_move rfl) ?_
                                  refine rs_split (s := 128) rfl (fun g18_8 => ?_) (fun g18_8 => ?_)
                                  · try with_reducible exact ft_elim g18_8
                                    all_goals
                                      try replace g18_8 := of_decide_eq_true g18_8
                                      refine rs_ag 9 rfl (met_on rfl rfl rfl rfl) rfl rfl (v_move rfl) ?_
                                      refine rs_ag 11 rfl (met_on rfl rfl rfl rfl) rfl rfl (v_move rfl) ?_
                                      refine rs_kg 10 rfl (met_on rfl rfl rfl rfl) (k_callf Try.func27 rfl rfl rfl rfl ?_)
                                      refine Calls.mono (sealed_calls (l := l) (m := m) (b := b) (c := c) (o := o) (ss := ss) hb (hw.xQ)) ?_
                                      rintro _ w ⟨sv3, rfl, hw⟩
                                      refine ⟨_, rfl, ?_⟩
                                      refine ⟨fun _ => (by exact Sat.sub hw (by (repeat (first | with_reducible exact Sub.refl _ | exact Sub.nil _ | (apply Sub.cons; focus ((repeat (first | with_reducible exact Pick.here _ | apply Pick.there)); (first | done | fail))) | with_reducible apply Sub.drop)); first | done | fail)), ?_⟩
                                      refine rs_kg 12 rfl (met_on rfl rfl rfl rfl) (k_callf Try.func62 rfl rfl rfl rfl ?_)
                                      refine Calls.mono (rof_calls (q := q) (rm := rm) (k1 := k1) (k2 := k2) (k3 := k3) (c1 := c1) (c2 := c2) (c3 := c3) (rs := rs) 2 hrb (hw.xQ)) ?_
                                      rw [K.ofS 2]
                                      rintro _ w ⟨v2, rfl, hw⟩
                                      refine ⟨_, rfl, ?_⟩
                                      refine ⟨fun _ => (by exact Sat.sub hw (by (repeat (first | with_reducible exact Sub.refl _ | exact Sub.nil _ | (apply Sub.cons; focus ((repeat (first | with_reducible exact Pick.here _ | apply Pick.there)); (first | done | fail))) | with_reducible apply Sub.drop)); first | done | fail)), ?_⟩
                                      refine rs_kg 13 rfl (met_on rfl rfl rfl rfl) (k_callf Try.func29 rfl rfl rfl rfl ?_)
                                      refine Calls.mono (same_calls (xs := ofS 2 ss 0) (ys := ofS 2 ss 0) (hw.xQ)) ?_
                                      rw [decide_eq_true rfl]
                                      rintro _ w ⟨rfl, hw⟩
                                      refine ⟨_, rfl, ?_⟩
                                      refine ⟨fun _ => (by exact Sat.sub hw (by (repeat (first | with_reducible exact Sub.refl _ | exact Sub.nil _ | (apply Sub.cons; focus ((repeat (first | with_reducible exact Pick.here _ | apply Pick.there)); (first | done | fail))) | with_reducible apply Sub.drop)); first | done | fail)), ?_⟩
                                      refine rs_kv 14 rfl rfl rfl rfl (S' := fun _ => True) trivial (v_pick_true rfl rfl) ?_
                                      refine rs_kv 15 rfl rfl rfl rfl (S' := fun _ => True) trivial (v_move rfl) ?_
                                      refine rs_split (s := 135) rfl (fun g18_15 => ?_) (fun g18_15 => ?_)
                                      · try with_reducible exact ft_elim g18_15
                                        all_goals
                                          try replace g18_15 := of_decide_eq_true g18_15
                                          refine rs_ag 16 rfl (met_on rfl rfl rfl rfl) rfl rfl (v_move rfl) ?_
                                          refine rs_ag 17 rfl (met_on rfl rfl rfl rfl) rfl rfl (v_nilCheck rfl) ?_
                                          refine rs_ag 18 rfl (met_on rfl rfl rfl rfl) rfl rfl (v_fieldAddr0 T.fld_47_0_0 rfl) ?_
                                          refine rs_ag 24 rfl (met_on rfl rfl rfl rfl) rfl rfl (v_move rfl) ?_
                                          refine rs_ag 25 rfl (met_on rfl rfl rfl rfl) rfl rfl (v_nilCheck rfl) ?_
                                          refine rs_ag 26 rfl (met_on rfl rfl rfl rfl) rfl rfl (v_fieldAddr0 T.fld_120_0_0 rfl) ?_
                                          refine rs_vg 19 rfl (met_on rfl rfl rfl rfl) rfl rfl (OpV.mono (v_load T.scal_24 rfl) (fun w hw => by exact sat_cell hw (by (repeat first | with_reducible exact xH | apply xT); first | done | fail) rfl)) (by exact Sat.sub hw (by (repeat (first | with_reducible exact Sub.refl _ | exact Sub.nil _ | (apply Sub.cons; focus ((repeat (first | with_reducible exact Pick.here _ | apply Pick.there)); (first | done | fail))) | with_reducible apply Sub.drop)); first | done | fail)) ?_
                                          refine rs_ag 20 rfl (met_on rfl rfl rfl rfl) rfl rfl (v_nilCheck rfl) ?_
                                          refine rs_ag 21 rfl (met_on rfl rfl rfl rfl) rfl rfl (v_fieldAddr0 T.fld_52_0_0 rfl) ?_
                                          refine rs_vg 22 rfl (met_on rfl rfl rfl rfl) rfl rfl (OpV.mono (v_load T.scal_28 rfl) (fun w hw => by exact md_ptr (hw.xP (A := MdAt m p md)))) (by exact Sat.sub hw (by (repeat (first | with_reducible exact Sub.refl _ | exact Sub.nil _ | (apply Sub.cons; focus ((repeat (first | with_reducible exact Pick.here _ | apply Pick.there)); (first | done | fail))) | with_reducible apply Sub.drop)); first | done | fail)) ?_
                                          refine rs_vg 27 rfl (met_on rfl rfl rfl rfl) rfl rfl (OpV.mono (v_load T.scal_81 rfl) (fun w hw => by exact sat_cell hw (by (repeat first | with_reducible exact xH | apply xT); first | done | fail) rfl)) (by exact Sat.sub hw (by (repeat (first | with_reducible exact Sub.refl _ | exact Sub.nil _ | (apply Sub.cons; focus ((repeat (first | with_reducible exact Pick.here _ | apply Pick.there)); (first | done | fail))) | with_reducible apply Sub.drop)); first | done | fail)) ?_
                                          refine rs_ag 28 rfl (met_on rfl rfl rfl rfl) rfl rfl (v_nilCheck rfl) ?_
                                          refine rs_ag 29 rfl (met_on rfl rfl rfl rfl) rfl rfl (v_fieldAddr0 T.fld_116_0_0 rfl) ?_
                                          refine rs_vg 30 rfl (met_on rfl rfl rfl rfl) rfl rfl (OpV.mono (v_load T.scal_84 rfl) (fun w hw => by exact sat_cell hw (by (repeat first | with_reducible exact xH | apply xT); first | done | fail) rfl)) (by exact Sat.sub hw (by (repeat (first | with_reducible exact Sub.refl _ | exact Sub.nil _ | (apply Sub.cons; focus ((repeat (first | with_reducible exact Pick.here _ | apply Pick.there)); (first | done | fail))) | with_reducible apply Sub.drop)); first | done | fail)) ?_
                                          refine rs_ag 31 rfl (met_on rfl rfl rfl rfl) rfl rfl (v_nilCheck rfl) ?_
                                          refine rs_ag 32 rfl (met_on rfl rfl rfl rfl) rfl rfl (v_fieldAddr0 T.fld_118_2_2 rfl) ?_
                                          refine rs_vg 33 rfl (met_on rfl rfl rfl rfl) rfl rfl (OpV.mono (v_load T.scal_3 rfl) (fun w hw => by exact sat_cell hw (by (repeat first | with_reducible exact xH | apply xT); first | done | fail) rfl)) (by exact Sat.sub hw (by (repeat (first | with_reducible exact Sub.refl _ | exact Sub.nil _ | (apply Sub.cons; focus ((repeat (first | with_reducible exact Pick.here _ | apply Pick.there)); (first | done | fail))) | with_reducible apply Sub.drop)); first | done | fail)) ?_
                                          refine rs_kg 23 rfl (met_on rfl rfl rfl rfl) (k_callf Try.func65 rfl rfl rfl rfl ?_)
                                          refine Calls.mono (writes_calls p pw (hw.xP (A := PwAt p pw))) ?_
                                          rintro _ w ⟨rfl, hw⟩
                                          refine ⟨_, rfl, ?_⟩
                                          refine ⟨fun _ => (by exact Sat.sub hw (by (repeat (first | with_reducible exact Sub.refl _ | exact Sub.nil _ | (apply Sub.cons; focus ((repeat (first | with_reducible exact Pick.here _ | apply Pick.there)); (first | done | fail))) | with_reducible apply Sub.drop)); first | done | fail)), ?_⟩
                                          refine rs_kvg 34 rfl (met_on rfl rfl rfl rfl) rfl rfl (S' := fun _ => True) trivial (v_eqlT rfl rfl (by rfl)) ?_
                                          refine rs_kv 35 rfl rfl rfl rfl (S' := fun _ => True) trivial (v_pick_true rfl rfl) ?_
                                          refine rs_kv 36 rfl rfl rfl rfl (S' := fun _ => True) trivial (v_move rfl) ?_
                                          refine rs_split (s := 156) rfl (fun g18_36 => ?_) (fun g18_36 => ?_)
                                          · try with_reducible exact ft_elim g18_36
                                            all_goals
                                              try replace g18_36 := of_decide_eq_true g18_36
                                              refine rs_ag 37 rfl (met_on rfl rfl rfl rfl) rfl rfl (v_move rfl) ?_
                                              refine rs_ag 38 rfl (met_on rfl rfl rfl rfl) rfl rfl (v_nilCheck rfl) ?_
                                              refine rs_ag 39 rfl (met_on rfl rfl rfl rfl) rfl rfl (v_fieldAddr0 T.fld_47_0_0 rfl) ?_
                                              refine rs_ag 42 rfl (met_on rfl rfl rfl rfl) rfl rfl (v_move rfl) ?_
                                              refine rs_ag 43 rfl (met_on rfl rfl rfl rfl) rfl rfl (v_nilCheck rfl) ?_
                                              refine rs_ag 44 rfl (met_on rfl rfl rfl rfl) rfl rfl (v_fieldAddr0 T.fld_120_0_0 rfl) ?_
                                              refine rs_vg 40 rfl (met_on rfl rfl rfl rfl) rfl rfl (OpV.mono (v_load T.scal_24 rfl) (fun w hw => by exact sat_cell hw (by (repeat first | with_reducible exact xH | apply xT); first | done | fail) rfl)) (by exact Sat.sub hw (by (repeat (first | with_reducible exact Sub.refl _ | exact Sub.nil _ | (apply Sub.cons; focus ((repeat (first | with_reducible exact Pick.here _ | apply Pick.there)); (first | done | fail))) | with_reducible apply Sub.drop)); first | done | fail)) ?_
                                              refine rs_vg 45 rfl (met_on rfl rfl rfl rfl) rfl rfl (OpV.mono (v_load T.scal_81 rfl) (fun w hw => by exact sat_cell hw (by (repeat first | with_reducible exact xH | apply xT); first | done | fail) rfl)) (by exact Sat.sub hw (by (repeat (first | with_reducible exact Sub.refl _ | exact Sub.nil _ | (apply Sub.cons; focus ((repeat (first | with_reducible exact Pick.here _ | apply Pick.there)); (first | done | fail))) | with_reducible apply Sub.drop)); first | done | fail)) ?_
                                              refine rs_ag 46 rfl (met_on rfl rfl rfl rfl) rfl rfl (v_nilCheck rfl) ?_
                                              refine rs_ag 47 rfl (met_on rfl rfl rfl rfl) rfl rfl (v_fieldAddr0 T.fld_116_3_3 rfl) ?_
                                              refine rs_vg 48 rfl (met_on rfl rfl rfl rfl) rfl rfl (OpV.mono (v_load T.scal_50 rfl) (fun w hw => by exact sat_cell hw (by (repeat first | with_reducible exact xH | apply xT); first | done | fail) rfl)) (by exact Sat.sub hw (by (repeat (first | with_reducible exact Sub.refl _ | exact Sub.nil _ | (apply Sub.cons; focus ((repeat (first | with_reducible exact Pick.here _ | apply Pick.there)); (first | done | fail))) | with_reducible apply Sub.drop)); first | done | fail)) ?_
                                              refine rs_ag 49 rfl (met_on rfl rfl rfl rfl) rfl rfl (v_lenSlice T.sl_50_128_3 rfl) ?_
                                              refine rs_kg 41 rfl (met_on rfl rfl rfl rfl) (k_callf Try.func25 rfl rfl rfl rfl ?_)
                                              refine Calls.mono (mcount_calls m p md (hw.xP (A := MdAt m p md))) ?_
                                              rintro _ w ⟨rfl, hw⟩
                                              refine ⟨_, rfl, ?_⟩
                                              refine ⟨fun _ => (by exact Sat.sub hw (by (repeat (first | with_reducible exact Sub.refl _ | exact Sub.nil _ | (apply Sub.cons; focus ((repeat (first | with_reducible exact Pick.here _ | apply Pick.there)); (first | done | fail))) | with_reducible apply Sub.drop)); first | done | fail)), ?_⟩
                                              refine rs_kvg 50 rfl (met_on rfl rfl rfl rfl) rfl rfl (S' := fun _ => True) trivial (v_eqlT rfl rfl (by omega)) ?_
                                              refine rs_kv 51 rfl rfl rfl rfl (S' := fun _ => True) trivial (v_pick_true rfl rfl) ?_
                                              refine rs_kv 52 rfl rfl rfl rfl (S' := fun _ => True) trivial (v_assign rfl) ?_
                                              refine rs_done (g_le (xK (xS rfl (xS rfl (xS rfl (xS rfl (xS rfl (xS rfl (xS rfl (xS rfl (xS rfl (xS rfl (xS rfl (xS rfl (xS rfl (xS rfl (xS rfl (xS rfl (xS rfl (xS rfl (xS rfl (xS rfl (xS rfl (xS rfl (xS rfl (xS rfl (xS rfl (xS rfl (xS rfl (xS rfl (xS rfl (xS rfl (xS rfl (xS rfl (xS rfl (xS rfl (xS rfl (xS rfl (xS rfl (xS rfl (xS rfl (xS rfl (xS rfl (xS rfl (xS rfl (xS rfl (xS rfl (xS rfl (xS rfl (xS rfl (xS rfl (xS rfl (xS rfl (xS rfl (xS rfl (xS rfl (xS rfl (xS rfl (Fr.le_refl _)))))))))))))))))))))))))))))))))))))))))))))))))))))))))) ?_)
                                              refine g_ret1 Try.func37 rfl rfl ?_
                                              rw [hpe]
                                              exact ⟨rfl, (rm_close rfl rfl rfl rfl rfl (hw.xQ) : Sat E w (RmAt rm p2 md :: pt l (.cells [Value.pointer (some ⟨m, 0, none⟩), .int .i64 o, .slice (some ⟨b, 0, none⟩) (ss : List Sg).length c].toArray 47 (0, 0)) :: OwnSl 104 3 (.slice (some ⟨b, 0, none⟩) (ss).length c) (ss).length ((ss).flatMap Sg.cells) :: MdAt m p md :: PwAt p pw :: pt q (.cells [Value.pointer (some ⟨rm, 0, none⟩), .slice (some ⟨k1, 0, none⟩) (rs : List Sg).length c1, .slice (some ⟨k2, 0, none⟩) (rs : List Sg).length c2, .slice (some ⟨k3, 0, none⟩) (rs : List Sg).length c3].toArray 120 (0, 0)) :: OwnSl 3 1 (.slice (some ⟨k1, 0, none⟩) (rs).length c1) (rs).length ((rs).map fun x => Value.int .i64 x.kind) :: OwnSl 3 1 (.slice (some ⟨k2, 0, none⟩) (rs).length c2) (rs).length ((rs).map fun x => Value.int .i64 x.used) :: OwnSl 3 1 (.slice (some ⟨k3, 0, none⟩) (rs).length c3) (rs).length ((rs).map fun x => Value.int .i64 x.live) :: RwAt p2 ⟨!pw.off, pw.ahead, pw.writes⟩ :: L)).xQ⟩
                                          · try with_reducible exact tf_elim g18_36
                                            all_goals
                                              try replace g18_36 := of_decide_eq_false g18_36
                                              simp at g18_36
                                      · try with_reducible exact tf_elim g18_15
                                        all_goals
                                          try replace g18_15 := of_decide_eq_false g18_15
                                          simp at g18_15
                                  · try with_reducible exact tf_elim g18_8
                                    all_goals
                                      try replace g18_8 := of_decide_eq_false g18_8
                                      simp at g18_8
                              · try with_reducible exact tf_elim g18_1
                                all_goals
                                  try replace g18_1 := of_decide_eq_false g18_1
                                  simp at g18_1
                      · try with_reducible exact tf_elim g14_7
                        all_goals
                          try replace g14_7 := of_decide_eq_false g14_7
                          refine rl_off (met_off rfl rfl rfl rfl rfl) rfl rfl ?_
                          refine rl_off (met_off rfl rfl rfl rfl rfl) rfl rfl ?_
                          refine xV rfl rfl rfl (v_pick_false rfl rfl) ?_
                          refine rl_nil (g_le (xK (xK (xK (xK (xK (xK (xK (xK (xK (xK (xK (xK (Fr.le_refl _))))))))))))) ?_)
                          refine g_cond_false rfl ?_
                          refine g_exit rfl (g_seq ?_)
                          obtain ⟨ra, rc, pa, pc, _, hw⟩ := rm_open (hw.xP (A := RmAt rm p2 md))
                          simp only [hpe] at hw
                          refine g_drawR ord_f37_r18_R14h (by kernel_rfl) T.mixed hw (fun w hw => ?_)
                          refine rs_kv 0 rfl rfl rfl rfl (S' := fun _ => True) trivial (v_move rfl) ?_
                          refine rs_kv 1 rfl rfl rfl rfl (S' := fun _ => True) trivial (v_move rfl) ?_
                          refine rs_split (s := 121) rfl (fun g18_1 => ?_) (fun g18_1 => ?_)
                          · try with_reducible exact ft_elim g18_1
                            all_goals
                              try replace g18_1 := of_decide_eq_true g18_1
                              refine rs_ag 2 rfl (met_on rfl rfl rfl rfl) rfl rfl (v_move rfl) ?_
                              refine rs_ag 4 rfl (met_on rfl rfl rfl rfl) rfl rfl (v_move rfl) ?_
                              refine rs_kg 3 rfl (met_on rfl rfl rfl rfl) (k_callf Try.func23 rfl rfl rfl rfl ?_)
                              refine Calls.mono (free_calls (l := l) (m := m) (b := b) (c := c) (o := o) (ss := ss) hb (hw.xQ)) ?_
                              rintro _ w ⟨fv3, rfl, hw⟩
                              refine ⟨_, rfl, ?_⟩
                              refine ⟨fun _ => (by exact Sat.sub hw (by (repeat (first | with_reducible exact Sub.refl _ | exact Sub.nil _ | (apply Sub.cons; focus ((repeat (first | with_reducible exact Pick.here _ | apply Pick.there)); (first | done | fail))) | with_reducible apply Sub.drop)); first | done | fail)), ?_⟩
                              refine rs_kg 5 rfl (met_on rfl rfl rfl rfl) (k_callf Try.func62 rfl rfl rfl rfl ?_)
                              refine Calls.mono (rof_calls (q := q) (rm := rm) (k1 := k1) (k2 := k2) (k3 := k3) (c1 := c1) (c2 := c2) (c3 := c3) (rs := rs) 1 hrb (hw.xQ)) ?_
                              rw [K.ofS 1]
                              rintro _ w ⟨v1, rfl, hw⟩
                              refine ⟨_, rfl, ?_⟩
                              refine ⟨fun _ => (by exact Sat.sub hw (by (repeat (first | with_reducible exact Sub.refl _ | exact Sub.nil _ | (apply Sub.cons; focus ((repeat (first | with_reducible exact Pick.here _ | apply Pick.there)); (first | done | fail))) | with_reducible apply Sub.drop)); first | done | fail)), ?_⟩
                              refine rs_kg 6 rfl (met_on rfl rfl rfl rfl) (k_callf Try.func29 rfl rfl rfl rfl ?_)
                              refine Calls.mono (same_calls (xs := ofS 1 ss 0) (ys := ofS 1 ss 0) (hw.xQ)) ?_
                              rw [decide_eq_true rfl]
                              rintro _ w ⟨rfl, hw⟩
                              refine ⟨_, rfl, ?_⟩
                              refine ⟨fun _ => (by exact Sat.sub hw (by (repeat (first | with_reducible exact Sub.refl _ | exact Sub.nil _ | (apply Sub.cons; focus ((repeat (first | with_reducible exact Pick.here _ | apply Pick.there)); (first | done | fail))) | with_reducible apply Sub.drop)); first | done | fail)), ?_⟩
                              refine rs_kv 7 rfl rfl rfl rfl (S' := fun _ => True) trivial (v_pick_true rfl rfl) ?_
                              refine rs_kv 8 rfl rfl rfl rfl (S' := fun _ => True) trivial (v_move rfl) ?_
                              refine rs_split (s := 128) rfl (fun g18_8 => ?_) (fun g18_8 => ?_)
                              · try with_reducible exact ft_elim g18_8
                                all_goals
                                  try replace g18_8 := of_decide_eq_true g18_8
                                  refine rs_ag 9 rfl (met_on rfl rfl rfl rfl) rfl rfl (v_move rfl) ?_
                                  refine rs_ag 11 rfl (met_on rfl rfl rfl rfl) rfl rfl (v_move rfl) ?_
                                  refine rs_kg 10 rfl (met_on rfl rfl rfl rfl) (k_callf Try.func27 rfl rfl rfl rfl ?_)
                                  refine Calls.mono (sealed_calls (l := l) (m := m) (b := b) (c := c) (o := o) (ss := ss) hb (hw.xQ)) ?_
                                  rintro _ w ⟨sv3, rfl, hw⟩
                                  refine ⟨_, rfl, ?_⟩
                                  refine ⟨fun _ => (by exact Sat.sub hw (by (repeat (first | with_reducible exact Sub.refl _ | exact Sub.nil _ | (apply Sub.cons; focus ((repeat (first | with_reducible exact Pick.here _ | apply Pick.there)); (first | done | fail))) | with_reducible apply Sub.drop)); first | done | fail)), ?_⟩
                                  refine rs_kg 12 rfl (met_on rfl rfl rfl rfl) (k_callf Try.func62 rfl rfl rfl rfl ?_)
                                  refine Calls.mono (rof_calls (q := q) (rm := rm) (k1 := k1) (k2 := k2) (k3 := k3) (c1 := c1) (c2 := c2) (c3 := c3) (rs := rs) 2 hrb (hw.xQ)) ?_
                                  rw [K.ofS 2]
                                  rintro _ w ⟨v2, rfl, hw⟩
                                  refine ⟨_, rfl, ?_⟩
                                  refine ⟨fun _ => (by exact Sat.sub hw (by (repeat (first | with_reducible exact Sub.refl _ | exact Sub.nil _ | (apply Sub.cons; focus ((repeat (first | with_reducible exact Pick.here _ | apply Pick.there)); (first | done | fail))) | with_reducible apply Sub.drop)); first | done | fail)), ?_⟩
                                  refine rs_kg 13 rfl (met_on rfl rfl rfl rfl) (k_callf Try.func29 rfl rfl rfl rfl ?_)
                                  refine Calls.mono (same_calls (xs := ofS 2 ss 0) (ys := ofS 2 ss 0) (hw.xQ)) ?_
                                  rw [decide_eq_true rfl]
                                  rintro _ w ⟨rfl, hw⟩
                                  refine ⟨_, rfl, ?_⟩
                                  refine ⟨fun _ => (by exact Sat.sub hw (by (repeat (first | with_reducible exact Sub.refl _ | exact Sub.nil _ | (apply Sub.cons; focus ((repeat (first | with_reducible exact Pick.here _ | apply Pick.there)); (first | done | fail))) | with_reducible apply Sub.drop)); first | done | fail)), ?_⟩
                                  refine rs_kv 14 rfl rfl rfl rfl (S' := fun _ => True) trivial (v_pick_true rfl rfl) ?_
                                  refine rs_kv 15 rfl rfl rfl rfl (S' := fun _ => True) trivial (v_move rfl) ?_
                                  refine rs_split (s := 135) rfl (fun g18_15 => ?_) (fun g18_15 => ?_)
                                  · try with_reducible exact ft_elim g18_15
                                    all_goals
                                      try replace g18_15 := of_decide_eq_true g18_15
                                      refine rs_ag 16 rfl (met_on rfl rfl rfl rfl) rfl rfl (v_move rfl) ?_
                                      refine rs_ag 17 rfl (met_on rfl rfl rfl rfl) rfl rfl (v_nilCheck rfl) ?_
                                      refine rs_ag 18 rfl (met_on rfl rfl rfl rfl) rfl rfl (v_fieldAddr0 T.fld_47_0_0 rfl) ?_
                                      refine rs_ag 24 rfl (met_on rfl rfl rfl rfl) rfl rfl (v_move rfl) ?_
                                      refine rs_ag 25 rfl (met_on rfl rfl rfl rfl) rfl rfl (v_nilCheck rfl) ?_
                                      refine rs_ag 26 rfl (met_on rfl rfl rfl rfl) rfl rfl (v_fieldAddr0 T.fld_120_0_0 rfl) ?_
                                      refine rs_vg 19 rfl (met_on rfl rfl rfl rfl) rfl rfl (OpV.mono (v_load T.scal_24 rfl) (fun w hw => by exact sat_cell hw (by (repeat first | with_reducible exact xH | apply xT); first | done | fail) rfl)) (by exact Sat.sub hw (by (repeat (first | with_reducible exact Sub.refl _ | exact Sub.nil _ | (apply Sub.cons; focus ((repeat (first | with_reducible exact Pick.here _ | apply Pick.there)); (first | done | fail))) | with_reducible apply Sub.drop)); first | done | fail)) ?_
                                      refine rs_ag 20 rfl (met_on rfl rfl rfl rfl) rfl rfl (v_nilCheck rfl) ?_
                                      refine rs_ag 21 rfl (met_on rfl rfl rfl rfl) rfl rfl (v_fieldAddr0 T.fld_52_0_0 rfl) ?_
                                      refine rs_vg 22 rfl (met_on rfl rfl rfl rfl) rfl rfl (OpV.mono (v_load T.scal_28 rfl) (fun w hw => by exact md_ptr (hw.xP (A := MdAt m p md)))) (by exact Sat.sub hw (by (repeat (first | with_reducible exact Sub.refl _ | exact Sub.nil _ | (apply Sub.cons; focus ((repeat (first | with_reducible exact Pick.here _ | apply Pick.there)); (first | done | fail))) | with_reducible apply Sub.drop)); first | done | fail)) ?_
                                      refine rs_vg 27 rfl (met_on rfl rfl rfl rfl) rfl rfl (OpV.mono (v_load T.scal_81 rfl) (fun w hw => by exact sat_cell hw (by (repeat first | with_reducible exact xH | apply xT); first | done | fail) rfl)) (by exact Sat.sub hw (by (repeat (first | with_reducible exact Sub.refl _ | exact Sub.nil _ | (apply Sub.cons; focus ((repeat (first | with_reducible exact Pick.here _ | apply Pick.there)); (first | done | fail))) | with_reducible apply Sub.drop)); first | done | fail)) ?_
                                      refine rs_ag 28 rfl (met_on rfl rfl rfl rfl) rfl rfl (v_nilCheck rfl) ?_
                                      refine rs_ag 29 rfl (met_on rfl rfl rfl rfl) rfl rfl (v_fieldAddr0 T.fld_116_0_0 rfl) ?_
                                      refine rs_vg 30 rfl (met_on rfl rfl rfl rfl) rfl rfl (OpV.mono (v_load T.scal_84 rfl) (fun w hw => by exact sat_cell hw (by (repeat first | with_reducible exact xH | apply xT); first | done | fail) rfl)) (by exact Sat.sub hw (by (repeat (first | with_reducible exact Sub.refl _ | exact Sub.nil _ | (apply Sub.cons; focus ((repeat (first | with_reducible exact Pick.here _ | apply Pick.there)); (first | done | fail))) | with_reducible apply Sub.drop)); first | done | fail)) ?_
                                      refine rs_ag 31 rfl (met_on rfl rfl rfl rfl) rfl rfl (v_nilCheck rfl) ?_
                                      refine rs_ag 32 rfl (met_on rfl rfl rfl rfl) rfl rfl (v_fieldAddr0 T.fld_118_2_2 rfl) ?_
                                      refine rs_vg 33 rfl (met_on rfl rfl rfl rfl) rfl rfl (OpV.mono (v_load T.scal_3 rfl) (fun w hw => by exact sat_cell hw (by (repeat first | with_reducible exact xH | apply xT); first | done | fail) rfl)) (by exact Sat.sub hw (by (repeat (first | with_reducible exact Sub.refl _ | exact Sub.nil _ | (apply Sub.cons; focus ((repeat (first | with_reducible exact Pick.here _ | apply Pick.there)); (first | done | fail))) | with_reducible apply Sub.drop)); first | done | fail)) ?_
                                      refine rs_kg 23 rfl (met_on rfl rfl rfl rfl) (k_callf Try.func65 rfl rfl rfl rfl ?_)
                                      refine Calls.mono (writes_calls p pw (hw.xP (A := PwAt p pw))) ?_
                                      rintro _ w ⟨rfl, hw⟩
                                      refine ⟨_, rfl, ?_⟩
                                      refine ⟨fun _ => (by exact Sat.sub hw (by (repeat (first | with_reducible exact Sub.refl _ | exact Sub.nil _ | (apply Sub.cons; focus ((repeat (first | with_reducible exact Pick.here _ | apply Pick.there)); (first | done | fail))) | with_reducible apply Sub.drop)); first | done | fail)), ?_⟩
                                      refine rs_kvg 34 rfl (met_on rfl rfl rfl rfl) rfl rfl (S' := fun _ => True) trivial (v_eqlT rfl rfl (by rfl)) ?_
                                      refine rs_kv 35 rfl rfl rfl rfl (S' := fun _ => True) trivial (v_pick_true rfl rfl) ?_
                                      refine rs_kv 36 rfl rfl rfl rfl (S' := fun _ => True) trivial (v_move rfl) ?_
                                      refine rs_split (s := 156) rfl (fun g18_36 => ?_) (fun g18_36 => ?_)
                                      · try with_reducible exact ft_elim g18_36
                                        all_goals
                                          try replace g18_36 := of_decide_eq_true g18_36
                                          refine rs_ag 37 rfl (met_on rfl rfl rfl rfl) rfl rfl (v_move rfl) ?_
                                          refine rs_ag 38 rfl (met_on rfl rfl rfl rfl) rfl rfl (v_nilCheck rfl) ?_
                                          refine rs_ag 39 rfl (met_on rfl rfl rfl rfl) rfl rfl (v_fieldAddr0 T.fld_47_0_0 rfl) ?_
                                          refine rs_ag 42 rfl (met_on rfl rfl rfl rfl) rfl rfl (v_move rfl) ?_
                                          refine rs_ag 43 rfl (met_on rfl rfl rfl rfl) rfl rfl (v_nilCheck rfl) ?_
                                          refine rs_ag 44 rfl (met_on rfl rfl rfl rfl) rfl rfl (v_fieldAddr0 T.fld_120_0_0 rfl) ?_
                                          refine rs_vg 40 rfl (met_on rfl rfl rfl rfl) rfl rfl (OpV.mono (v_load T.scal_24 rfl) (fun w hw => by exact sat_cell hw (by (repeat first | with_reducible exact xH | apply xT); first | done | fail) rfl)) (by exact Sat.sub hw (by (repeat (first | with_reducible exact Sub.refl _ | exact Sub.nil _ | (apply Sub.cons; focus ((repeat (first | with_reducible exact Pick.here _ | apply Pick.there)); (first | done | fail))) | with_reducible apply Sub.drop)); first | done | fail)) ?_
                                          refine rs_vg 45 rfl (met_on rfl rfl rfl rfl) rfl rfl (OpV.mono (v_load T.scal_81 rfl) (fun w hw => by exact sat_cell hw (by (repeat first | with_reducible exact xH | apply xT); first | done | fail) rfl)) (by exact Sat.sub hw (by (repeat (first | with_reducible exact Sub.refl _ | exact Sub.nil _ | (apply Sub.cons; focus ((repeat (first | with_reducible exact Pick.here _ | apply Pick.there)); (first | done | fail))) | with_reducible apply Sub.drop)); first | done | fail)) ?_
                                          refine rs_ag 46 rfl (met_on rfl rfl rfl rfl) rfl rfl (v_nilCheck rfl) ?_
                                          refine rs_ag 47 rfl (met_on rfl rfl rfl rfl) rfl rfl (v_fieldAddr0 T.fld_116_3_3 rfl) ?_
                                          refine rs_vg 48 rfl (met_on rfl rfl rfl rfl) rfl rfl (OpV.mono (v_load T.scal_50 rfl) (fun w hw => by exact sat_cell hw (by (repeat first | with_reducible exact xH | apply xT); first | done | fail) rfl)) (by exact Sat.sub hw (by (repeat (first | with_reducible exact Sub.refl _ | exact Sub.nil _ | (apply Sub.cons; focus ((repeat (first | with_reducible exact Pick.here _ | apply Pick.there)); (first | done | fail))) | with_reducible apply Sub.drop)); first | done | fail)) ?_
                                          refine rs_ag 49 rfl (met_on rfl rfl rfl rfl) rfl rfl (v_lenSlice T.sl_50_128_3 rfl) ?_
                                          refine rs_kg 41 rfl (met_on rfl rfl rfl rfl) (k_callf Try.func25 rfl rfl rfl rfl ?_)
                                          refine Calls.mono (mcount_calls m p md (hw.xP (A := MdAt m p md))) ?_
                                          rintro _ w ⟨rfl, hw⟩
                                          refine ⟨_, rfl, ?_⟩
                                          refine ⟨fun _ => (by exact Sat.sub hw (by (repeat (first | with_reducible exact Sub.refl _ | exact Sub.nil _ | (apply Sub.cons; focus ((repeat (first | with_reducible exact Pick.here _ | apply Pick.there)); (first | done | fail))) | with_reducible apply Sub.drop)); first | done | fail)), ?_⟩
                                          refine rs_kvg 50 rfl (met_on rfl rfl rfl rfl) rfl rfl (S' := fun _ => True) trivial (v_eqlT rfl rfl (by omega)) ?_
                                          refine rs_kv 51 rfl rfl rfl rfl (S' := fun _ => True) trivial (v_pick_true rfl rfl) ?_
                                          refine rs_kv 52 rfl rfl rfl rfl (S' := fun _ => True) trivial (v_assign rfl) ?_
                                          refine rs_done (g_le (xK (xS rfl (xS rfl (xS rfl (xS rfl (xS rfl (xS rfl (xS rfl (xS rfl (xS rfl (xS rfl (xS rfl (xS rfl (xS rfl (xS rfl (xS rfl (xS rfl (xS rfl (xS rfl (xS rfl (xS rfl (xS rfl (xS rfl (xS rfl (xS rfl (xS rfl (xS rfl (xS rfl (xS rfl (xS rfl (xS rfl (xS rfl (xS rfl (xS rfl (xS rfl (xS rfl (xS rfl (xS rfl (xS rfl (xS rfl (xS rfl (xS rfl (xS rfl (xS rfl (xS rfl (xS rfl (xS rfl (xS rfl (xS rfl (xS rfl (xS rfl (xS rfl (xS rfl (xS rfl (xS rfl (xS rfl (xS rfl (Fr.le_refl _)))))))))))))))))))))))))))))))))))))))))))))))))))))))))) ?_)
                                          refine g_ret1 Try.func37 rfl rfl ?_
                                          rw [hpe]
                                          exact ⟨rfl, (rm_close rfl rfl rfl rfl rfl (hw.xQ) : Sat E w (RmAt rm p2 md :: pt l (.cells [Value.pointer (some ⟨m, 0, none⟩), .int .i64 o, .slice (some ⟨b, 0, none⟩) (ss : List Sg).length c].toArray 47 (0, 0)) :: OwnSl 104 3 (.slice (some ⟨b, 0, none⟩) (ss).length c) (ss).length ((ss).flatMap Sg.cells) :: MdAt m p md :: PwAt p pw :: pt q (.cells [Value.pointer (some ⟨rm, 0, none⟩), .slice (some ⟨k1, 0, none⟩) (rs : List Sg).length c1, .slice (some ⟨k2, 0, none⟩) (rs : List Sg).length c2, .slice (some ⟨k3, 0, none⟩) (rs : List Sg).length c3].toArray 120 (0, 0)) :: OwnSl 3 1 (.slice (some ⟨k1, 0, none⟩) (rs).length c1) (rs).length ((rs).map fun x => Value.int .i64 x.kind) :: OwnSl 3 1 (.slice (some ⟨k2, 0, none⟩) (rs).length c2) (rs).length ((rs).map fun x => Value.int .i64 x.used) :: OwnSl 3 1 (.slice (some ⟨k3, 0, none⟩) (rs).length c3) (rs).length ((rs).map fun x => Value.int .i64 x.live) :: RwAt p2 ⟨!pw.off, pw.ahead, pw.writes⟩ :: L)).xQ⟩
                                      · try with_reducible exact tf_elim g18_36
                                        all_goals
                                          try replace g18_36 := of_decide_eq_false g18_36
                                          simp at g18_36
                                  · try with_reducible exact tf_elim g18_15
                                    all_goals
                                      try replace g18_15 := of_decide_eq_false g18_15
                                      simp at g18_15
                              · try with_reducible exact tf_elim g18_8
                                all_goals
                                  try replace g18_8 := of_decide_eq_false g18_8
                                  simp at g18_8
                          · try with_reducible exact tf_elim g18_1
                            all_goals
                              try replace g18_1 := of_decide_eq_false g18_1
                              simp at g18_1
          · try with_reducible exact tf_elim g4_16
            all_goals
              try replace g4_16 := of_decide_eq_false g4_16
              simp at g4_16
      · try with_reducible exact tf_elim g4_10
        all_goals
          try replace g4_10 := of_decide_eq_false g4_10
          simp at g4_10
  · try with_reducible exact tf_elim g4_4
    all_goals
      try replace g4_4 := of_decide_eq_false g4_4
      simp at g4_4
end Go.Proofs.Ytipdklbedpkobaa
