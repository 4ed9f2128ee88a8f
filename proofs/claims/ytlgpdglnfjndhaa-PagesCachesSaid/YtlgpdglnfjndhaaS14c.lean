/-
  The log (layer 14): Append.
-/
import Derived.Test.YtlgpdglnfjndhaaS14b
namespace Go.Proofs.Ytlgpdglnfjndhaa
set_option maxRecDepth 8000
set_option linter.unusedSimpArgs false
set_option linter.unusedVariables false
open Go Xe Go.Lib
def sgAt (ss : List Sg) (i : Int) : Sg := (ss[i.toNat]?).getD ⟨0, 0, 0⟩
/-- Where n bytes more are to lie. -/
def tgtL (size o : Int) (ss : List Sg) (n : Int) : Int × Int := if n > size - (sgAt ss o).used then (sgidx (fun x : Sg => decide (x.kind = 1)) ss 0, 0) else (o, (sgAt ss o).used)
def putL (o : Int) (ss : List Sg) (to at_ n : Int) : List Sg :=
  (ss.set o.toNat ⟨2, (sgAt ss o).used, (sgAt ss o).live⟩).set to.toNat ⟨3, at_ + n, (sgAt (ss.set o.toNat ⟨2, (sgAt ss o).used, (sgAt ss o).live⟩) to).live⟩
structure Ap where
  at_ : Int × Int × Int
  bad : Int
  o : Int
  ss : List Sg
  md : Md
  pw : Pw
def appL (o : Int) (ss : List Sg) (md : Md) (pw : Pw) (v : ByteArray) : Ap :=
  if v = ByteArray.empty ∨ (v.size : Int) > md.size then ⟨(0, 0, 0), 2, o, ss, md, pw⟩
  else if (tgtL md.size o ss v.size).1 < 0 then ⟨(0, 0, 0), 140, o, ss, md, pw⟩
  else if (md.write pw (tgtL md.size o ss v.size).1 (tgtL md.size o ss v.size).2 v).1 ≠ 0 then ⟨(0, 0, 0), (md.write pw (tgtL md.size o ss v.size).1 (tgtL md.size o ss v.size).2 v).1, o, ss, (md.write pw (tgtL md.size o ss v.size).1 (tgtL md.size o ss v.size).2 v).2.1, (md.write pw (tgtL md.size o ss v.size).1 (tgtL md.size o ss v.size).2 v).2.2⟩
  else ⟨((tgtL md.size o ss v.size).1, (tgtL md.size o ss v.size).2, v.size), 0, (tgtL md.size o ss v.size).1, putL o ss (tgtL md.size o ss v.size).1 (tgtL md.size o ss v.size).2 v.size, (md.write pw (tgtL md.size o ss v.size).1 (tgtL md.size o ss v.size).2 v).2.1, (md.write pw (tgtL md.size o ss v.size).1 (tgtL md.size o ss v.size).2 v).2.2⟩
theorem sgidx_bound {α : Type} {p : α → Bool} : ∀ {l : List α} {i : Int}, 0 ≤ i → -1 ≤ sgidx p l i ∧ sgidx p l i < i + l.length ∧ (0 ≤ sgidx p l i → i ≤ sgidx p l i)
  | [], i, h => by simp [sgidx]; omega
  | x :: xs, i, h => by
    simp only [sgidx]
    split
    · simp only [List.length_cons]; omega
    · have := sgidx_bound (p := p) (l := xs) (i := i + 1) (by omega)
      simp only [List.length_cons]; omega
theorem ord_f29_r3_S14c : orderOfB Try.f29 3 [] (.a 0 (.a 1 (.a 2 (.a 4 (.a 5 (.a 6 (.a 8 (.a 9 (.a 10 (.v 3 (.a 15 (.v 7 (.k 11 (.k 12 (.k 13 (.k 14 (.k 16 .done))))))))))))))))) = true := by kernel_rfl
theorem ord_f29_r11_S14c : orderOfB Try.f29 11 [10] (.a 0 (.a 1 (.a 2 (.a 4 (.a 5 (.a 6 (.v 3 (.k 7 (.k 8 (.k 9 (.k 10 .done))))))))))) = true := by kernel_rfl
theorem ord_f29_r13_S14c : orderOfB Try.f29 13 [16, 19] (.a 0 (.a 1 (.a 2 (.a 4 (.a 5 (.a 6 (.a 7 (.a 9 (.a 10 (.a 11 (.a 12 (.a 13 (.v 3 (.k 8 (.k 14 (.k 15 (.k 16 (.k 17 (.k 18 (.k 19 .done)))))))))))))))))))) = true := by kernel_rfl
set_option maxHeartbeats 2000000 in
theorem append_calls {E : Env} {w : World} {L : List As} {l m p b c : Nat} {o : Int} {ss : List Sg} {md : Md} {pw : Pw} (v : ByteArray) (hlen : ss.length = md.segs.length) (ho : 0 ≤ o ∧ o < ss.length) (hu : ∀ x ∈ ss, 0 ≤ x.used ∧ x.used ≤ md.size) (hpw : pw.ok) (hpl : md.past.length ≤ 4000000000000)
    (hw : Sat E w (pt l (.cells [Value.pointer (some ⟨m, 0, none⟩), .int .i64 o, .slice (some ⟨b, 0, none⟩) (ss : List Sg).length c].toArray 39 (0, 0)) :: OwnSl 108 3 (.slice (some ⟨b, 0, none⟩) (ss).length c) (ss).length ((ss).flatMap Sg.cells) :: MdAt m p md :: PwAt p pw :: L)) :
    Calls Try.prog 29 #[.pointer (some ⟨l, 0, none⟩), .string v] w fun e w' => e = .returned (.tuple #[.agg #[.int .i64 (appL o ss md pw v).at_.1, .int .i64 (appL o ss md pw v).at_.2.1, .int .i64 (appL o ss md pw v).at_.2.2], .int .i64 (appL o ss md pw v).bad]) ∧
      Sat E w' (pt l (.cells [Value.pointer (some ⟨m, 0, none⟩), .int .i64 ((appL o ss md pw v).o), .slice (some ⟨b, 0, none⟩) (((appL o ss md pw v).ss) : List Sg).length c].toArray 39 (0, 0)) :: OwnSl 108 3 (.slice (some ⟨b, 0, none⟩) (((appL o ss md pw v).ss)).length c) (((appL o ss md pw v).ss)).length ((((appL o ss md pw v).ss)).flatMap Sg.cells) :: MdAt m p (appL o ss md pw v).md :: PwAt p (appL o ss md pw v).pw :: L) := by
  have hok : md.ok := (md_open (hw.xP)).1
  obtain ⟨hm1, hm2, hm3, hm4, _⟩ := hok
  obtain ⟨x, hx⟩ : ∃ x, ss[o.toNat]? = some x := ⟨_, List.getElem?_eq_getElem (by omega)⟩
  have hxa : sgAt ss o = x := by unfold sgAt; rw [hx]; rfl
  have hxu := hu x (List.mem_of_getElem? hx)
  have hsub := subAt_flat (f := Sg.cells) (sz := 3) (fun _ => rfl) hx
  dsimp only [Sg.cells] at hsub
  have hib := sgidx_bound (p := fun x : Sg => decide (x.kind = 1)) (l := ss) (i := 0) (by omega)
  unfold appL
  refine calls_of_g (n := 104) Try.func29 rfl rfl rfl ?_
  change G _ _ _ _ _ [(0, _), (1, _)] _
  refine g_seq ?_
  refine g_region ?_
  refine rl_k rfl (k_alloc hw T.zero_84 rfl rfl (fun bk0_0 w hw => ?_))
  refine xV rfl rfl rfl (v_assign rfl) ?_
  refine rl_nil (g_le (xK (xK (Fr.le_refl _))) ?_)
  refine g_seq (g_seq ?_)
  refine g_region ?_
  refine xV rfl rfl rfl (v_move rfl) ?_
  refine xV rfl rfl rfl (v_eqlStr rfl rfl) ?_
  refine xV rfl rfl rfl (v_move rfl) ?_
  refine rl_split (s := 11) rfl (fun g1_2 => ?_) (fun g1_2 => ?_)
  · try with_reducible exact ft_elim g1_2
    all_goals
      try replace g1_2 := of_decide_eq_true g1_2
      refine rl_off (met_off rfl rfl rfl rfl rfl) rfl rfl ?_
      refine rl_off (met_off rfl rfl rfl rfl rfl) rfl rfl ?_
      refine rl_off (met_off rfl rfl rfl rfl rfl) rfl rfl ?_
      refine rl_off (met_off rfl rfl rfl rfl rfl) rfl rfl ?_
      refine rl_off (met_off rfl rfl rfl rfl rfl) rfl rfl ?_
      refine rl_off (met_off rfl rfl rfl rfl rfl) rfl rfl ?_
      refine rl_off (met_off rfl rfl rfl rfl rfl) rfl rfl ?_
      refine rl_off (met_off rfl rfl rfl rfl rfl) rfl rfl ?_
      refine xV rfl rfl rfl (v_pick_true rfl rfl) ?_
      refine rl_nil (g_le (xK (xS rfl (xS rfl (xS rfl (xS rfl (xS rfl (xS rfl (xS rfl (xS rfl (xS rfl (xS rfl (xS rfl (xS rfl (Fr.le_refl _)))))))))))))) ?_)
      refine g_cond_true rfl ?_
      refine g_seq ?_
      refine g_region ?_
      refine xV rfl rfl rfl (v_build rfl (T.build_84 ..)) ?_
      refine rl_k rfl (k_storeWhole hw T.agg_84_3 rfl rfl (by simp [Value.oneCell']) rfl (by (repeat first | with_reducible exact xH | apply xT); first | done | fail) rfl (fun w hw => ?_))
      refine xV rfl rfl rfl (v_assign rfl) ?_
      refine rl_nil (g_le (xK (xS rfl (Fr.le_refl _))) ?_)
      refine g_res2 Try.func29 rfl ⟨_, rfl, holds_agg (vs := [_, _, _]) T.agg_84_3 rfl (by exact sat_cells hw (by (repeat first | with_reducible exact xH | apply xT); first | done | fail) ⟨rfl, rfl, rfl, trivial⟩)⟩ rfl ?_
      have hc : v = ByteArray.empty ∨ (v.size : Int) > md.size := by exact .inl g1_2
      rw [if_pos hc]
      exact ⟨rfl, hw.xQ⟩
  · try with_reducible exact tf_elim g1_2
    all_goals
      try replace g1_2 := of_decide_eq_false g1_2
      refine rl_vg (met_on rfl rfl rfl rfl) rfl rfl (S := fun _ => True) trivial (v_move rfl) ?_
      refine rl_vg (met_on rfl rfl rfl rfl) rfl rfl (S := fun _ => True) trivial (v_lenStr T.str_9 rfl) ?_
      refine rl_vg (met_on rfl rfl rfl rfl) rfl rfl (S := fun _ => True) trivial (v_move rfl) ?_
      refine rl_vg (met_on rfl rfl rfl rfl) rfl rfl (S := fun _ => True) trivial (v_nilCheck rfl) ?_
      refine rl_vg (met_on rfl rfl rfl rfl) rfl rfl (S := fun _ => True) trivial (v_fieldAddr0 T.fld_39_0_0 rfl) ?_
      refine rl_vg (met_on rfl rfl rfl rfl) rfl rfl (by exact sat_cell hw (by (repeat first | with_reducible exact xH | apply xT); first | done | fail) rfl) (v_load T.scal_36 rfl) ?_
      refine rl_kg (met_on rfl rfl rfl rfl) (k_callf Try.func47 rfl rfl rfl rfl ?_)
      refine Calls.mono (msize_calls m p md (hw.xP)) ?_
      rintro _ w ⟨rfl, hw⟩
      refine ⟨_, rfl, ?_⟩
      refine rl_vg (met_on rfl rfl rfl rfl) rfl rfl (S := fun _ => True) trivial (v_gtr rfl rfl) ?_
      refine xV rfl rfl rfl (v_pick_false rfl rfl) ?_
      refine rl_nil (g_le (xK (xS rfl (xS rfl (xS rfl (xS rfl (xS rfl (xS rfl (xS rfl (xS rfl (xS rfl (xS rfl (xS rfl (xS rfl (Fr.le_refl _)))))))))))))) ?_)
      refine g_cond rfl (fun h1 => ?_) (fun h1 => ?_)
      · try with_reducible exact ft_elim h1
        all_goals
          try replace h1 := of_decide_eq_true h1
          refine g_seq ?_
          refine g_region ?_
          refine xV rfl rfl rfl (v_build rfl (T.build_84 ..)) ?_
          refine rl_k rfl (k_storeWhole hw T.agg_84_3 rfl rfl (by simp [Value.oneCell']) rfl (by (repeat first | with_reducible exact xH | apply xT); first | done | fail) rfl (fun w hw => ?_))
          refine xV rfl rfl rfl (v_assign rfl) ?_
          refine rl_nil (g_le (xK (xS rfl (Fr.le_refl _))) ?_)
          refine g_res2 Try.func29 rfl ⟨_, rfl, holds_agg (vs := [_, _, _]) T.agg_84_3 rfl (by exact sat_cells hw (by (repeat first | with_reducible exact xH | apply xT); first | done | fail) ⟨rfl, rfl, rfl, trivial⟩)⟩ rfl ?_
          have hc : v = ByteArray.empty ∨ (v.size : Int) > md.size := by exact .inr (by omega)
          rw [if_pos hc]
          exact ⟨rfl, hw.xQ⟩
      · try with_reducible exact tf_elim h1
        all_goals
          try replace h1 := of_decide_eq_false h1
          refine g_skip (g_seq ?_)
          rw [if_neg (by rintro (h | h); exact g1_2 h; omega)]
          refine g_drawR ord_f29_r3_S14c (by kernel_rfl) T.mixed hw (fun w hw => ?_)
          refine rs_a 0 rfl rfl rfl rfl (v_move rfl) ?_
          refine rs_a 1 rfl rfl rfl rfl (v_nilCheck rfl) ?_
          refine rs_a 2 rfl rfl rfl rfl (v_fieldAddr0 T.fld_39_1_1 rfl) ?_
          refine rs_a 4 rfl rfl rfl rfl (v_move rfl) ?_
          refine rs_a 5 rfl rfl rfl rfl (v_nilCheck rfl) ?_
          refine rs_a 6 rfl rfl rfl rfl (v_fieldAddr0 T.fld_39_2_2 rfl) ?_
          refine rs_a 8 rfl rfl rfl rfl (v_move rfl) ?_
          refine rs_a 9 rfl rfl rfl rfl (v_nilCheck rfl) ?_
          refine rs_a 10 rfl rfl rfl rfl (v_fieldAddr0 T.fld_39_1_1 rfl) ?_
          refine rs_v 3 rfl rfl rfl rfl (OpV.mono (v_load T.scal_3 rfl) (fun w hw => by exact sat_cell hw (by (repeat first | with_reducible exact xH | apply xT); first | done | fail) rfl)) (by exact hw) ?_
          refine rs_a 15 rfl rfl rfl rfl (v_assign rfl) ?_
          refine rs_v 7 rfl rfl rfl rfl (OpV.mono (v_load T.scal_37 rfl) (fun w hw => by exact sat_cell hw (by (repeat first | with_reducible exact xH | apply xT); first | done | fail) rfl)) (by exact hw) ?_
          refine rs_kv 11 rfl rfl rfl rfl (by exact sat_cell hw (by (repeat first | with_reducible exact xH | apply xT); first | done | fail) rfl) (v_load T.scal_3 rfl) ?_
          refine rs_kv 12 rfl rfl rfl rfl (S' := fun _ => True) trivial (v_indexAddr T.sl_37_108_3 rfl rfl (by omega) (by omega)) ?_
          refine rs_kv 13 rfl rfl rfl rfl (S' := fun _ => True) trivial (v_fieldAddr T.fld_108_1_1 rfl) ?_
          refine rs_kv 14 rfl rfl rfl rfl (by exact own_at hw (by (repeat first | with_reducible exact xH | apply xT); first | done | fail) (by assumption) rfl) (v_load T.scal_3 rfl) ?_
          refine rs_kv 16 rfl rfl rfl rfl (S' := fun _ => True) trivial (v_assign rfl) ?_
          refine rs_done (g_le (xK (xS rfl (xS rfl (xS rfl (xS rfl (xS rfl (xK (xS rfl (xS rfl (xS rfl (xS rfl (xS rfl (xS rfl (xS rfl (xS rfl (xS rfl (xS rfl (Fr.le_refl _)))))))))))))))))) ?_)
          refine g_seq (g_seq ?_)
          refine g_region ?_
          refine xV rfl rfl rfl (v_move rfl) ?_
          refine xV rfl rfl rfl (v_lenStr T.str_9 rfl) ?_
          refine xV rfl rfl rfl (v_move rfl) ?_
          refine xV rfl rfl rfl (v_nilCheck rfl) ?_
          refine xV rfl rfl rfl (v_fieldAddr0 T.fld_39_0_0 rfl) ?_
          refine rl_v rfl rfl rfl (by exact sat_cell hw (by (repeat first | with_reducible exact xH | apply xT); first | done | fail) rfl) (v_load T.scal_36 rfl) ?_
          refine rl_k rfl (k_callf Try.func47 rfl rfl rfl rfl ?_)
          refine Calls.mono (msize_calls m p md (hw.xP)) ?_
          rintro _ w ⟨rfl, hw⟩
          refine ⟨_, rfl, ?_⟩
          refine xV rfl rfl rfl (v_move rfl) ?_
          refine xV rfl rfl rfl (v_sub rfl rfl (by omega)) ?_
          refine xV rfl rfl rfl (v_gtr rfl rfl) ?_
          refine rl_nil (g_le (xK (xS rfl (xS rfl (xS rfl (xS rfl (xS rfl (xS rfl (xS rfl (xS rfl (xS rfl (Fr.le_refl _))))))))))) ?_)
          refine g_cutc (σ := Int × Int) (fun C x => (6, .int .i64 x.1) :: (7, .int .i64 x.2) :: C) [(0, _), (1, _), (4, _), (5, _)] (by repeat (first | exact Fr.le_nil _ | refine Fr.le_cons rfl ?_)) (fun z w => tgtL md.size o ss v.size = z ∧ 0 ≤ z.1 ∧ z.1 < ss.length ∧ 0 ≤ z.2 ∧ z.2 ≤ md.size ∧ Sat E w (pt bk0_0 (.cells [Value.int .i64 0, .int .i64 0, .int .i64 0].toArray 84 (0, 0)) :: pt l (.cells [Value.pointer (some ⟨m, 0, none⟩), .int .i64 o, .slice (some ⟨b, 0, none⟩) (ss : List Sg).length c].toArray 39 (0, 0)) :: OwnSl 108 3 (.slice (some ⟨b, 0, none⟩) (ss).length c) (ss).length ((ss).flatMap Sg.cells) :: MdAt m p md :: PwAt p pw :: L)) ?_ ?_
          · skip
            rintro ⟨to, at_⟩ w ⟨htg, ht0, ht1, ha0, ha1, hw⟩
            rw [htg]
            dsimp only at ht0 ht1 ha0 ha1 hw ⊢
            all_goals
              refine g_seq (g_seq ?_)
              refine g_region ?_
              refine xV rfl rfl rfl (v_move rfl) ?_
              refine xV rfl rfl rfl (v_nilCheck rfl) ?_
              refine xV rfl rfl rfl (v_fieldAddr0 T.fld_39_0_0 rfl) ?_
              refine rl_v rfl rfl rfl (by exact sat_cell hw (by (repeat first | with_reducible exact xH | apply xT); first | done | fail) rfl) (v_load T.scal_36 rfl) ?_
              refine xV rfl rfl rfl (v_move rfl) ?_
              refine xV rfl rfl rfl (v_move rfl) ?_
              refine xV rfl rfl rfl (v_move rfl) ?_
              refine rl_k rfl (k_callf Try.func15 rfl rfl rfl rfl ?_)
              refine Calls.mono (mwrite_calls m p md pw to at_ v hpw hpl ((hw.xP (A := PwAt p pw)).xP (A := MdAt m p md))) ?_
              generalize md.write pw to at_ v = r
              rintro _ w ⟨rfl, hw⟩
              refine ⟨_, rfl, ?_⟩
              refine xV rfl rfl rfl (v_assign rfl) ?_
              refine rl_nil (g_le (xK (xS rfl (xS rfl (xS rfl (xS rfl (xS rfl (xS rfl (xS rfl (xS rfl (Fr.le_refl _)))))))))) ?_)
              refine g_seq ?_
              refine g_region ?_
              refine xV rfl rfl rfl (v_move rfl) ?_
              refine xV rfl rfl rfl (v_neq rfl rfl) ?_
              refine rl_nil (g_le (xK (xS rfl (Fr.le_refl _))) ?_)
              refine g_cond rfl (fun h4 => ?_) (fun h4 => ?_)
              · try with_reducible exact ft_elim h4
                all_goals
                  try replace h4 := of_decide_eq_true h4
                  refine g_seq ?_
                  refine g_region ?_
                  refine xV rfl rfl rfl (v_build rfl (T.build_84 ..)) ?_
                  refine xV rfl rfl rfl (v_move rfl) ?_
                  refine rl_k rfl (k_storeWhole hw T.agg_84_3 rfl rfl (by simp [Value.oneCell']) rfl (by (repeat first | with_reducible exact xH | apply xT); first | done | fail) rfl (fun w hw => ?_))
                  refine xV rfl rfl rfl (v_assign rfl) ?_
                  refine rl_nil (g_le (xK (xS rfl (xS rfl (Fr.le_refl _)))) ?_)
                  refine g_res2 Try.func29 rfl ⟨_, rfl, holds_agg (vs := [_, _, _]) T.agg_84_3 rfl (by exact sat_cells hw (by (repeat first | with_reducible exact xH | apply xT); first | done | fail) ⟨rfl, rfl, rfl, trivial⟩)⟩ rfl ?_
                  rw [if_neg (by omega), if_pos (by omega)]
                  exact ⟨rfl, hw.xQ⟩
              · try with_reducible exact tf_elim h4
                all_goals
                  try replace h4 := of_decide_eq_false h4
                  rw [if_neg (by omega), if_neg (by omega)]
                  refine g_skip (g_seq ?_)
                  have hst : 0 + o.toNat * 3 + 0 < (ss.flatMap Sg.cells).length := by rw [sg_len]; omega
                  refine g_drawR ord_f29_r11_S14c (by kernel_rfl) T.mixed hw (fun w hw => ?_)
                  refine rs_a 0 rfl rfl rfl rfl (v_move rfl) ?_
                  refine rs_a 1 rfl rfl rfl rfl (v_nilCheck rfl) ?_
                  refine rs_a 2 rfl rfl rfl rfl (v_fieldAddr0 T.fld_39_2_2 rfl) ?_
                  refine rs_a 4 rfl rfl rfl rfl (v_move rfl) ?_
                  refine rs_a 5 rfl rfl rfl rfl (v_nilCheck rfl) ?_
                  refine rs_a 6 rfl rfl rfl rfl (v_fieldAddr0 T.fld_39_1_1 rfl) ?_
                  refine rs_v 3 rfl rfl rfl rfl (OpV.mono (v_load T.scal_37 rfl) (fun w hw => by exact sat_cell hw (by (repeat first | with_reducible exact xH | apply xT); first | done | fail) rfl)) (by exact hw) ?_
                  refine rs_kv 7 rfl rfl rfl rfl (by exact sat_cell hw (by (repeat first | with_reducible exact xH | apply xT); first | done | fail) rfl) (v_load T.scal_3 rfl) ?_
                  refine rs_kv 8 rfl rfl rfl rfl (S' := fun _ => True) trivial (v_indexAddr T.sl_37_108_3 rfl rfl (by omega) (by omega)) ?_
                  refine rs_kv 9 rfl rfl rfl rfl (S' := fun _ => True) trivial (v_fieldAddr T.fld_108_0_0 rfl) ?_
                  refine rs_k 10 rfl rfl (k_storeOwn hw T.scal_3 rfl rfl rfl (by (repeat first | with_reducible exact xH | apply xT); first | done | fail) (by assumption) (fun w hw => ?_))
                  refine ⟨fun hn => absurd (by decide) hn, ?_⟩
                  refine rs_done (g_le (xS rfl (xS rfl (xS rfl (xS rfl (xS rfl (xS rfl (xS rfl (xS rfl (xS rfl (xS rfl (Fr.le_refl _))))))))))) ?_)
                  refine g_seq ?_
                  rw [show 0 + o.toNat * 3 + 0 = o.toNat * 3 + 0 by omega, sg_set (y := ⟨2, x.used, x.live⟩) hx (by omega) rfl] at hw
                  have hl1 : (ss.set o.toNat ⟨2, x.used, x.live⟩).length = ss.length := List.length_set
                  generalize hs1 : ss.set o.toNat ⟨2, x.used, x.live⟩ = s1 at hw hl1
                  obtain ⟨y, hy⟩ : ∃ y, s1[to.toNat]? = some y := ⟨_, List.getElem?_eq_getElem (by omega)⟩
                  refine g_region ?_
                  refine xV rfl rfl rfl (v_move rfl) ?_
                  refine xV rfl rfl rfl (v_move rfl) ?_
                  refine xV rfl rfl rfl (v_nilCheck rfl) ?_
                  refine xV rfl rfl rfl (v_fieldAddr0 T.fld_39_1_1 rfl) ?_
                  refine rl_k rfl (k_store hw T.scal_3 rfl rfl rfl (by (repeat first | with_reducible exact xH | apply xT); first | done | fail) rfl (by simp only [List.set, Int.reduceToNat, Nat.reduceMul, Nat.reduceAdd]; rfl) (fun w hw => ?_))
                  refine rl_nil (g_le (xS rfl (xS rfl (xS rfl (xS rfl (Fr.le_refl _))))) ?_)
                  refine g_seq ?_
                  have hst3 : 0 + to.toNat * 3 + 0 < (s1.flatMap Sg.cells).length := by rw [sg_len]; omega
                  have hst4 : 0 + to.toNat * 3 + 1 < ((s1.flatMap Sg.cells).set (0 + to.toNat * 3 + 0) (Value.int .i64 3)).length := by rw [List.length_set, sg_len]; omega
                  refine g_drawR ord_f29_r13_S14c (by kernel_rfl) T.mixed hw (fun w hw => ?_)
                  refine rs_a 0 rfl rfl rfl rfl (v_move rfl) ?_
                  refine rs_a 1 rfl rfl rfl rfl (v_nilCheck rfl) ?_
                  refine rs_a 2 rfl rfl rfl rfl (v_fieldAddr0 T.fld_39_2_2 rfl) ?_
                  refine rs_a 4 rfl rfl rfl rfl (v_move rfl) ?_
                  refine rs_a 5 rfl rfl rfl rfl (v_move rfl) ?_
                  refine rs_a 6 rfl rfl rfl rfl (v_nilCheck rfl) ?_
                  refine rs_a 7 rfl rfl rfl rfl (v_fieldAddr0 T.fld_39_2_2 rfl) ?_
                  refine rs_a 9 rfl rfl rfl rfl (v_move rfl) ?_
                  refine rs_a 10 rfl rfl rfl rfl (v_move rfl) ?_
                  refine rs_a 11 rfl rfl rfl rfl (v_move rfl) ?_
                  refine rs_a 12 rfl rfl rfl rfl (v_lenStr T.str_9 rfl) ?_
                  refine rs_a 13 rfl rfl rfl rfl (v_add rfl rfl (by omega)) ?_
                  refine rs_v 3 rfl rfl rfl rfl (OpV.mono (v_load T.scal_37 rfl) (fun w hw => by exact sat_cell hw (by (repeat first | with_reducible exact xH | apply xT); first | done | fail) rfl)) (by exact hw) ?_
                  refine rs_kv 8 rfl rfl rfl rfl (by exact sat_cell hw (by (repeat first | with_reducible exact xH | apply xT); first | done | fail) rfl) (v_load T.scal_37 rfl) ?_
                  refine rs_kv 14 rfl rfl rfl rfl (S' := fun _ => True) trivial (v_indexAddr T.sl_37_108_3 rfl rfl (by omega) (by omega)) ?_
                  refine rs_kv 15 rfl rfl rfl rfl (S' := fun _ => True) trivial (v_fieldAddr T.fld_108_0_0 rfl) ?_
                  refine rs_k 16 rfl rfl (k_storeOwn hw T.scal_3 rfl rfl rfl (by (repeat first | with_reducible exact xH | apply xT); first | done | fail) (by assumption) (fun w hw => ?_))
                  refine ⟨fun hn => absurd (by decide) hn, ?_⟩
                  refine rs_kv 17 rfl rfl rfl rfl (S' := fun _ => True) trivial (v_indexAddr T.sl_37_108_3 rfl rfl (by omega) (by omega)) ?_
                  refine rs_kv 18 rfl rfl rfl rfl (S' := fun _ => True) trivial (v_fieldAddr T.fld_108_1_1 rfl) ?_
                  refine rs_k 19 rfl rfl (k_storeOwn hw T.scal_3 rfl rfl rfl (by (repeat first | with_reducible exact xH | apply xT); first | done | fail) (by assumption) (fun w hw => ?_))
                  refine ⟨fun hn => absurd (by decide) hn, ?_⟩
                  refine rs_done (g_le (xS rfl (xS rfl (xS rfl (xS rfl (xS rfl (xS rfl (xS rfl (xS rfl (xS rfl (xS rfl (xS rfl (xS rfl (xS rfl (xS rfl (xS rfl (xS rfl (xS rfl (xS rfl (Fr.le_refl _))))))))))))))))))) ?_)
                  refine g_seq ?_
                  rw [show 0 + to.toNat * 3 + 0 = to.toNat * 3 + 0 by omega, show 0 + to.toNat * 3 + 1 = to.toNat * 3 + 1 by omega, sg_set (y := ⟨3, y.used, y.live⟩) hy (by omega) rfl, sg_set (x := ⟨3, y.used, y.live⟩) (y := ⟨3, at_ + v.size, y.live⟩) (by rw [List.getElem?_set_self (by omega)]) (by omega) rfl, List.set_set] at hw
                  refine g_region ?_
                  refine xV rfl rfl rfl (v_move rfl) ?_
                  refine xV rfl rfl rfl (v_move rfl) ?_
                  refine xV rfl rfl rfl (v_move rfl) ?_
                  refine xV rfl rfl rfl (v_lenStr T.str_9 rfl) ?_
                  refine xV rfl rfl rfl (v_build rfl (T.build_84_0_1_2 ..)) ?_
                  refine rl_k rfl (k_storeWhole hw T.agg_84_3 rfl rfl (by simp [Value.oneCell']) rfl (by (repeat first | with_reducible exact xH | apply xT); first | done | fail) rfl (fun w hw => ?_))
                  refine xV rfl rfl rfl (v_assign rfl) ?_
                  refine rl_nil (g_le (xK (xS rfl (xS rfl (xS rfl (xS rfl (xS rfl (Fr.le_refl _))))))) ?_)
                  refine g_res2 Try.func29 rfl ⟨_, rfl, holds_agg (vs := [_, _, _]) T.agg_84_3 rfl (by exact sat_cells hw (by (repeat first | with_reducible exact xH | apply xT); first | done | fail) ⟨rfl, rfl, rfl, trivial⟩)⟩ rfl ?_
                  have hpt : putL o ss to at_ v.size = s1.set to.toNat ⟨3, at_ + v.size, y.live⟩ := by unfold putL; rw [hxa, hs1, show sgAt s1 to = y by unfold sgAt; rw [hy]; rfl]
                  have hl2 : (s1.set to.toNat ⟨3, at_ + v.size, y.live⟩).length = ss.length := by rw [List.length_set, hl1]
                  refine ⟨rfl, ?_⟩
                  dsimp only
                  rw [hpt, hl2]
                  exact hw.xQ
          · intro joinc2
            refine g_cond rfl (fun h2 => ?_) (fun h2 => ?_)
            · try with_reducible exact ft_elim h2
              all_goals
                try replace h2 := of_decide_eq_true h2
                refine g_seq ?_
                refine g_region ?_
                refine xV rfl rfl rfl (v_move rfl) ?_
                refine xV rfl rfl rfl (v_nilCheck rfl) ?_
                refine xV rfl rfl rfl (v_fieldAddr0 T.fld_39_2_2 rfl) ?_
                refine rl_v rfl rfl rfl (by exact sat_cell hw (by (repeat first | with_reducible exact xH | apply xT); first | done | fail) rfl) (v_load T.scal_37 rfl) ?_
                refine rl_k rfl (k_callf Try.func48 rfl rfl rfl rfl ?_)
                refine Calls.mono (indexSg_calls (by omega) (hw.xP (A := OwnSl 108 3 (.slice (some ⟨b, 0, none⟩) ss.length c) ss.length (ss.flatMap Sg.cells)))) ?_
                rintro _ w ⟨rfl, hw⟩
                refine ⟨_, rfl, ?_⟩
                refine xV rfl rfl rfl (v_assign rfl) ?_
                refine xV rfl rfl rfl (v_assign rfl) ?_
                refine rl_nil (g_le (xK (xK (xS rfl (xS rfl (xS rfl (xS rfl (xS rfl (Fr.le_refl _)))))))) ?_)
                refine g_seq ?_
                refine g_region ?_
                refine xV rfl rfl rfl (v_move rfl) ?_
                refine xV rfl rfl rfl (v_lss rfl rfl) ?_
                refine rl_nil (g_le (xK (xS rfl (Fr.le_refl _))) ?_)
                refine g_cond rfl (fun h3 => ?_) (fun h3 => ?_)
                · try with_reducible exact ft_elim h3
                  all_goals
                    try replace h3 := of_decide_eq_true h3
                    refine g_seq ?_
                    refine g_region ?_
                    refine xV rfl rfl rfl (v_build rfl (T.build_84 ..)) ?_
                    refine rl_k rfl (k_storeWhole hw T.agg_84_3 rfl rfl (by simp [Value.oneCell']) rfl (by (repeat first | with_reducible exact xH | apply xT); first | done | fail) rfl (fun w hw => ?_))
                    refine xV rfl rfl rfl (v_assign rfl) ?_
                    refine rl_nil (g_le (xK (xS rfl (Fr.le_refl _))) ?_)
                    refine g_res2 Try.func29 rfl ⟨_, rfl, holds_agg (vs := [_, _, _]) T.agg_84_3 rfl (by exact sat_cells hw (by (repeat first | with_reducible exact xH | apply xT); first | done | fail) ⟨rfl, rfl, rfl, trivial⟩)⟩ rfl ?_
                    have htg : tgtL md.size o ss v.size = (sgidx (fun x : Sg => decide (x.kind = 1)) ss 0, 0) := by unfold tgtL; rw [hxa, if_pos (by omega)]
                    rw [htg, if_pos (by simp only; omega)]
                    exact ⟨rfl, hw.xQ⟩
                · try with_reducible exact tf_elim h3
                  all_goals
                    try replace h3 := of_decide_eq_false h3
                    refine g_skip ?_
                    exact joinc2 (sgidx (fun x : Sg => decide (x.kind = 1)) ss 0, 0) w _ (by repeat (first | exact Fr.le_nil _ | refine Fr.le_cons rfl ?_)) ⟨by unfold tgtL; rw [hxa, if_pos (by omega)], by simp only; omega, by simp only; omega, by simp only; omega, by simp only; omega, hw.xQ⟩
            · try with_reducible exact tf_elim h2
              all_goals
                try replace h2 := of_decide_eq_false h2
                refine g_skip ?_
                exact joinc2 (o, x.used) w _ (by repeat (first | exact Fr.le_nil _ | refine Fr.le_cons rfl ?_)) ⟨by unfold tgtL; rw [hxa, if_neg (by omega)], by simp only; omega, by simp only; omega, by simp only; omega, by simp only; omega, hw.xQ⟩
end Go.Proofs.Ytlgpdglnfjndhaa
