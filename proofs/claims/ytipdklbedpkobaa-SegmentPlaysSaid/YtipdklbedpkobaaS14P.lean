/-
  SegmentPlays: a log, of any medium (its own writes, too), answers every row of calls as the document says.
-/
import Derived.Test.YtipdklbedpkobaaR14j
import Derived.Test.YtipdklbedpkobaaRows
namespace Go.Proofs.Ytipdklbedpkobaa
set_option maxRecDepth 8000
set_option linter.unusedSimpArgs false
set_option linter.unusedVariables false
open Go Xe Go.Lib Go.RowKit Go.ChangeShapes Go.WideShapes Go.ChangeAt
theorem snil_calls {E : Env} {w : World} {L : List As} (hw : Sat E w L) :
    Calls Try.prog 13 #[.pointer none] w fun e w' => e = .returned (.pointer none) ∧ Sat E w' L := by
  refine calls_of_g (n := 36) Try.func13 rfl rfl rfl ?_
  change G _ _ _ _ _ [(0, _)] _
  refine g_seq ?_
  refine g_region ?_
  refine xV rfl rfl rfl (v_assign rfl) ?_
  refine rl_nil (g_le (xK (Fr.le_refl _)) ?_)
  refine g_seq (g_seq ?_)
  refine g_region ?_
  refine xV rfl rfl rfl (v_move rfl) ?_
  refine xV rfl rfl rfl (v_eqlNil T.ptr_24 rfl rfl) ?_
  refine rl_nil (g_le (xK (xS rfl (Fr.le_refl _))) ?_)
  refine g_cond_true rfl ?_
  refine g_seq ?_
  refine g_region ?_
  refine xV rfl rfl rfl (v_assign rfl) ?_
  refine rl_nil (g_le (xK (Fr.le_refl _)) ?_)
  refine g_ret1 Try.func13 rfl rfl ?_
  exact ⟨rfl, hw⟩
set_option maxHeartbeats 8000000 in
theorem SegmentPlays_law {w : World} {sg sz : Int} {a1 : Option Addr} {n1 c1 : Nat} {xs : List Op14} (hn : (Lit.int .i64 sg).wf = true) (hn2 : (Lit.int .i64 sz).wf = true) (hr : rdArg (rdSl 64 5 rdOp14) w (.slice a1 n1 c1) xs) :
    Law Try.prog 8 [.int .i64 sg, .int .i64 sz, .slice a1 n1 c1] w := by
  unfold Law
  clear hn hn2
  have hw := Sat.old w
  generalize w = W at hr hw ⊢
  have hr : (rdSl 64 5 rdOp14) (hpOf W) [.slice a1 n1 c1] xs := hr
  obtain ⟨rfl, hxb, _, hxm, _⟩ := rdSl_get hr
  simp only [maxLen] at hxm
  simp only [reachBytes] at hxb
  have hw : Sat (envOf W) W [RO (hpOf W)] := hw
  refine calls_of_g (n := 77) Try.func8 rfl rfl rfl ?_
  change G _ _ _ _ _ [(0, _), (1, _), (2, _)] _
  refine g_seq ?_
  refine g_region ?_
  refine xV rfl rfl rfl (v_assign rfl) ?_
  refine rl_nil (g_le (xK (Fr.le_refl _)) ?_)
  refine g_seq ?_
  refine g_region ?_
  refine rl_k rfl (k_callf Try.func19 rfl rfl rfl rfl ?_)
  refine Calls.mono (awake_calls hw) ?_
  rintro _ w ⟨rfl, hw⟩
  refine ⟨_, rfl, ?_⟩
  refine xV rfl rfl rfl (v_assign rfl) ?_
  refine rl_nil (g_le (xK (xS rfl (Fr.le_refl _))) ?_)
  refine g_seq ?_
  refine g_region ?_
  refine xV rfl rfl rfl (v_move rfl) ?_
  refine rl_k rfl (k_callf Try.func20 rfl rfl rfl rfl ?_)
  have hpb := pickV_bound sg 12 (by omega)
  refine Calls.mono (pickV_calls sg 12 (by omega) (by omega) hw) ?_
  generalize pickV sg 12 = n0 at hpb ⊢
  rintro _ w ⟨rfl, hw⟩
  refine ⟨_, rfl, ?_⟩
  refine xV rfl rfl rfl (v_add rfl rfl (by omega)) ?_
  refine xV rfl rfl rfl (v_assign rfl) ?_
  refine rl_nil (g_le (xK (xS rfl (xS rfl (xS rfl (Fr.le_refl _))))) ?_)
  refine g_seq ?_
  refine g_region ?_
  refine xV rfl rfl rfl (v_move rfl) ?_
  refine rl_k rfl (k_callf Try.func20 rfl rfl rfl rfl ?_)
  have hpc := pickV_bound sz 100 (by omega)
  refine Calls.mono (pickV_calls sz 100 (by omega) (by omega) hw) ?_
  generalize pickV sz 100 = z0 at hpc ⊢
  rintro _ w ⟨rfl, hw⟩
  refine ⟨_, rfl, ?_⟩
  refine xV rfl rfl rfl (v_add rfl rfl (by omega)) ?_
  refine xV rfl rfl rfl (v_assign rfl) ?_
  refine rl_nil (g_le (xK (xS rfl (xS rfl (xS rfl (Fr.le_refl _))))) ?_)
  refine g_seq ?_
  obtain ⟨n, hnn⟩ : ∃ n : Nat, 1 + n0 = (n : Int) := ⟨(1 + n0).toNat, by omega⟩
  obtain ⟨size, hsz⟩ : ∃ size, 1 + z0 = size := ⟨_, rfl⟩
  rw [hnn, hsz]
  refine g_region ?_
  refine xV rfl rfl rfl (v_move rfl) ?_
  refine xV rfl rfl rfl (v_move rfl) ?_
  refine rl_k rfl (k_callf Try.func21 rfl rfl rfl rfl ?_)
  refine Calls.mono (fresh_calls (n : Int) size (by omega) (by omega) (by omega) (by omega) hw) ?_
  rw [Int.toNat_natCast]
  rintro _ w ⟨l, m, p, b, c, rfl, hw⟩
  refine ⟨_, rfl, ?_⟩
  refine xV rfl rfl rfl (v_assign rfl) ?_
  refine rl_nil (g_le (xK (xS rfl (xS rfl (xS rfl (Fr.le_refl _))))) ?_)
  refine g_seq ?_
  refine g_region ?_
  refine rl_k rfl (k_callf Try.func13 rfl rfl rfl rfl ?_)
  refine Calls.mono (snil_calls hw) ?_
  rintro _ w ⟨rfl, hw⟩
  refine ⟨_, rfl, ?_⟩
  refine xV rfl rfl rfl (v_assign rfl) ?_
  refine rl_nil (g_le (xK (xS rfl (Fr.le_refl _))) ?_)
  refine g_seq ?_
  refine g_region ?_
  refine rl_k rfl (k_callf Try.func34 rfl rfl rfl rfl ?_)
  refine Calls.mono (rnew_calls hw) ?_
  rintro _ w ⟨p2, rfl, hw⟩
  refine ⟨_, rfl, ?_⟩
  refine xV rfl rfl rfl (v_move rfl) ?_
  refine xV rfl rfl rfl (v_move rfl) ?_
  refine rl_k rfl (k_callf Try.func33 rfl rfl rfl rfl ?_)
  refine Calls.mono (rmnew_calls p2 (n : Int) size (by omega) (by omega) (by omega) (by omega) hw) ?_
  rw [Int.toNat_natCast]
  rintro _ w ⟨rm, rfl, hw⟩
  refine ⟨_, rfl, ?_⟩
  refine xV rfl rfl rfl (v_move rfl) ?_
  refine xV rfl rfl rfl (v_extract rfl rfl) ?_
  refine xV rfl rfl rfl (v_extract rfl rfl) ?_
  refine xV rfl rfl rfl (v_assign rfl) ?_
  refine xV rfl rfl rfl (v_assign rfl) ?_
  refine rl_nil (g_le (xS rfl (xK (xS rfl (xS rfl (xS rfl (xS rfl (xS rfl (xS rfl (xS rfl (Fr.le_refl _)))))))))) ?_)
  refine g_seq (g_seq ?_)
  refine g_region ?_
  refine xV rfl rfl rfl (v_move rfl) ?_
  refine xV rfl rfl rfl (v_not rfl) ?_
  refine xV rfl rfl rfl (v_move rfl) ?_
  refine rl_split (s := 35) rfl (fun g7_2 => ?_) (fun g7_2 => ?_)
  · try with_reducible exact ft_elim g7_2
    all_goals
      try replace g7_2 := of_decide_eq_true g7_2
      simp at g7_2
  · try with_reducible exact tf_elim g7_2
    all_goals
      try replace g7_2 := of_decide_eq_false g7_2
      refine rl_vg (met_on rfl rfl rfl rfl) rfl rfl (S := fun _ => True) trivial (v_move rfl) ?_
      refine rl_vg (met_on rfl rfl rfl rfl) rfl rfl (S := fun _ => True) trivial (v_eqlNil T.ptr_36 rfl rfl) ?_
      refine xV rfl rfl rfl (v_pick_false rfl rfl) ?_
      refine xV rfl rfl rfl (v_move rfl) ?_
      refine rl_split (s := 39) rfl (fun g7_6 => ?_) (fun g7_6 => ?_)
      · try with_reducible exact ft_elim g7_6
        all_goals
          try replace g7_6 := of_decide_eq_true g7_6
          simp at g7_6
      · try with_reducible exact tf_elim g7_6
        all_goals
          try replace g7_6 := of_decide_eq_false g7_6
          refine rl_vg (met_on rfl rfl rfl rfl) rfl rfl (S := fun _ => True) trivial (v_move rfl) ?_
          refine rl_vg (met_on rfl rfl rfl rfl) rfl rfl (S := fun _ => True) trivial (v_neqNil T.ptr_36 rfl rfl) ?_
          refine xV rfl rfl rfl (v_pick_false rfl rfl) ?_
          refine rl_nil (g_le (xK (xS rfl (xS rfl (xS rfl (xS rfl (xS rfl (xS rfl (xS rfl (xS rfl (xS rfl (xS rfl (xS rfl (Fr.le_refl _))))))))))))) ?_)
          refine g_cond_false rfl ?_
          refine g_skip (g_seq ?_)
          have K0 := new_Lk (size := size) (n := n) (by omega) (by omega) (by omega) (by omega)
          have hl0 := newSegs_len (n := n) (by omega)
          have hnm : (newMd size n).segs.length = n := by simp [newMd]
          have hw : Sat (envOf W) w (RmAt rm p2 (newMd size n) :: RwAt p2 (Pw.ref ⟨false, 0, 0⟩) :: pt l (.cells [Value.pointer (some ⟨m, 0, none⟩), .int .i64 0, .slice (some ⟨b, 0, none⟩) ((newSegs n) : List Sg).length c].toArray 47 (0, 0)) :: OwnSl 104 3 (.slice (some ⟨b, 0, none⟩) ((newSegs n)).length c) ((newSegs n)).length (((newSegs n)).flatMap Sg.cells) :: MdAt m p (newMd size n) :: PwAt p ⟨false, 0, 0⟩ :: [RO (hpOf W)]) := hw
          refine g_region ?_
          refine xV rfl rfl rfl (v_move rfl) ?_
          refine xV rfl rfl rfl (v_move rfl) ?_
          refine rl_k rfl (k_callf Try.func35 rfl rfl rfl rfl ?_)
          refine Calls.mono (rlnew_calls (rm := rm) (p := p2) (md := newMd size n) (by omega) (by omega) hw) ?_
          rw [hnm]
          rintro _ w ⟨q, k1, k2, k3, d1, d2, d3, rfl, hw⟩
          refine ⟨_, rfl, ?_⟩
          refine xV rfl rfl rfl (v_build rfl (T.build_90_0_1 ..)) ?_
          refine rl_k rfl (k_box hw rfl rfl rfl (fun bk9_4 w hw => ?_))
          refine xV rfl rfl rfl (v_assign rfl) ?_
          refine rl_nil (g_le (xK (xS rfl (xS rfl (xS rfl (xS rfl (xS rfl (Fr.le_refl _))))))) ?_)
          refine g_seq (g_seq ?_)
          refine g_region ?_
          refine xV rfl rfl rfl (v_assign rfl) ?_
          refine rl_nil (g_le (xK (Fr.le_refl _)) ?_)
          refine g_block ?_
          refine g_loopC (σ := Nat × Int × List Sg × List Sg × Md × Pw × Value × List Pl) (fun C x => (13, .int .i64 (x.1 : Nat)) :: C) [(2, _), (6, _), (8, _), (12, _)] (by repeat (first | exact Fr.le_nil _ | refine Fr.le_cons rfl ?_)) (fun z w => z.1 ≤ xs.length ∧ Lk z.2.1 z.2.2.1 z.2.2.2.1 z.2.2.2.2.1 z.2.2.2.2.2.1 ∧ z.2.2.2.2.1.past.length ≤ z.1 ∧ z.2.2.2.2.2.2.2.length ≤ z.1 ∧ (∀ p ∈ z.2.2.2.2.2.2.2, p.len ≤ 9223372036854775807) ∧ Sat (envOf W) w (pt bk9_4 (.cells [Value.pointer (some ⟨l, 0, none⟩), Value.pointer (some ⟨q, 0, none⟩), (z.2.2.2.2.2.2.1)].toArray 90 (0, 0)) :: OwnSl 58 3 ((z.2.2.2.2.2.2.1)) ((z.2.2.2.2.2.2.2) : List Pl).length (((z.2.2.2.2.2.2.2) : List Pl).flatMap Pl.cells) :: pt l (.cells [Value.pointer (some ⟨m, 0, none⟩), .int .i64 (z.2.1), .slice (some ⟨b, 0, none⟩) ((z.2.2.1) : List Sg).length c].toArray 47 (0, 0)) :: OwnSl 104 3 (.slice (some ⟨b, 0, none⟩) ((z.2.2.1)).length c) ((z.2.2.1)).length (((z.2.2.1)).flatMap Sg.cells) :: MdAt m p z.2.2.2.2.1 :: PwAt p z.2.2.2.2.2.1 :: pt q (.cells [Value.pointer (some ⟨rm, 0, none⟩), .slice (some ⟨k1, 0, none⟩) ((z.2.2.2.1) : List Sg).length d1, .slice (some ⟨k2, 0, none⟩) ((z.2.2.2.1) : List Sg).length d2, .slice (some ⟨k3, 0, none⟩) ((z.2.2.2.1) : List Sg).length d3].toArray 120 (0, 0)) :: OwnSl 3 1 (.slice (some ⟨k1, 0, none⟩) ((z.2.2.2.1)).length d1) ((z.2.2.2.1)).length (((z.2.2.2.1)).map fun x => Value.int .i64 x.kind) :: OwnSl 3 1 (.slice (some ⟨k2, 0, none⟩) ((z.2.2.2.1)).length d2) ((z.2.2.2.1)).length (((z.2.2.2.1)).map fun x => Value.int .i64 x.used) :: OwnSl 3 1 (.slice (some ⟨k3, 0, none⟩) ((z.2.2.2.1)).length d3) ((z.2.2.2.1)).length (((z.2.2.2.1)).map fun x => Value.int .i64 x.live) :: RmAt rm p2 z.2.2.2.2.1 :: RwAt p2 z.2.2.2.2.2.1.ref :: [RO (hpOf W)])) (fun z => xs.length - z.1) ?_ (0, 0, newSegs n, newSegs n, newMd size n, ⟨false, 0, 0⟩, .slice none 0 0, []) (by repeat (first | exact Fr.le_nil _ | refine Fr.le_cons rfl ?_)) ⟨by simp, K0, by simp [newMd], by simp, by simp, by dsimp only; simp only [List.flatMap_nil, List.length_nil]; exact (hw.own_nil 58 3).xQ⟩
          clear K0 hl0 hnm
          rintro ⟨i, o, ss, rs, md, pw, pv, ys⟩ w ⟨hi1, K, hpl, hyl, hyk, hw⟩ ih
          dsimp only at hi1 K hpl hyl hyk hw ih ⊢
          refine g_seq (g_seq ?_)
          refine g_region ?_
          refine xV rfl rfl rfl (v_move rfl) ?_
          refine xV rfl rfl rfl (v_move rfl) ?_
          refine xV rfl rfl rfl (v_lenSlice T.sl_69_72_5 rfl) ?_
          refine xV rfl rfl rfl (v_lss rfl rfl) ?_
          refine rl_nil (g_le (xK (xK (xK (xK (Fr.le_refl _))))) ?_)
          refine g_cond rfl (fun h2 => ?_) (fun h2 => ?_)
          · try with_reducible exact ft_elim h2
            all_goals
              try replace h2 := of_decide_eq_true h2
              refine g_skip (g_seq (g_block (g_seq ?_)))
              have hlt : i < xs.length := by omega
              have hz := hw
              clear hw
              obtain ⟨b4, o4, x, pa, pn, pc, rfl, hx, hat1, hxs, hxp, hxa, hxb2⟩ := op14_at hr i hlt
              have hw := hz
              refine g_region ?_
              refine xV rfl rfl rfl (v_move rfl) ?_
              refine xV rfl rfl rfl (v_move rfl) ?_
              refine xV rfl rfl rfl (v_move rfl) ?_
              refine xV rfl rfl rfl (v_indexAddr T.sl_69_72_5 rfl rfl (by omega) (by omega)) ?_
              refine rl_v rfl rfl rfl (by exact ro_ats hw (by (repeat first | with_reducible exact xH | apply xT); first | done | fail) (by assumption)) (v_loadAgg (vs := [_, _, _, _, _]) T.agg_72_5 rfl rfl) ?_
              refine rl_k rfl (k_callf Try.func36 rfl rfl rfl rfl ?_)
              refine Calls.mono (step14_calls (xd := bk9_4) (l := l) (m := m) (p := p) (b := b) (c := c) (q := q) (rm := rm) (p2 := p2) (k1 := k1) (k2 := k2) (k3 := k3) (c1 := d1) (c2 := d2) (c3 := d3) (o := o) (ss := ss) (rs := rs) (md := md) (pw := pw) (pv := pv) (xs := ys) (g := hpOf W) x K hxp hxs hyk (by omega) (by omega) hw) ?_
              rintro _ w ⟨rfl, o2, ss2, rs2, md2, pw2, pv2, ys2, K2, _, hp2, hy2, hyk2, hw⟩
              refine ⟨_, rfl, ?_⟩
              refine xV rfl rfl rfl (v_assign rfl) ?_
              refine rl_nil (g_le (xK (xK (xK (xK (xK (xK (xK (Fr.le_refl _)))))))) ?_)
              refine g_seq ?_
              refine g_region ?_
              refine xV rfl rfl rfl (v_move rfl) ?_
              refine xV rfl rfl rfl (v_not rfl) ?_
              refine xV rfl rfl rfl (v_move rfl) ?_
              refine rl_split (s := 62) rfl (fun g14_2 => ?_) (fun g14_2 => ?_)
              · try with_reducible exact ft_elim g14_2
                all_goals
                  try replace g14_2 := of_decide_eq_true g14_2
                  simp at g14_2
              · try with_reducible exact tf_elim g14_2
                all_goals
                  try replace g14_2 := of_decide_eq_false g14_2
                  refine rl_vg (met_on rfl rfl rfl rfl) rfl rfl (S := fun _ => True) trivial (v_move rfl) ?_
                  refine rl_vg (met_on rfl rfl rfl rfl) rfl rfl (S := fun _ => True) trivial (v_move rfl) ?_
                  refine rl_vg (met_on rfl rfl rfl rfl) rfl rfl (S := fun _ => True) trivial (v_nilCheck rfl) ?_
                  refine rl_vg (met_on rfl rfl rfl rfl) rfl rfl (S := fun _ => True) trivial (v_fieldAddr0 T.fld_90_1_1 rfl) ?_
                  refine rl_vg (met_on rfl rfl rfl rfl) rfl rfl (by exact sat_cell hw (by (repeat first | with_reducible exact xH | apply xT); first | done | fail) rfl) (v_load T.scal_87 rfl) ?_
                  refine rl_kg (met_on rfl rfl rfl rfl) (k_callf Try.func37 rfl rfl rfl rfl ?_)
                  refine Calls.mono (tells_calls (l := l) (m := m) (p := p) (b := b) (c := c) (q := q) (rm := rm) (p2 := p2) (k1 := k1) (k2 := k2) (k3 := k3) (c1 := d1) (c2 := d2) (c3 := d3) (o := o2) (ss := ss2) (rs := rs2) (md := md2) (pw := pw2) K2 (hw.xQ)) ?_
                  rintro _ w ⟨rfl, hw⟩
                  refine ⟨_, rfl, ?_⟩
                  refine rl_vg (met_on rfl rfl rfl rfl) rfl rfl (S := fun _ => True) trivial (v_not rfl) ?_
                  refine xV rfl rfl rfl (v_pick_false rfl rfl) ?_
                  refine rl_nil (g_le (xK (xK (xK (xK (xK (xK (xK (xK (xK (xK (xK (xK (Fr.le_refl _))))))))))))) ?_)
                  refine g_cond_false rfl ?_
                  refine g_skip (g_inBlock ?_)
                  refine g_region ?_
                  refine xV rfl rfl rfl (v_move rfl) ?_
                  refine xV rfl rfl rfl (v_add rfl rfl (by omega)) ?_
                  refine xV rfl rfl rfl (v_assign rfl) ?_
                  refine rl_nil (g_le (xK (xK (xK (Fr.le_refl _)))) ?_)
                  exact g_le (by repeat (first | exact Fr.le_nil _ | refine Fr.le_cons rfl ?_)) (ih (i + 1, o2, ss2, rs2, md2, pw2, pv2, ys2) w ⟨by simp only; omega, K2, by simp only; omega, by simp only; omega, hyk2, hw.xQ⟩ (by simp only; omega))
          · try with_reducible exact tf_elim h2
            all_goals
              try replace h2 := of_decide_eq_false h2
              refine g_exit rfl (g_seq ?_)
              refine g_region ?_
              refine xV rfl rfl rfl (v_move rfl) ?_
              refine xV rfl rfl rfl (v_move rfl) ?_
              refine xV rfl rfl rfl (v_nilCheck rfl) ?_
              refine xV rfl rfl rfl (v_fieldAddr0 T.fld_90_1_1 rfl) ?_
              refine rl_v rfl rfl rfl (by exact sat_cell hw (by (repeat first | with_reducible exact xH | apply xT); first | done | fail) rfl) (v_load T.scal_87 rfl) ?_
              refine rl_k rfl (k_callf Try.func37 rfl rfl rfl rfl ?_)
              refine Calls.mono (tells_calls (l := l) (m := m) (p := p) (b := b) (c := c) (q := q) (rm := rm) (p2 := p2) (k1 := k1) (k2 := k2) (k3 := k3) (c1 := d1) (c2 := d2) (c3 := d3) (o := o) (ss := ss) (rs := rs) (md := md) (pw := pw) K (hw.xQ)) ?_
              rintro _ w ⟨rfl, hw⟩
              refine ⟨_, rfl, ?_⟩
              refine xV rfl rfl rfl (v_assign rfl) ?_
              refine rl_nil (g_le (xK (xS rfl (xS rfl (xS rfl (xS rfl (xS rfl (xS rfl (Fr.le_refl _)))))))) ?_)
              refine g_ret1 Try.func8 rfl rfl ?_
              exact ⟨rfl, hw.xQ⟩

set_option maxRecDepth 100000 in
theorem SegmentPlays_lifted (os : Os) (started : os.Started) (H : Type) (enc : TypeId × Value → H) :
    ReturnsInHanded {} Try.checked os 8 .any (Rows.segmentPlaysSpec.pre6 enc Try.prog Try.f8 Rows.segmentPlaysRow.domain false) (Rows.segmentPlaysSpec.post enc Try.prog Try.f8 false true false false) := by
  refine returnsInHanded_of_change_sized (C := Try.checked) T.own started (by kernel_rfl) Try.func8
    (ChangeSpec.witness6 (enc := enc) (C := Try.checked) false ⟨#[], #[(.int .i64 0), (.int .i64 0), (.slice none 0 0)], []⟩ 8 (by kernel_rfl) (by kernel_rfl) (by kernel_rfl) (by kernel_rfl)) ?_
  intro W base args ds gs before hval0 hW hcnd hsz0 _
  have hval : ∀ (j : Nat) t v, Try.f8.params[j]? = some t → args[j]? = some v → Value.okWide Try.prog W .any base t v := hval0
  have hW' := hW
  obtain ⟨p, q, hA0, hV, rfl, hfz, hnd⟩ := hW
  have hA : DataW.TrodAll enc Try.prog W 0 (fun _ => true) true Try.f8.params.toList args.toList ds p := hA0
  obtain ⟨rfl, rfl⟩ := trodVars_none hV
  have hsz : (DataW.weightsEach Try.prog (Try.f8.params.toList ++ []) (ds ++ [])).all (· ≤ reachBytes) = true := hsz0
  rw [List.append_nil, List.append_nil] at hsz
  rw [Try.params8] at hA hval hsz
  obtain ⟨v0, vs0, d0, ds0, p0, q0, hargs, rfl, rfl, h0, r0⟩ := trodAll_cons hA
  obtain ⟨v1, vs1, d1, ds1, p1, q1, rfl, rfl, rfl, h1, r1⟩ := trodAll_cons r0
  obtain ⟨v2, vs2, d2, ds2, p2, q2, rfl, rfl, rfl, h2, r2⟩ := trodAll_cons r1
  obtain ⟨rfl, rfl, rfl⟩ := trodAll_nil r2
  obtain rfl : args = #[v0, v1, v2] := by cases args; simp_all
  have lt0 : ∀ x ∈ p0, x.block < W.heap.size := by obtain ⟨m, hm⟩ := h0; exact DataW.trod_lt m _ _ _ hm
  obtain ⟨x0, w0⟩ := arg_of (j := 0) (reads_int T.int_3_i64) h0 hsz rfl rfl
  have lt1 : ∀ x ∈ p1, x.block < W.heap.size := by obtain ⟨m, hm⟩ := h1; exact DataW.trod_lt m _ _ _ hm
  obtain ⟨x1, w1⟩ := arg_of (j := 1) (reads_int T.int_3_i64) h1 hsz rfl rfl
  have lt2 : ∀ x ∈ p2, x.block < W.heap.size := by obtain ⟨m, hm⟩ := h2; exact DataW.trod_lt m _ _ _ hm
  obtain ⟨x2, w2⟩ := arg_of (j := 2) (reads_sl T.sl_69_72_5 T.bytes_72_64 (by decide) reads_Op14) h2 hsz rfl rfl
  obtain ⟨n0, rfl⟩ := okWide_int Try.underlying3 (hval 0 3 v0 rfl rfl)
  obtain ⟨n1, rfl⟩ := okWide_int Try.underlying3 (hval 1 3 v1 rfl rfl)
  obtain ⟨a2, l2, c2, rfl⟩ := okWide_slice Try.underlying69 (hval 2 69 v2 rfl rfl)
  obtain ⟨hc0, hr0⟩ := w0
  cases hc0
  obtain ⟨hc1, hr1⟩ := w1
  cases hc1
  refine (SegmentPlays_law hr0 hr1 w2).mono fun e W' ⟨he, hb⟩ => ?_
  have bel := hb.below
  subst he
  exact ⟨_, rfl, _, _, _, [], _, [], hW', trodAll_mk1 (shut_bool Try.underlying4 _), (trodAll_cons_mk (Below.trod T.laidOut (by kernel_rfl) (of_decide_eq_true (by kernel_rfl)) h0 bel lt0) (trodAll_cons_mk (Below.trod T.laidOut (by kernel_rfl) (of_decide_eq_true (by kernel_rfl)) h1 bel lt1) (trodAll_cons_mk (Below.trod T.laidOut (by kernel_rfl) (of_decide_eq_true (by kernel_rfl)) h2 bel lt2) trodAll_mk0))), rfl, bel.frame _, fun h => by cases h⟩
theorem SegmentPlays_holds : Rows.SegmentPlaysSaid :=
  OpenClaim.holds_of_wide 8 Try.f8 rfl rfl rfl rfl rfl rfl rfl ⟨rfl, rfl, rfl, rfl, rfl⟩ rfl rfl rfl rfl rfl (by kernel_rfl) Try.func8 (by kernel_rfl)
    (of_decide_eq_true (by kernel_rfl)) (by unfold Func.isWrapper; rw [if_neg (of_decide_eq_false (by kernel_rfl))]; exact ⟨rfl, rfl⟩)
    (fun os started H enc _ => SegmentPlays_lifted os started H enc)
#print axioms SegmentPlays_holds
end Go.Proofs.Ytipdklbedpkobaa
