/-
  MediumReplays: what is written in all segments is what comes of Past's writes done one behind the other.
-/
import Derived.Test.YtdebodbkggbjeaaM12r
import Derived.Test.YtdebodbkggbjeaaM12L
import Derived.Test.YtdebodbkggbjeaaRows
namespace Go.Proofs.Ytdebodbkggbjeaa
set_option maxRecDepth 8000
set_option linter.unusedSimpArgs false
set_option linter.unusedVariables false
open Go Xe Go.Lib Go.RowKit Go.ChangeShapes Go.WideShapes Go.ChangeAt
structure Op12 where
  kind : Int
  on : Bool
  seg : Int
  at_ : Int
  n : Int
  bytes : ByteArray
instance : DecidableEq Op12 := fun a b => decidable_of_iff (a.kind = b.kind ∧ a.on = b.on ∧ a.seg = b.seg ∧ a.at_ = b.at_ ∧ a.n = b.n ∧ a.bytes = b.bytes) (by cases a; cases b; simp)
@[reducible] def Op12.cells (x : Op12) : List Value := [.int .i64 x.kind, .bool x.on, .int .i64 x.seg, .int .i64 x.at_, .int .i64 x.n, .string x.bytes]
def Op12.ok (x : Op12) : Prop := (Lit.int .i64 x.kind).wf = true ∧ (Lit.int .i64 x.seg).wf = true ∧ (Lit.int .i64 x.at_).wf = true ∧ (Lit.int .i64 x.n).wf = true ∧ x.bytes.size ≤ reachBytes
def rdOp12 : Rd Op12 := fun _ cs x => cs = x.cells ∧ x.ok
theorem mono_Op12 : Rd.Mono rdOp12 := fun _ _ _ h => h
theorem one_Op12 : Rd.One rdOp12 := fun h => by rw [h.1]; simp [Value.oneCell']
theorem eq_Op12 (x y : Op12) : cellsEq x.cells y.cells = some (decide (x = y)) := by
  simp only [cellsEq, cellEq, if_true, Bool.and_true, Option.some.injEq]
  by_cases h : x = y
  · subst h; simp
  · rw [decide_eq_false h]
    refine Bool.eq_false_iff.2 fun h2 => h ?_
    simp only [Bool.and_eq_true, decide_eq_true_eq, beq_iff_eq] at h2
    obtain ⟨_, _, _, _, _, _⟩ := x
    obtain ⟨_, _, _, _, _, _⟩ := y
    simp_all
theorem reads_Op12 {H : Type} {enc : TypeId × Value → H} : Reads enc Try.prog 50 rdOp12 := fun w fuel cs d ps h hz => by
  have hl := reads_length T.agg_50_6 (by kernel_rfl) h hz
  obtain ⟨c0, c1, c2, c3, c4, c5, rfl⟩ : ∃ c0 c1 c2 c3 c4 c5, cs = [c0, c1, c2, c3, c4, c5] := by
    match cs, hl with
    | [c0, c1, c2, c3, c4, c5], _ => exact ⟨_, _, _, _, _, _, rfl⟩
  obtain ⟨x0, h0⟩ := reads_field (i := 0) (off := 0) (k := 1) (ft := 3) (by kernel_rfl) h hz (reads_int T.int_3_i64)
  obtain ⟨x1, h1⟩ := reads_field (i := 1) (off := 1) (k := 1) (ft := 4) (by kernel_rfl) h hz (reads_bool T.bool_4)
  obtain ⟨x2, h2⟩ := reads_field (i := 2) (off := 2) (k := 1) (ft := 3) (by kernel_rfl) h hz (reads_int T.int_3_i64)
  obtain ⟨x3, h3⟩ := reads_field (i := 3) (off := 3) (k := 1) (ft := 3) (by kernel_rfl) h hz (reads_int T.int_3_i64)
  obtain ⟨x4, h4⟩ := reads_field (i := 4) (off := 4) (k := 1) (ft := 3) (by kernel_rfl) h hz (reads_int T.int_3_i64)
  obtain ⟨x5, h5⟩ := reads_field (i := 5) (off := 5) (k := 1) (ft := 9) (by kernel_rfl) h hz (reads_str T.str_9)
  obtain ⟨e0, k0⟩ := h0
  have e1 := h1
  simp only [rdBool] at e1
  obtain ⟨e2, k2⟩ := h2
  obtain ⟨e3, k3⟩ := h3
  obtain ⟨e4, k4⟩ := h4
  obtain ⟨e5, k5⟩ := h5
  simp only [List.drop_zero, List.drop_succ_cons, List.take_succ_cons, List.take_zero, List.cons.injEq, and_true] at e0 e1 e2 e3 e4 e5
  obtain rfl := e0
  obtain rfl := e1
  obtain rfl := e2
  obtain rfl := e3
  obtain rfl := e4
  obtain rfl := e5
  exact ⟨⟨x0, x1, x2, x3, x4, x5⟩, rfl, k0, k2, k3, k4, k5⟩
def stepW (l : List ByteArray) (x : Wr) : List ByteArray := l.set x.1.toNat (((l[x.1.toNat]?).getD ByteArray.empty).extract 0 x.2.1.toNat ++ x.2.2)
def playW (n : Nat) (xs : List Wr) : List ByteArray := xs.foldl stepW (List.replicate n ByteArray.empty)
theorem playW_snoc (n : Nat) (xs : List Wr) (x : Wr) : playW n (xs ++ [x]) = stepW (playW n xs) x := by simp [playW]
theorem stepW_foldl_len (xs : List Wr) : ∀ l : List ByteArray, (xs.foldl stepW l).length = l.length := by
  induction xs with
  | nil => intro l; rfl
  | cons x xs ih => intro l; rw [List.foldl_cons, ih]; simp [stepW]
theorem playW_len (n : Nat) (xs : List Wr) : (playW n xs).length = n := by unfold playW; rw [stepW_foldl_len, List.length_replicate]
def Rp (n : Nat) (s : Md) : Prop := playW n s.past = s.segs ∧ ∀ (k : Nat) (x : Wr), s.past[k]? = some x → 0 ≤ x.1 ∧ x.1 < n ∧ 0 ≤ x.2.1 ∧ x.2.1 ≤ (((playW n (s.past.take k))[x.1.toNat]?).getD ByteArray.empty).size ∧ x.2.1 + x.2.2.size ≤ s.size
theorem rp_len {n : Nat} {s : Md} (h : Rp n s) : s.segs.length = n := by rw [← h.1, playW_len]
theorem rp_put {n : Nat} {s : Md} (h : Rp n s) {i a : Int} (v : ByteArray) (hi : s.is i) (h0 : 0 ≤ a) (h1 : a ≤ (s.seg i).size) (h3 : a + v.size ≤ s.size) : Rp n (s.put i a v) := by
  have hl := rp_len h
  refine ⟨?_, fun k x hk => ?_⟩
  · show playW n (s.past ++ [(i, a, v)]) = s.segs.set i.toNat ((s.seg i).extract 0 a.toNat ++ v)
    rw [playW_snoc, h.1]; rfl
  · have hk : (s.past ++ [(i, a, v)])[k]? = some x := hk
    show 0 ≤ x.1 ∧ x.1 < n ∧ 0 ≤ x.2.1 ∧ x.2.1 ≤ (((playW n ((s.past ++ [(i, a, v)]).take k))[x.1.toNat]?).getD ByteArray.empty).size ∧ x.2.1 + x.2.2.size ≤ s.size
    rcases Nat.lt_or_ge k s.past.length with hlt | hge
    · rw [List.getElem?_append_left hlt] at hk
      rw [List.take_append_of_le_length (Nat.le_of_lt hlt)]
      exact h.2 k x hk
    · rw [List.getElem?_append_right hge] at hk
      have hk0 : k - s.past.length = 0 := by
        rcases Nat.eq_zero_or_pos (k - s.past.length) with h | h
        · exact h
        · rw [List.getElem?_eq_none (by simp; omega)] at hk; cases hk
      rw [hk0] at hk
      obtain rfl := Option.some.inj hk
      have hkk : k = s.past.length := by omega
      rw [hkk, List.take_append_of_le_length (Nat.le_refl _), List.take_length, h.1]
      exact ⟨hi.1, by have := hi.2; omega, h0, h1, h3⟩
theorem md_ptr12 {E : Env} {w : World} {L : List As} {m p : Nat} {md : Md} (h : Sat E w (MdAt m p md :: L)) : w.cell? ⟨m, 0, none⟩ = some (.pointer (some ⟨p, 0, none⟩)) := by
  obtain ⟨_, g, cap, pa, pc, vs, _, _, _, h⟩ := md_open h
  exact sat_cell h (.here _) rfl
theorem wr_two {s : Md} {pw : Pw} (i a : Int) (v : ByteArray) (hp : pw.ok) : ((s.write pw i a v).1 ≠ 0 ∧ (s.write pw i a v).2.1 = s ∧ (s.write pw i a v).2.2.ok) ∨
    ((s.write pw i a v).1 = 0 ∧ (s.write pw i a v).2.1 = s.put i a v ∧ (s.write pw i a v).2.2.ok ∧ s.is i ∧ 0 ≤ a ∧ a ≤ (s.seg i).size ∧ a + v.size ≤ s.size) := by
  have hs := Pw.ok_spend hp
  unfold Md.write
  by_cases h1 : s.is i
  · rw [if_pos h1]
    by_cases h2 : a < 0 ∨ a > (s.seg i).size
    · rw [if_pos h2]; exact .inl ⟨by simp, rfl, hp⟩
    · rw [if_neg h2]
      by_cases h3 : (v.size : Int) > s.size - a
      · rw [if_pos h3]; exact .inl ⟨by simp, rfl, hp⟩
      · rw [if_neg h3]
        by_cases h4 : pw.spend.1 = 0
        · rw [if_pos h4]; exact .inr ⟨rfl, rfl, hs, h1, by omega, by omega, by omega⟩
        · rw [if_neg h4]; exact .inl ⟨h4, rfl, hs⟩
  · rw [if_neg h1]; exact .inl ⟨by simp, rfl, hp⟩
theorem ord_f10_r22_M12R : orderOfB Try.f10 22 [6] (.a 0 (.a 1 (.a 2 (.a 4 (.v 3 (.k 5 (.k 6 .done))))))) = true := by kernel_rfl
theorem ord_f10_r32_M12R : orderOfB Try.f10 32 [] (.k 0 (.k 1 (.k 2 (.k 3 (.a 4 (.a 6 (.k 5 (.k 7 (.k 8 (.k 9 (.k 10 (.k 11 (.k 12 (.k 13 (.k 14 (.a 15 (.a 17 (.a 18 (.v 16 (.k 19 (.k 20 (.k 21 (.k 22 (.k 23 (.k 24 .done))))))))))))))))))))))))) = true := by kernel_rfl
theorem ord_f10_r34_M12R : orderOfB Try.f10 34 [15] (.a 0 (.a 1 (.a 3 (.a 4 (.a 8 (.a 11 (.v 2 (.v 5 (.a 6 (.v 7 (.v 9 (.a 10 (.k 12 (.k 13 (.k 14 (.k 15 .done)))))))))))))))) = true := by kernel_rfl
set_option maxHeartbeats 8000000 in
theorem MediumReplays_law {w : World} {sg sz : Int} {a1 : Option Addr} {n1 c1 : Nat} {xs : List Op12} (hn : (Lit.int .i64 sg).wf = true) (hn2 : (Lit.int .i64 sz).wf = true) (hr : rdArg (rdSl 56 6 rdOp12) w (.slice a1 n1 c1) xs) :
    Law Try.prog 10 [.int .i64 sg, .int .i64 sz, .slice a1 n1 c1] w := by
  unfold Law
  clear hn hn2
  have hw := Sat.old w
  generalize w = W at hr hw ⊢
  have hr : (rdSl 56 6 rdOp12) (hpOf W) [.slice a1 n1 c1] xs := hr
  obtain ⟨rfl, _, _, hxm, gx⟩ := rdSl_get hr
  simp only [maxLen] at hxm
  have hxl : xs.length ≤ 4000000000000 := by
    have h9 := hr
    obtain ⟨_, _, _, h8, _⟩ := rdSl_cells h9
    simp only [reachBytes] at h8
    omega
  have hw : Sat (envOf W) W [RO (hpOf W)] := hw
  refine calls_of_g (n := 196) Try.func10 rfl rfl rfl ?_
  change G _ _ _ _ _ [(0, _), (1, _), (2, _)] _
  refine g_seq ?_
  refine g_region ?_
  refine xV rfl rfl rfl (v_assign rfl) ?_
  refine rl_nil (g_le (xK (Fr.le_refl _)) ?_)
  refine g_seq ?_
  refine g_region ?_
  refine rl_k rfl (k_callf Try.func23 rfl rfl rfl rfl ?_)
  refine Calls.mono (awake12_calls hw) ?_
  rintro _ w ⟨rfl, hw⟩
  refine ⟨_, rfl, ?_⟩
  refine xV rfl rfl rfl (v_assign rfl) ?_
  refine rl_nil (g_le (xK (xS rfl (Fr.le_refl _))) ?_)
  refine g_seq ?_
  refine g_region ?_
  refine xV rfl rfl rfl (v_move rfl) ?_
  refine rl_k rfl (k_callf Try.func24 rfl rfl rfl rfl ?_)
  refine Calls.mono (pick12_calls sg 8 (by omega) (by omega) hw) ?_
  have hp1 := Int.emod_nonneg sg (by omega : (8 : Int) ≠ 0)
  have hp2 := Int.emod_lt_of_pos sg (by omega : (0 : Int) < 8)
  rintro _ w ⟨rfl, hw⟩
  refine ⟨_, rfl, ?_⟩
  refine xV rfl rfl rfl (v_add rfl rfl (by omega)) ?_
  refine xV rfl rfl rfl (v_assign rfl) ?_
  refine rl_nil (g_le (xK (xS rfl (xS rfl (xS rfl (Fr.le_refl _))))) ?_)
  generalize hn0 : 1 + sg % 8 = n
  refine g_seq ?_
  refine g_region ?_
  refine xV rfl rfl rfl (v_move rfl) ?_
  refine rl_k rfl (k_callf Try.func24 rfl rfl rfl rfl ?_)
  refine Calls.mono (pick12_calls sz 64 (by omega) (by omega) hw) ?_
  have hp3 := Int.emod_nonneg sz (by omega : (64 : Int) ≠ 0)
  have hp4 := Int.emod_lt_of_pos sz (by omega : (0 : Int) < 64)
  rintro _ w ⟨rfl, hw⟩
  refine ⟨_, rfl, ?_⟩
  refine xV rfl rfl rfl (v_add rfl rfl (by omega)) ?_
  refine xV rfl rfl rfl (v_assign rfl) ?_
  refine rl_nil (g_le (xK (xS rfl (xS rfl (xS rfl (Fr.le_refl _))))) ?_)
  generalize hz0 : 1 + sz % 64 = size
  refine g_seq ?_
  refine g_region ?_
  refine rl_k rfl (k_callf Try.func12 rfl rfl rfl rfl ?_)
  refine Calls.mono (new_calls hw) ?_
  rintro _ w ⟨p, rfl, hw⟩
  refine ⟨_, rfl, ?_⟩
  refine xV rfl rfl rfl (v_move rfl) ?_
  refine xV rfl rfl rfl (v_move rfl) ?_
  refine rl_k rfl (k_callf Try.func25 rfl rfl rfl rfl ?_)
  refine Calls.mono (mnew_calls p n size (by omega) (by omega) (by omega) (by omega) hw) ?_
  rintro _ w ⟨m, rfl, hw⟩
  refine ⟨_, rfl, ?_⟩
  refine xV rfl rfl rfl (v_move rfl) ?_
  refine xV rfl rfl rfl (v_extract rfl rfl) ?_
  refine xV rfl rfl rfl (v_extract rfl rfl) ?_
  refine xV rfl rfl rfl (v_assign rfl) ?_
  refine xV rfl rfl rfl (v_assign rfl) ?_
  refine rl_nil (g_le (xK (xK (xS rfl (xS rfl (xS rfl (xS rfl (xS rfl (xS rfl (xS rfl (Fr.le_refl _)))))))))) ?_)
  refine g_seq (g_seq ?_)
  refine g_region ?_
  refine xV rfl rfl rfl (v_move rfl) ?_
  refine xV rfl rfl rfl (v_not rfl) ?_
  refine xV rfl rfl rfl (v_move rfl) ?_
  refine rl_split (s := 37) rfl (fun g5_2 => ?_) (fun g5_2 => ?_)
  · try with_reducible exact ft_elim g5_2
    all_goals
      try replace g5_2 := of_decide_eq_true g5_2
      simp at g5_2
  · try with_reducible exact tf_elim g5_2
    all_goals
      try replace g5_2 := of_decide_eq_false g5_2
      refine rl_vg (met_on rfl rfl rfl rfl) rfl rfl (S := fun _ => True) trivial (v_move rfl) ?_
      refine rl_vg (met_on rfl rfl rfl rfl) rfl rfl (S := fun _ => True) trivial (v_eqlNil T.ptr_42 rfl rfl) ?_
      refine xV rfl rfl rfl (v_pick_false rfl rfl) ?_
      refine xV rfl rfl rfl (v_move rfl) ?_
      refine rl_split (s := 41) rfl (fun g5_6 => ?_) (fun g5_6 => ?_)
      · try with_reducible exact ft_elim g5_6
        all_goals
          try replace g5_6 := of_decide_eq_true g5_6
          simp at g5_6
      · try with_reducible exact tf_elim g5_6
        all_goals
          try replace g5_6 := of_decide_eq_false g5_6
          refine rl_vg (met_on rfl rfl rfl rfl) rfl rfl (S := fun _ => True) trivial (v_move rfl) ?_
          refine rl_vg (met_on rfl rfl rfl rfl) rfl rfl (S := fun _ => True) trivial (v_neqF rfl rfl (by omega)) ?_
          refine xV rfl rfl rfl (v_pick_false rfl rfl) ?_
          refine rl_nil (g_le (xK (xS rfl (xS rfl (xS rfl (xS rfl (xS rfl (xS rfl (xS rfl (xS rfl (xS rfl (xS rfl (xS rfl (Fr.le_refl _))))))))))))) ?_)
          refine g_cond_false rfl ?_
          refine g_skip (g_seq ?_)
          refine g_region ?_
          refine xV rfl rfl rfl (v_assign rfl) ?_
          refine rl_nil (g_le (xK (Fr.le_refl _)) ?_)
          refine g_seq (g_seq ?_)
          refine g_region ?_
          refine xV rfl rfl rfl (v_assign rfl) ?_
          refine rl_nil (g_le (xK (Fr.le_refl _)) ?_)
          have hw0 : Sat (envOf W) _ (MdAt m p ⟨size, List.replicate n.toNat ByteArray.empty, [], 0⟩ :: PwAt p ⟨false, 0, 0⟩ :: OwnSl 57 3 (.slice none 0 0) 0 [] :: [RO (hpOf W)]) := (hw.own_nil 57 3).xQ
          refine g_block ?_
          refine g_loopC (σ := Nat × Md × Pw × Value) (fun C x => (11, .int .i64 (x.1 : Nat)) :: (10, x.2.2.2) :: C) [(0, _), (1, _), (2, _), (6, _), (8, _)] (by repeat (first | exact Fr.le_nil _ | refine Fr.le_cons rfl ?_)) (fun z w => z.1 ≤ xs.length ∧ z.2.1.past.length ≤ z.1 ∧ z.2.2.1.ok ∧ z.2.1.size = size ∧ Rp n.toNat z.2.1 ∧ Sat (envOf W) w (MdAt m p z.2.1 :: PwAt p z.2.2.1 :: OwnSl 57 3 (z.2.2.2) (z.2.1.past : List Wr).length ((z.2.1.past : List Wr).flatMap wrCells) :: [RO (hpOf W)])) (fun z => xs.length - z.1) ?_ (0, ⟨size, List.replicate n.toNat ByteArray.empty, [], 0⟩, ⟨false, 0, 0⟩, .slice none 0 0) (by repeat (first | exact Fr.le_nil _ | refine Fr.le_cons rfl ?_)) ⟨by simp, by simp, Pw.ok_new, rfl, ⟨rfl, fun k x h => by simp at h⟩, hw0⟩
          rintro ⟨i, md, pw, sv⟩ w ⟨hi1, hpl, hpk, hmz, hrp, hw⟩ ih
          dsimp only at hi1 hpl hpk hmz hrp hw ih ⊢
          refine g_seq (g_seq ?_)
          refine g_region ?_
          refine xV rfl rfl rfl (v_move rfl) ?_
          refine xV rfl rfl rfl (v_move rfl) ?_
          refine xV rfl rfl rfl (v_lenSlice T.sl_39_50_6 rfl) ?_
          refine xV rfl rfl rfl (v_lss rfl rfl) ?_
          refine rl_nil (g_le (xK (xK (xK (xK (Fr.le_refl _))))) ?_)
          refine g_cond rfl (fun h2 => ?_) (fun h2 => ?_)
          · try with_reducible exact ft_elim h2
            all_goals
              try replace h2 := of_decide_eq_true h2
              refine g_skip (g_seq (g_block (g_seq ?_)))
              have hz := hw
              clear hw
              obtain ⟨b4, o4, x, ecs, rfl, hx, hat1, hl1, hrd⟩ := gx (i : Nat) (by omega) (by omega)
              have hec : ecs = x.cells := hrd.1
              subst hec
              rw [Int.toNat_natCast] at hx hat1
              have hw := hz
              refine g_region ?_
              refine xV rfl rfl rfl (v_move rfl) ?_
              refine xV rfl rfl rfl (v_move rfl) ?_
              refine xV rfl rfl rfl (v_indexAddr T.sl_39_50_6 rfl rfl (by omega) (by omega)) ?_
              refine rl_v rfl rfl rfl (by exact ro_ats hw (by (repeat first | with_reducible exact xH | apply xT); first | done | fail) (by assumption)) (v_loadAgg (vs := [_, _, _, _, _, _]) T.agg_50_6 rfl rfl) ?_
              refine rl_k rfl (k_alloc hw T.zero_50 rfl rfl (fun bk11_4 w hw => ?_))
              refine rl_k rfl (k_storeWhole hw T.agg_50_6 rfl rfl (by simp [Value.oneCell']) rfl (by (repeat first | with_reducible exact xH | apply xT); first | done | fail) rfl (fun w hw => ?_))
              refine rl_nil (g_le (xK (xK (xK (xK (xK (Fr.le_refl _)))))) ?_)
              refine g_seq ?_
              refine g_region ?_
              refine xV rfl rfl rfl (v_fieldAddr0 T.fld_50_3_3 rfl) ?_
              refine rl_v rfl rfl rfl (by exact sat_cell hw (by (repeat first | with_reducible exact xH | apply xT); first | done | fail) rfl) (v_load T.scal_3 rfl) ?_
              refine xV rfl rfl rfl (v_assign rfl) ?_
              refine rl_nil (g_le (xK (xK (xK (Fr.le_refl _)))) ?_)
              refine g_seq (g_seq ?_)
              refine g_region ?_
              refine xV rfl rfl rfl (v_fieldAddr0 T.fld_50_0_0 rfl) ?_
              refine rl_v rfl rfl rfl (by exact sat_cell hw (by (repeat first | with_reducible exact xH | apply xT); first | done | fail) rfl) (v_load T.scal_3 rfl) ?_
              refine xV rfl rfl rfl (v_eql rfl rfl) ?_
              refine rl_nil (g_le (xK (xK (xK (Fr.le_refl _)))) ?_)
              refine g_cutc (σ := Int) (fun C x => (13, .int .i64 x) :: C) [(0, _), (1, _), (2, _), (6, _), (8, _), (10, _), (11, _), (12, _), (45, _), (46, _), (47, _), (48, _), (51, _), (52, _), (53, _), (54, _), (55, _), (56, _), (57, _), (58, _), (59, _)] (by repeat (first | exact Fr.le_nil _ | refine Fr.le_cons rfl ?_)) (fun z w => Sat (envOf W) w (MdAt m p md :: PwAt p pw :: OwnSl 57 3 (sv) (md.past : List Wr).length ((md.past : List Wr).flatMap wrCells) :: pt bk11_4 (.cells [Value.int .i64 x.kind, .bool x.on, .int .i64 x.seg, .int .i64 x.at_, .int .i64 x.n, .string x.bytes].toArray 50 (0, 0)) :: [RO (hpOf W)])) ?_ ?_
              · skip
                rintro at_ w hw
                all_goals
                  refine g_seq ?_
                  refine g_region ?_
                  refine xV rfl rfl rfl (v_fieldAddr0 T.fld_50_0_0 rfl) ?_
                  refine rl_v rfl rfl rfl (by exact sat_cell hw (by (repeat first | with_reducible exact xH | apply xT); first | done | fail) rfl) (v_load T.scal_3 rfl) ?_
                  refine rl_nil (g_le (xK (xK (Fr.le_refl _))) ?_)
                  refine g_cutc (σ := Md × Pw × Value) (fun C x => (10, x.2.2) :: C) [(0, _), (1, _), (2, _), (6, _), (8, _), (11, _), (12, _), (13, _), (45, _), (46, _), (47, _), (48, _), (51, _), (52, _), (53, _), (54, _), (55, _), (56, _), (57, _), (58, _), (59, _), (64, _), (65, _)] (by repeat (first | exact Fr.le_nil _ | refine Fr.le_cons rfl ?_)) (fun z w => z.1.past.length ≤ i + 1 ∧ z.2.1.ok ∧ z.1.size = size ∧ Rp n.toNat z.1 ∧ Sat (envOf W) w (MdAt m p z.1 :: PwAt p z.2.1 :: OwnSl 57 3 (z.2.2) (z.1.past : List Wr).length ((z.1.past : List Wr).flatMap wrCells) :: [RO (hpOf W)])) ?_ ?_
                  · skip
                    rintro ⟨md2, pw2, sv2⟩ w ⟨hpl2, hpk2, hmz2, hrp2, hw⟩
                    dsimp only at hpl2 hpk2 hmz2 hrp2 hw ⊢
                    all_goals
                      refine g_inBlock ?_
                      refine g_region ?_
                      refine xV rfl rfl rfl (v_move rfl) ?_
                      refine xV rfl rfl rfl (v_add rfl rfl (by omega)) ?_
                      refine xV rfl rfl rfl (v_assign rfl) ?_
                      refine rl_nil (g_le (xK (xK (xK (Fr.le_refl _)))) ?_)
                      exact g_le (by repeat (first | exact Fr.le_nil _ | refine Fr.le_cons rfl ?_)) (ih (i + 1, md2, pw2, sv2) w ⟨by simp only; omega, by simp only; omega, hpk2, hmz2, hrp2, hw.xQ⟩ (by simp only; omega))
                  · intro joinb2
                    refine g_block (g_seq (g_seq ?_))
                    refine g_region ?_
                    refine xV rfl rfl rfl (v_eql rfl rfl) ?_
                    refine xV rfl rfl rfl (v_assign rfl) ?_
                    refine rl_nil (g_le (xK (xK (Fr.le_refl _))) ?_)
                    refine g_cond rfl (fun h4 => ?_) (fun h4 => ?_)
                    · try with_reducible exact ft_elim h4
                      all_goals
                        try replace h4 := of_decide_eq_true h4
                        refine g_skip ?_
                        refine g_cond rfl (fun h5 => ?_) (fun h5 => ?_)
                        · try with_reducible exact ft_elim h5
                          all_goals
                            try replace h5 := of_decide_eq_true h5
                            refine g_seq ?_
                            refine g_region ?_
                            refine xV rfl rfl rfl (v_move rfl) ?_
                            refine xV rfl rfl rfl (v_fieldAddr0 T.fld_50_2_2 rfl) ?_
                            refine rl_v rfl rfl rfl (by exact sat_cell hw (by (repeat first | with_reducible exact xH | apply xT); first | done | fail) rfl) (v_load T.scal_3 rfl) ?_
                            refine xV rfl rfl rfl (v_move rfl) ?_
                            refine xV rfl rfl rfl (v_fieldAddr0 T.fld_50_5_5 rfl) ?_
                            refine rl_v rfl rfl rfl (by exact sat_cell hw (by (repeat first | with_reducible exact xH | apply xT); first | done | fail) rfl) (v_load T.scal_9 rfl) ?_
                            refine rl_k rfl (k_callf Try.func27 rfl rfl rfl rfl ?_)
                            refine Calls.mono (mwrite_calls m p md pw x.seg at_ x.bytes hpk (by omega) (hw.xQ)) ?_
                            have hwr := wr_two x.seg at_ x.bytes (s := md) hpk
                            generalize md.write pw x.seg at_ x.bytes = r at hwr ⊢
                            rintro _ w ⟨rfl, hw⟩
                            refine ⟨_, rfl, ?_⟩
                            refine xV rfl rfl rfl (v_assign rfl) ?_
                            refine rl_nil (g_le (xK (xK (xK (xK (xK (xK (xK (xK (Fr.le_refl _))))))))) ?_)
                            refine g_seq ?_
                            refine g_region ?_
                            refine xV rfl rfl rfl (v_move rfl) ?_
                            refine xV rfl rfl rfl (v_eql rfl rfl) ?_
                            refine rl_nil (g_le (xK (xK (Fr.le_refl _))) ?_)
                            refine g_cond rfl (fun h6 => ?_) (fun h6 => ?_)
                            · try with_reducible exact ft_elim h6
                              all_goals
                                try replace h6 := of_decide_eq_true h6
                                obtain ⟨_, hr1, hok2, his, ha0, ha1, ha2⟩ := hwr.resolve_left (fun h => h.1 h6)
                                have hrp9 := rp_put hrp x.bytes his ha0 ha1 ha2
                                have hsz9 : (md.put x.seg at_ x.bytes).size = size := hmz
                                have hfm : (md.put x.seg at_ x.bytes).past.flatMap wrCells = md.past.flatMap wrCells ++ [.int .i64 x.seg, .int .i64 at_, .string x.bytes] := by
                                  show (md.past ++ [(x.seg, at_, x.bytes)]).flatMap wrCells = _
                                  rw [List.flatMap_append]; rfl
                                have hln : (md.put x.seg at_ x.bytes).past.length = md.past.length + 1 := by
                                  show (md.past ++ [(x.seg, at_, x.bytes)]).length = _
                                  simp
                                rw [hr1] at hw
                                generalize md.put x.seg at_ x.bytes = md3 at *
                                obtain ⟨sa, sc, rfl, _, _, hsa⟩ := (hw.xP (A := OwnSl 57 3 (sv) (md.past : List Wr).length ((md.past : List Wr).flatMap wrCells))).own_shape
                                have hlen := wr_len md.past
                                have hone := wr_ones md.past
                                refine g_region ?_
                                refine xV rfl rfl rfl (v_move rfl) ?_
                                refine xV rfl rfl rfl (v_fieldAddr0 T.fld_50_2_2 rfl) ?_
                                refine rl_v rfl rfl rfl (by exact sat_cell hw (by (repeat first | with_reducible exact xH | apply xT); first | done | fail) rfl) (v_load T.scal_3 rfl) ?_
                                refine xV rfl rfl rfl (v_move rfl) ?_
                                refine xV rfl rfl rfl (v_fieldAddr0 T.fld_50_5_5 rfl) ?_
                                refine rl_v rfl rfl rfl (by exact sat_cell hw (by (repeat first | with_reducible exact xH | apply xT); first | done | fail) rfl) (v_load T.scal_9 rfl) ?_
                                refine xV rfl rfl rfl (v_build rfl (T.build_57_0_1_2 ..)) ?_
                                refine rl_k rfl (k_buildSlice (cells := [_, _, _]) hw T.sl_46_57_3 T.zero_57 rfl rfl rfl rfl rfl rfl (fun bk20_7 w hw => ?_))
                                refine rl_k rfl (k_append (news := [_, _, _]) hw T.sl_46_57_3 T.zero_57 T.bytes_57_32 rfl (by decide) rfl rfl (by (repeat first | with_reducible exact xH | apply xT); first | done | fail) rfl (by exact sat_cells hw (by (repeat first | with_reducible exact xH | apply xT); first | done | fail) ⟨rfl, rfl, rfl, trivial⟩) (by simp [Value.oneCell']) (by omega) (by simp only [maxLen]; omega) rfl (fun vv20_8 w hw hnil => ?_))
                                refine xV rfl rfl rfl (v_assign rfl) ?_
                                refine rl_nil (g_le (xK (xK (xK (xK (xK (xK (xK (xK (xK (xK (Fr.le_refl _))))))))))) ?_)
                                refine g_inBlock ?_
                                rw [← hfm, ← hln] at hw
                                exact joinb2 (md3, r.2.2, _) _ _ (by repeat (first | exact Fr.le_nil _ | refine Fr.le_cons rfl ?_)) ⟨by simp only; omega, hok2, hsz9, hrp9, hw.xQ⟩
                            · try with_reducible exact tf_elim h6
                              all_goals
                                try replace h6 := of_decide_eq_false h6
                                refine g_skip (g_inBlock ?_)
                                obtain ⟨_, hr1, hok2⟩ := hwr.resolve_right (fun h => h6 h.1)
                                rw [hr1] at hw
                                exact joinb2 (md, r.2.2, sv) _ _ (by repeat (first | exact Fr.le_nil _ | refine Fr.le_cons rfl ?_)) ⟨by simp only; omega, hok2, hmz, hrp, hw.xQ⟩
                        · try with_reducible exact tf_elim h5
                          all_goals
                            try replace h5 := of_decide_eq_false h5
                            refine g_seq ?_
                            refine g_region ?_
                            refine xV rfl rfl rfl (v_eqlT rfl rfl (by omega)) ?_
                            refine xV rfl rfl rfl (v_assign rfl) ?_
                            refine rl_nil (g_le (xK (xK (Fr.le_refl _))) ?_)
                            refine g_cond rfl (fun h7 => ?_) (fun h7 => ?_)
                            · try with_reducible exact ft_elim h7
                              all_goals
                                try replace h7 := of_decide_eq_true h7
                                refine g_drawR ord_f10_r22_M12R (by kernel_rfl) T.mixed hw (fun w hw => ?_)
                                refine rs_a 0 rfl rfl rfl rfl (v_move rfl) ?_
                                refine rs_a 1 rfl rfl rfl rfl (v_nilCheck rfl) ?_
                                refine rs_a 2 rfl rfl rfl rfl (v_fieldAddr0 T.fld_48_0_0 rfl) ?_
                                refine rs_a 4 rfl rfl rfl rfl (v_fieldAddr0 T.fld_50_4_4 rfl) ?_
                                refine rs_v 3 rfl rfl rfl rfl (OpV.mono (v_load T.scal_24 rfl) (fun w hw => by exact md_ptr12 (hw.xP (A := MdAt m p md)))) (by exact hw) ?_
                                refine rs_kv 5 rfl rfl rfl rfl (by exact sat_cell hw (by (repeat first | with_reducible exact xH | apply xT); first | done | fail) rfl) (v_load T.scal_3 rfl) ?_
                                refine rs_k 6 rfl rfl (k_callf Try.func19 rfl rfl rfl rfl ?_)
                                refine Calls.mono (cut_calls p pw x.n (hw.xP (A := PwAt p pw))) ?_
                                rintro _ w ⟨rfl, hw⟩
                                refine ⟨_, rfl, ?_⟩
                                refine ⟨fun hn => absurd (by decide) hn, ?_⟩
                                refine rs_done (g_le (xS rfl (xK (xK (xK (xK (xK (xK (Fr.le_refl _)))))))) ?_)
                                refine g_inBlock ?_
                                exact joinb2 (md, pw.cut x.n, sv) _ _ (by repeat (first | exact Fr.le_nil _ | refine Fr.le_cons rfl ?_)) ⟨by simp only; omega, Pw.ok_cut hpk _, hmz, hrp, hw.xQ⟩
                            · try with_reducible exact tf_elim h7
                              all_goals
                                try replace h7 := of_decide_eq_false h7
                                refine g_seq ?_
                                refine g_region ?_
                                first | (refine xV rfl rfl rfl (v_eqlT rfl rfl (by first | omega | rfl)) ?_) | (refine xV rfl rfl rfl (v_eqlF rfl rfl (by omega)) ?_) | (refine xV rfl rfl rfl (v_eql rfl rfl) ?_)
                                refine xV rfl rfl rfl (v_assign rfl) ?_
                                refine rl_nil (g_le (xK (xK (Fr.le_refl _))) ?_)
                                refine g_cond rfl (fun h8 => ?_) (fun h8 => ?_)
                                · try with_reducible exact ft_elim h8
                                  all_goals
                                    try replace h8 := of_decide_eq_true h8
                                    refine g_region ?_
                                    refine xV rfl rfl rfl (v_move rfl) ?_
                                    refine xV rfl rfl rfl (v_nilCheck rfl) ?_
                                    first | (refine xV rfl rfl rfl (v_fieldAddr0 T.fld_48_0_0 rfl) ?_) | (refine xV rfl rfl rfl (v_fieldAddr T.fld_48_0_0 rfl) ?_)
                                    refine rl_v rfl rfl rfl (by exact md_ptr12 (hw.xP (A := MdAt m p md))) (v_load T.scal_24 rfl) ?_
                                    refine rl_k rfl (k_callf Try.func16 rfl rfl rfl rfl ?_)
                                    refine Calls.mono (restore_calls p pw (hw.xP (A := PwAt p pw))) ?_
                                    rintro _ w ⟨rfl, hw⟩
                                    refine ⟨_, rfl, ?_⟩
                                    refine rl_nil (g_le (xS rfl (xK (xK (xK (xK (Fr.le_refl _)))))) ?_)
                                    refine g_inBlock ?_
                                    exact joinb2 (md, pw.restore, sv) _ _ (by repeat (first | exact Fr.le_nil _ | refine Fr.le_cons rfl ?_)) ⟨by simp only; omega, Pw.ok_restore hpk, hmz, hrp, hw.xQ⟩
                                · try with_reducible exact tf_elim h8
                                  all_goals
                                    try replace h8 := of_decide_eq_false h8
                                    refine g_skip (g_inBlock ?_)
                                    exact joinb2 (md, pw, sv) _ _ (by repeat (first | exact Fr.le_nil _ | refine Fr.le_cons rfl ?_)) ⟨by simp only; omega, hpk, hmz, hrp, hw.xQ⟩
                    · try with_reducible exact tf_elim h4
                      all_goals
                        try replace h4 := of_decide_eq_false h4
                        refine g_region ?_
                        refine xV rfl rfl rfl (v_eql rfl rfl) ?_
                        refine xV rfl rfl rfl (v_assign rfl) ?_
                        refine rl_nil (g_le (xK (xK (Fr.le_refl _))) ?_)
                        refine g_cond rfl (fun h5 => ?_) (fun h5 => ?_)
                        · try with_reducible exact ft_elim h5
                          all_goals
                            try replace h5 := of_decide_eq_true h5
                            refine g_seq ?_
                            refine g_region ?_
                            refine xV rfl rfl rfl (v_move rfl) ?_
                            refine xV rfl rfl rfl (v_fieldAddr0 T.fld_50_2_2 rfl) ?_
                            refine rl_v rfl rfl rfl (by exact sat_cell hw (by (repeat first | with_reducible exact xH | apply xT); first | done | fail) rfl) (v_load T.scal_3 rfl) ?_
                            refine xV rfl rfl rfl (v_move rfl) ?_
                            refine xV rfl rfl rfl (v_fieldAddr0 T.fld_50_5_5 rfl) ?_
                            refine rl_v rfl rfl rfl (by exact sat_cell hw (by (repeat first | with_reducible exact xH | apply xT); first | done | fail) rfl) (v_load T.scal_9 rfl) ?_
                            refine rl_k rfl (k_callf Try.func27 rfl rfl rfl rfl ?_)
                            refine Calls.mono (mwrite_calls m p md pw x.seg at_ x.bytes hpk (by omega) (hw.xQ)) ?_
                            have hwr := wr_two x.seg at_ x.bytes (s := md) hpk
                            generalize md.write pw x.seg at_ x.bytes = r at hwr ⊢
                            rintro _ w ⟨rfl, hw⟩
                            refine ⟨_, rfl, ?_⟩
                            refine xV rfl rfl rfl (v_assign rfl) ?_
                            refine rl_nil (g_le (xK (xK (xK (xK (xK (xK (xK (xK (Fr.le_refl _))))))))) ?_)
                            refine g_seq ?_
                            refine g_region ?_
                            refine xV rfl rfl rfl (v_move rfl) ?_
                            refine xV rfl rfl rfl (v_eql rfl rfl) ?_
                            refine rl_nil (g_le (xK (xK (Fr.le_refl _))) ?_)
                            refine g_cond rfl (fun h6 => ?_) (fun h6 => ?_)
                            · try with_reducible exact ft_elim h6
                              all_goals
                                try replace h6 := of_decide_eq_true h6
                                obtain ⟨_, hr1, hok2, his, ha0, ha1, ha2⟩ := hwr.resolve_left (fun h => h.1 h6)
                                have hrp9 := rp_put hrp x.bytes his ha0 ha1 ha2
                                have hsz9 : (md.put x.seg at_ x.bytes).size = size := hmz
                                have hfm : (md.put x.seg at_ x.bytes).past.flatMap wrCells = md.past.flatMap wrCells ++ [.int .i64 x.seg, .int .i64 at_, .string x.bytes] := by
                                  show (md.past ++ [(x.seg, at_, x.bytes)]).flatMap wrCells = _
                                  rw [List.flatMap_append]; rfl
                                have hln : (md.put x.seg at_ x.bytes).past.length = md.past.length + 1 := by
                                  show (md.past ++ [(x.seg, at_, x.bytes)]).length = _
                                  simp
                                rw [hr1] at hw
                                generalize md.put x.seg at_ x.bytes = md3 at *
                                obtain ⟨sa, sc, rfl, _, _, hsa⟩ := (hw.xP (A := OwnSl 57 3 (sv) (md.past : List Wr).length ((md.past : List Wr).flatMap wrCells))).own_shape
                                have hlen := wr_len md.past
                                have hone := wr_ones md.past
                                refine g_region ?_
                                refine xV rfl rfl rfl (v_move rfl) ?_
                                refine xV rfl rfl rfl (v_fieldAddr0 T.fld_50_2_2 rfl) ?_
                                refine rl_v rfl rfl rfl (by exact sat_cell hw (by (repeat first | with_reducible exact xH | apply xT); first | done | fail) rfl) (v_load T.scal_3 rfl) ?_
                                refine xV rfl rfl rfl (v_move rfl) ?_
                                refine xV rfl rfl rfl (v_fieldAddr0 T.fld_50_5_5 rfl) ?_
                                refine rl_v rfl rfl rfl (by exact sat_cell hw (by (repeat first | with_reducible exact xH | apply xT); first | done | fail) rfl) (v_load T.scal_9 rfl) ?_
                                refine xV rfl rfl rfl (v_build rfl (T.build_57_0_1_2 ..)) ?_
                                refine rl_k rfl (k_buildSlice (cells := [_, _, _]) hw T.sl_46_57_3 T.zero_57 rfl rfl rfl rfl rfl rfl (fun bk20_7 w hw => ?_))
                                refine rl_k rfl (k_append (news := [_, _, _]) hw T.sl_46_57_3 T.zero_57 T.bytes_57_32 rfl (by decide) rfl rfl (by (repeat first | with_reducible exact xH | apply xT); first | done | fail) rfl (by exact sat_cells hw (by (repeat first | with_reducible exact xH | apply xT); first | done | fail) ⟨rfl, rfl, rfl, trivial⟩) (by simp [Value.oneCell']) (by omega) (by simp only [maxLen]; omega) rfl (fun vv20_8 w hw hnil => ?_))
                                refine xV rfl rfl rfl (v_assign rfl) ?_
                                refine rl_nil (g_le (xK (xK (xK (xK (xK (xK (xK (xK (xK (xK (Fr.le_refl _))))))))))) ?_)
                                refine g_inBlock ?_
                                rw [← hfm, ← hln] at hw
                                exact joinb2 (md3, r.2.2, _) _ _ (by repeat (first | exact Fr.le_nil _ | refine Fr.le_cons rfl ?_)) ⟨by simp only; omega, hok2, hsz9, hrp9, hw.xQ⟩
                            · try with_reducible exact tf_elim h6
                              all_goals
                                try replace h6 := of_decide_eq_false h6
                                refine g_skip (g_inBlock ?_)
                                obtain ⟨_, hr1, hok2⟩ := hwr.resolve_right (fun h => h6 h.1)
                                rw [hr1] at hw
                                exact joinb2 (md, r.2.2, sv) _ _ (by repeat (first | exact Fr.le_nil _ | refine Fr.le_cons rfl ?_)) ⟨by simp only; omega, hok2, hmz, hrp, hw.xQ⟩
                        · try with_reducible exact tf_elim h5
                          all_goals
                            try replace h5 := of_decide_eq_false h5
                            refine g_seq ?_
                            refine g_region ?_
                            refine xV rfl rfl rfl (v_eql rfl rfl) ?_
                            refine xV rfl rfl rfl (v_assign rfl) ?_
                            refine rl_nil (g_le (xK (xK (Fr.le_refl _))) ?_)
                            refine g_cond rfl (fun h7 => ?_) (fun h7 => ?_)
                            · try with_reducible exact ft_elim h7
                              all_goals
                                try replace h7 := of_decide_eq_true h7
                                refine g_drawR ord_f10_r22_M12R (by kernel_rfl) T.mixed hw (fun w hw => ?_)
                                refine rs_a 0 rfl rfl rfl rfl (v_move rfl) ?_
                                refine rs_a 1 rfl rfl rfl rfl (v_nilCheck rfl) ?_
                                refine rs_a 2 rfl rfl rfl rfl (v_fieldAddr0 T.fld_48_0_0 rfl) ?_
                                refine rs_a 4 rfl rfl rfl rfl (v_fieldAddr0 T.fld_50_4_4 rfl) ?_
                                refine rs_v 3 rfl rfl rfl rfl (OpV.mono (v_load T.scal_24 rfl) (fun w hw => by exact md_ptr12 (hw.xP (A := MdAt m p md)))) (by exact hw) ?_
                                refine rs_kv 5 rfl rfl rfl rfl (by exact sat_cell hw (by (repeat first | with_reducible exact xH | apply xT); first | done | fail) rfl) (v_load T.scal_3 rfl) ?_
                                refine rs_k 6 rfl rfl (k_callf Try.func19 rfl rfl rfl rfl ?_)
                                refine Calls.mono (cut_calls p pw x.n (hw.xP (A := PwAt p pw))) ?_
                                rintro _ w ⟨rfl, hw⟩
                                refine ⟨_, rfl, ?_⟩
                                refine ⟨fun hn => absurd (by decide) hn, ?_⟩
                                refine rs_done (g_le (xS rfl (xK (xK (xK (xK (xK (xK (Fr.le_refl _)))))))) ?_)
                                refine g_inBlock ?_
                                exact joinb2 (md, pw.cut x.n, sv) _ _ (by repeat (first | exact Fr.le_nil _ | refine Fr.le_cons rfl ?_)) ⟨by simp only; omega, Pw.ok_cut hpk _, hmz, hrp, hw.xQ⟩
                            · try with_reducible exact tf_elim h7
                              all_goals
                                try replace h7 := of_decide_eq_false h7
                                refine g_seq ?_
                                refine g_region ?_
                                refine xV rfl rfl rfl (v_eql rfl rfl) ?_
                                refine xV rfl rfl rfl (v_assign rfl) ?_
                                refine rl_nil (g_le (xK (xK (Fr.le_refl _))) ?_)
                                refine g_cond rfl (fun h8 => ?_) (fun h8 => ?_)
                                · try with_reducible exact ft_elim h8
                                  all_goals
                                    try replace h8 := of_decide_eq_true h8
                                    refine g_region ?_
                                    refine xV rfl rfl rfl (v_move rfl) ?_
                                    refine xV rfl rfl rfl (v_nilCheck rfl) ?_
                                    refine xV rfl rfl rfl (v_fieldAddr0 T.fld_48_0_0 rfl) ?_
                                    refine rl_v rfl rfl rfl (by exact md_ptr12 (hw.xP (A := MdAt m p md))) (v_load T.scal_24 rfl) ?_
                                    refine rl_k rfl (k_callf Try.func16 rfl rfl rfl rfl ?_)
                                    refine Calls.mono (restore_calls p pw (hw.xP (A := PwAt p pw))) ?_
                                    rintro _ w ⟨rfl, hw⟩
                                    refine ⟨_, rfl, ?_⟩
                                    refine rl_nil (g_le (xS rfl (xK (xK (xK (xK (Fr.le_refl _)))))) ?_)
                                    refine g_inBlock ?_
                                    exact joinb2 (md, pw.restore, sv) _ _ (by repeat (first | exact Fr.le_nil _ | refine Fr.le_cons rfl ?_)) ⟨by simp only; omega, Pw.ok_restore hpk, hmz, hrp, hw.xQ⟩
                                · try with_reducible exact tf_elim h8
                                  all_goals
                                    try replace h8 := of_decide_eq_false h8
                                    refine g_skip (g_inBlock ?_)
                                    exact joinb2 (md, pw, sv) _ _ (by repeat (first | exact Fr.le_nil _ | refine Fr.le_cons rfl ?_)) ⟨by simp only; omega, hpk, hmz, hrp, hw.xQ⟩
              · intro joinc3
                refine g_cond rfl (fun h3 => ?_) (fun h3 => ?_)
                · try with_reducible exact ft_elim h3
                  all_goals
                    try replace h3 := of_decide_eq_true h3
                    refine g_region ?_
                    refine xV rfl rfl rfl (v_move rfl) ?_
                    refine xV rfl rfl rfl (v_fieldAddr0 T.fld_50_2_2 rfl) ?_
                    refine rl_v rfl rfl rfl (by exact sat_cell hw (by (repeat first | with_reducible exact xH | apply xT); first | done | fail) rfl) (v_load T.scal_3 rfl) ?_
                    refine rl_k rfl (k_callf Try.func26 rfl rfl rfl rfl ?_)
                    refine Calls.mono (mused_calls m p md x.seg (hw.xP (A := MdAt m p md))) ?_
                    rintro _ w ⟨rfl, hw⟩
                    refine ⟨_, rfl, ?_⟩
                    refine xV rfl rfl rfl (v_assign rfl) ?_
                    refine rl_nil (g_le (xK (xK (xK (xK (xK (Fr.le_refl _)))))) ?_)
                    exact joinc3 _ _ _ (by repeat (first | exact Fr.le_nil _ | refine Fr.le_cons rfl ?_)) (hw.xQ)
                · try with_reducible exact tf_elim h3
                  all_goals
                    try replace h3 := of_decide_eq_false h3
                    refine g_skip ?_
                    exact joinc3 _ _ _ (by repeat (first | exact Fr.le_nil _ | refine Fr.le_cons rfl ?_)) (hw.xQ)
          · try with_reducible exact tf_elim h2
            all_goals
              try replace h2 := of_decide_eq_false h2
              refine g_exit rfl (g_seq (g_seq ?_))
              obtain ⟨sa, sc, rfl, _, _, hsa⟩ := (hw.xP (A := OwnSl 57 3 (sv) (md.past : List Wr).length ((md.past : List Wr).flatMap wrCells))).own_shape
              refine g_region ?_
              refine xV rfl rfl rfl (v_move rfl) ?_
              refine xV rfl rfl rfl (v_move rfl) ?_
              refine rl_k rfl (k_callf Try.func43 rfl rfl rfl rfl ?_)
              refine Calls.mono (goes_calls (s := md) (by omega) (hw.xQ)) ?_
              rintro _ w ⟨rfl, hw⟩
              refine ⟨_, rfl, ?_⟩
              refine xV rfl rfl rfl (v_not rfl) ?_
              refine xV rfl rfl rfl (v_move rfl) ?_
              refine rl_split (s := 107) rfl (fun g25_4 => ?_) (fun g25_4 => ?_)
              · try with_reducible exact ft_elim g25_4
                all_goals
                  try replace g25_4 := of_decide_eq_true g25_4
                  simp at g25_4
              · try with_reducible exact tf_elim g25_4
                all_goals
                  try replace g25_4 := of_decide_eq_false g25_4
                  refine rl_vg (met_on rfl rfl rfl rfl) rfl rfl (S := fun _ => True) trivial (v_move rfl) ?_
                  refine rl_kg (met_on rfl rfl rfl rfl) (k_callf Try.func28 rfl rfl rfl rfl ?_)
                  refine Calls.mono (mcount_calls m p md (hw.xP (A := MdAt m p md))) ?_
                  rintro _ w ⟨rfl, hw⟩
                  refine ⟨_, rfl, ?_⟩
                  refine rl_vg (met_on rfl rfl rfl rfl) rfl rfl (S := fun _ => True) trivial (v_move rfl) ?_
                  refine rl_vg (met_on rfl rfl rfl rfl) rfl rfl (S := fun _ => True) trivial (v_lenSlice T.sl_46_57_3 rfl) ?_
                  refine rl_vg (met_on rfl rfl rfl rfl) rfl rfl (S := fun _ => True) trivial (v_neqF rfl rfl (by omega)) ?_
                  refine xV rfl rfl rfl (v_pick_false rfl rfl) ?_
                  refine rl_nil (g_le (xK (xS rfl (xS rfl (xS rfl (xS rfl (xS rfl (xS rfl (xS rfl (xS rfl (xS rfl (xS rfl (xS rfl (Fr.le_refl _))))))))))))) ?_)
                  refine g_cond rfl (fun h9 => ?_) (fun h9 => ?_)
                  · try with_reducible exact ft_elim h9
                    all_goals
                      try replace h9 := of_decide_eq_true h9
                      omega
                  · try with_reducible exact tf_elim h9
                    all_goals
                      try replace h9 := of_decide_eq_false h9
                      refine g_skip (g_seq ?_)
                      have hrl := rp_len hrp
                      refine g_region ?_
                      refine xV rfl rfl rfl (v_move rfl) ?_
                      refine rl_k rfl (k_makeSlice hw T.sl_85_9_1 T.zero_9 T.bytes_9_16 rfl rfl (by omega) (by omega) (by omega) (by omega) rfl (fun bk27_1 w hw => ?_))
                      refine xV rfl rfl rfl (v_assign rfl) ?_
                      refine rl_nil (g_le (xK (xS rfl (xS rfl (Fr.le_refl _)))) ?_)
                      refine g_seq (g_seq ?_)
                      rw [made_one _ rfl _ _ (Nat.le_refl _)] at hw
                      have e : (playW n.toNat (md.past.take 0)).map Value.string = List.replicate n.toNat (Value.string ByteArray.empty) := by rw [List.take_zero]; exact List.map_replicate
                      rw [← e] at hw
                      refine g_region ?_
                      refine xV rfl rfl rfl (v_assign rfl) ?_
                      refine rl_nil (g_le (xK (Fr.le_refl _)) ?_)
                      refine g_block ?_
                      refine g_loopC (σ := Nat) (fun C x => (16, .int .i64 (x : Nat)) :: C) [(0, _), (1, _), (6, _), (8, _), (10, _), (15, _)] (by repeat (first | exact Fr.le_nil _ | refine Fr.le_cons rfl ?_)) (fun z w => z ≤ md.past.length ∧ Sat (envOf W) w (OwnSl 9 1 ((.slice (some ⟨bk27_1, 0, none⟩) n.toNat n.toNat)) n.toNat ((playW n.toNat (md.past.take z) : List ByteArray).map Value.string) :: MdAt m p md :: OwnSl 57 3 ((.slice sa md.past.length sc)) (md.past : List Wr).length ((md.past : List Wr).flatMap wrCells) :: [RO (hpOf W)])) (fun z => md.past.length - z) ?_ 0 (by repeat (first | exact Fr.le_nil _ | refine Fr.le_cons rfl ?_)) ⟨by simp, hw.xQ⟩
                      rintro j w ⟨hj, hw⟩ ih
                      refine g_seq (g_seq ?_)
                      refine g_region ?_
                      refine xV rfl rfl rfl (v_move rfl) ?_
                      refine xV rfl rfl rfl (v_move rfl) ?_
                      refine xV rfl rfl rfl (v_lenSlice T.sl_46_57_3 rfl) ?_
                      refine xV rfl rfl rfl (v_lss rfl rfl) ?_
                      refine rl_nil (g_le (xK (xK (xK (xK (Fr.le_refl _))))) ?_)
                      refine g_cond rfl (fun h10 => ?_) (fun h10 => ?_)
                      · try with_reducible exact ft_elim h10
                        all_goals
                          try replace h10 := of_decide_eq_true h10
                          refine g_skip (g_seq (g_block (g_seq ?_)))
                          obtain ⟨g, rfl⟩ := hsa (by omega)
                          have hx : md.past[j]? = some md.past[j] := List.getElem?_eq_getElem (by omega)
                          generalize md.past[j] = y at hx
                          have hsub := subAt_flat (f := wrCells) (sz := 3) (fun _ => rfl) hx
                          rw [show 0 + j * 3 = 0 + (j : Int).toNat * 3 by omega] at hsub
                          dsimp only [wrCells] at hsub
                          obtain ⟨hy0, hy1, hy2, hy3, hy4⟩ := hrp.2 j y hx
                          have hcl := playW_len n.toNat (md.past.take j)
                          have hps : playW n.toNat (md.past.take (j + 1)) = stepW (playW n.toNat (md.past.take j)) y := by rw [List.take_add_one, hx]; exact playW_snoc _ _ _
                          generalize playW n.toNat (md.past.take j) = cur at *
                          have hc : cur[y.1.toNat]? = some cur[y.1.toNat] := List.getElem?_eq_getElem (by omega)
                          generalize cur[y.1.toNat] = s0 at hc
                          rw [hc, Option.getD_some] at hy3
                          have hnow : (cur.map Value.string)[0 + y.1.toNat * 1]? = some (.string s0) := by rw [Nat.zero_add, Nat.mul_one, List.getElem?_map, hc]; rfl
                          have hst : 0 + y.1.toNat * 1 < (cur.map Value.string).length := by rw [List.length_map]; omega
                          have hex : (s0.extract 0 y.2.1.toNat).size ≤ y.2.1.toNat := by rw [ByteArray.size_extract]; omega
                          refine g_region ?_
                          refine xV rfl rfl rfl (v_move rfl) ?_
                          refine xV rfl rfl rfl (v_move rfl) ?_
                          refine xV rfl rfl rfl (v_indexAddr T.sl_46_57_3 rfl rfl (by omega) (by omega)) ?_
                          refine rl_v rfl rfl rfl (by exact own_cells hw (by (repeat first | with_reducible exact xH | apply xT); first | done | fail) (by assumption)) (v_loadAgg (vs := [_, _, _]) T.agg_57_3 rfl rfl) ?_
                          refine rl_k rfl (k_alloc hw T.zero_57 rfl rfl (fun bk31_4 w hw => ?_))
                          refine rl_k rfl (k_storeWhole hw T.agg_57_3 rfl rfl (by simp [Value.oneCell']) rfl (by (repeat first | with_reducible exact xH | apply xT); first | done | fail) rfl (fun w hw => ?_))
                          refine rl_nil (g_le (xK (xK (xK (xK (xK (Fr.le_refl _)))))) ?_)
                          refine g_seq (g_seq ?_)
                          refine g_drawR ord_f10_r32_M12R (by kernel_rfl) T.mixed hw (fun w hw => ?_)
                          refine rs_kv 0 rfl rfl rfl rfl (S' := fun _ => True) trivial (v_fieldAddr0 T.fld_57_0_0 rfl) ?_
                          refine rs_kv 1 rfl rfl rfl rfl (by exact sat_cell hw (by (repeat first | with_reducible exact xH | apply xT); first | done | fail) rfl) (v_load T.scal_3 rfl) ?_
                          refine rs_kv 2 rfl rfl rfl rfl (S' := fun _ => True) trivial (v_lssF rfl rfl (by omega)) ?_
                          refine rs_kv 3 rfl rfl rfl rfl (S' := fun _ => True) trivial (v_move rfl) ?_
                          refine rs_split (s := 129) rfl (fun g32_3 => ?_) (fun g32_3 => ?_)
                          · try with_reducible exact ft_elim g32_3
                            all_goals
                              try replace g32_3 := of_decide_eq_true g32_3
                              omega
                          · try with_reducible exact tf_elim g32_3
                            all_goals
                              try replace g32_3 := of_decide_eq_false g32_3
                              refine rs_ag 4 rfl (met_on rfl rfl rfl rfl) rfl rfl (v_fieldAddr0 T.fld_57_0_0 rfl) ?_
                              refine rs_ag 6 rfl (met_on rfl rfl rfl rfl) rfl rfl (v_move rfl) ?_
                              refine rs_kvg 5 rfl (met_on rfl rfl rfl rfl) rfl rfl (by exact sat_cell hw (by (repeat first | with_reducible exact xH | apply xT); first | done | fail) rfl) (v_load T.scal_3 rfl) ?_
                              refine rs_kvg 7 rfl (met_on rfl rfl rfl rfl) rfl rfl (S' := fun _ => True) trivial (v_geqF rfl rfl (by omega)) ?_
                              refine rs_kv 8 rfl rfl rfl rfl (S' := fun _ => True) trivial (v_pick_false rfl rfl) ?_
                              refine rs_kv 9 rfl rfl rfl rfl (S' := fun _ => True) trivial (v_move rfl) ?_
                              refine rs_split (s := 135) rfl (fun g32_9 => ?_) (fun g32_9 => ?_)
                              · try with_reducible exact ft_elim g32_9
                                all_goals
                                  try replace g32_9 := of_decide_eq_true g32_9
                                  omega
                              · try with_reducible exact tf_elim g32_9
                                all_goals
                                  try replace g32_9 := of_decide_eq_false g32_9
                                  refine rs_kvg 10 rfl (met_on rfl rfl rfl rfl) rfl rfl (S' := fun _ => True) trivial (v_fieldAddr0 T.fld_57_1_1 rfl) ?_
                                  refine rs_kvg 11 rfl (met_on rfl rfl rfl rfl) rfl rfl (by exact sat_cell hw (by (repeat first | with_reducible exact xH | apply xT); first | done | fail) rfl) (v_load T.scal_3 rfl) ?_
                                  refine rs_kvg 12 rfl (met_on rfl rfl rfl rfl) rfl rfl (S' := fun _ => True) trivial (v_lssF rfl rfl (by omega)) ?_
                                  refine rs_kv 13 rfl rfl rfl rfl (S' := fun _ => True) trivial (v_pick_false rfl rfl) ?_
                                  refine rs_kv 14 rfl rfl rfl rfl (S' := fun _ => True) trivial (v_move rfl) ?_
                                  refine rs_split (s := 140) rfl (fun g32_14 => ?_) (fun g32_14 => ?_)
                                  · try with_reducible exact ft_elim g32_14
                                    all_goals
                                      try replace g32_14 := of_decide_eq_true g32_14
                                      omega
                                  · try with_reducible exact tf_elim g32_14
                                    all_goals
                                      try replace g32_14 := of_decide_eq_false g32_14
                                      refine rs_ag 15 rfl (met_on rfl rfl rfl rfl) rfl rfl (v_fieldAddr0 T.fld_57_1_1 rfl) ?_
                                      refine rs_ag 17 rfl (met_on rfl rfl rfl rfl) rfl rfl (v_move rfl) ?_
                                      refine rs_ag 18 rfl (met_on rfl rfl rfl rfl) rfl rfl (v_fieldAddr0 T.fld_57_0_0 rfl) ?_
                                      refine rs_vg 16 rfl (met_on rfl rfl rfl rfl) rfl rfl (OpV.mono (v_load T.scal_3 rfl) (fun w hw => by exact sat_cell hw (by (repeat first | with_reducible exact xH | apply xT); first | done | fail) rfl)) (by exact hw) ?_
                                      refine rs_kvg 19 rfl (met_on rfl rfl rfl rfl) rfl rfl (by exact sat_cell hw (by (repeat first | with_reducible exact xH | apply xT); first | done | fail) rfl) (v_load T.scal_3 rfl) ?_
                                      refine rs_kvg 20 rfl (met_on rfl rfl rfl rfl) rfl rfl (S' := fun _ => True) trivial (v_indexAddr T.sl_85_9_1 rfl rfl (by omega) (by omega)) ?_
                                      refine rs_kvg 21 rfl (met_on rfl rfl rfl rfl) rfl rfl (by exact own_cell hw (by (repeat first | with_reducible exact xH | apply xT); first | done | fail) (by first | rfl | assumption)) (v_load T.scal_9 rfl) ?_
                                      refine rs_kvg 22 rfl (met_on rfl rfl rfl rfl) rfl rfl (S' := fun _ => True) trivial (v_lenStr T.str_9 rfl) ?_
                                      refine rs_kvg 23 rfl (met_on rfl rfl rfl rfl) rfl rfl (S' := fun _ => True) trivial (v_gtrF rfl rfl (by omega)) ?_
                                      refine rs_kv 24 rfl rfl rfl rfl (S' := fun _ => True) trivial (v_pick_false rfl rfl) ?_
                                      refine rs_done (g_le (xK (xK (xK (xK (xK (xK (xK (xK (xK (xK (xK (xK (xK (xK (xK (xK (xK (xK (xK (xK (xK (xK (xK (xK (xK (xK (xK (xK (Fr.le_refl _))))))))))))))))))))))))))))) ?_)
                                      refine g_cond rfl (fun h11 => ?_) (fun h11 => ?_)
                                      · try with_reducible exact ft_elim h11
                                        all_goals
                                          try replace h11 := of_decide_eq_true h11
                                          omega
                                      · try with_reducible exact tf_elim h11
                                        all_goals
                                          try replace h11 := of_decide_eq_false h11
                                          refine g_skip ?_
                                          refine g_drawR ord_f10_r34_M12R (by kernel_rfl) T.mixed hw (fun w hw => ?_)
                                          refine rs_a 0 rfl rfl rfl rfl (v_move rfl) ?_
                                          refine rs_a 1 rfl rfl rfl rfl (v_fieldAddr0 T.fld_57_0_0 rfl) ?_
                                          refine rs_a 3 rfl rfl rfl rfl (v_move rfl) ?_
                                          refine rs_a 4 rfl rfl rfl rfl (v_fieldAddr0 T.fld_57_0_0 rfl) ?_
                                          refine rs_a 8 rfl rfl rfl rfl (v_fieldAddr0 T.fld_57_1_1 rfl) ?_
                                          refine rs_a 11 rfl rfl rfl rfl (v_fieldAddr0 T.fld_57_2_2 rfl) ?_
                                          refine rs_v 2 rfl rfl rfl rfl (OpV.mono (v_load T.scal_3 rfl) (fun w hw => by exact sat_cell hw (by (repeat first | with_reducible exact xH | apply xT); first | done | fail) rfl)) (by exact hw) ?_
                                          refine rs_v 5 rfl rfl rfl rfl (OpV.mono (v_load T.scal_3 rfl) (fun w hw => by exact sat_cell hw (by (repeat first | with_reducible exact xH | apply xT); first | done | fail) rfl)) (by exact hw) ?_
                                          refine rs_a 6 rfl rfl rfl rfl (v_indexAddr T.sl_85_9_1 rfl rfl (by omega) (by omega)) ?_
                                          refine rs_v 7 rfl rfl rfl rfl (OpV.mono (v_load T.scal_9 rfl) (fun w hw => by exact own_cell hw (by (repeat first | with_reducible exact xH | apply xT); first | done | fail) (by first | rfl | assumption))) (by exact hw) ?_
                                          refine rs_v 9 rfl rfl rfl rfl (OpV.mono (v_load T.scal_3 rfl) (fun w hw => by exact sat_cell hw (by (repeat first | with_reducible exact xH | apply xT); first | done | fail) rfl)) (by exact hw) ?_
                                          refine rs_a 10 rfl rfl rfl rfl (v_sliceStrTo T.str_9 rfl rfl (by omega) (by omega)) ?_
                                          refine rs_kv 12 rfl rfl rfl rfl (by exact sat_cell hw (by (repeat first | with_reducible exact xH | apply xT); first | done | fail) rfl) (v_load T.scal_9 rfl) ?_
                                          refine rs_kv 13 rfl rfl rfl rfl (S' := fun _ => True) trivial (v_addStr rfl rfl (by omega)) ?_
                                          refine rs_kv 14 rfl rfl rfl rfl (S' := fun _ => True) trivial (v_indexAddr T.sl_85_9_1 rfl rfl (by omega) (by omega)) ?_
                                          refine rs_k 15 rfl rfl (k_storeOwn hw T.scal_9 rfl rfl rfl (by (repeat first | with_reducible exact xH | apply xT); first | done | fail) (by assumption) (fun w hw => ?_))
                                          refine ⟨fun hn => absurd (by decide) hn, ?_⟩
                                          refine rs_done (g_le (xK (xK (xK (xK (xK (xK (xK (xK (xK (xK (xK (xK (xK (xK (xK (Fr.le_refl _)))))))))))))))) ?_)
                                          refine g_inBlock ?_
                                          refine g_region ?_
                                          refine xV rfl rfl rfl (v_move rfl) ?_
                                          refine xV rfl rfl rfl (v_add rfl rfl (by omega)) ?_
                                          refine xV rfl rfl rfl (v_assign rfl) ?_
                                          refine rl_nil (g_le (xK (xK (xK (Fr.le_refl _)))) ?_)
                                          have hset : (cur.map Value.string).set (0 + y.1.toNat * 1) (Value.string (s0.extract 0 y.2.1.toNat ++ y.2.2)) = (stepW cur y).map Value.string := by
                                            unfold stepW; rw [List.map_set, hc, Nat.zero_add, Nat.mul_one]; rfl
                                          rw [hset, ← hps] at hw
                                          exact g_le (by repeat (first | exact Fr.le_nil _ | refine Fr.le_cons rfl ?_)) (ih (j + 1) w ⟨by omega, hw.xQ⟩ (by omega))
                      · try with_reducible exact tf_elim h10
                        all_goals
                          try replace h10 := of_decide_eq_false h10
                          refine g_exit rfl (g_seq (g_seq ?_))
                          obtain rfl : j = md.past.length := by omega
                          rw [List.take_length, hrp.1] at hw
                          refine g_region ?_
                          refine xV rfl rfl rfl (v_assign rfl) ?_
                          refine rl_nil (g_le (xK (Fr.le_refl _)) ?_)
                          refine g_block ?_
                          refine g_loopC (σ := Nat) (fun C x => (18, .int .i64 (x : Nat)) :: C) [(0, _), (1, _), (6, _), (8, _), (15, _)] (by repeat (first | exact Fr.le_nil _ | refine Fr.le_cons rfl ?_)) (fun z w => (z : Int) ≤ n ∧ Sat (envOf W) w (OwnSl 9 1 ((.slice (some ⟨bk27_1, 0, none⟩) n.toNat n.toNat)) n.toNat ((md.segs : List ByteArray).map Value.string) :: MdAt m p md :: [RO (hpOf W)])) (fun z => n.toNat - z) ?_ 0 (by repeat (first | exact Fr.le_nil _ | refine Fr.le_cons rfl ?_)) ⟨by omega, hw.xQ⟩
                          rintro j w ⟨hj, hw⟩ ih
                          refine g_seq (g_seq ?_)
                          refine g_region ?_
                          refine xV rfl rfl rfl (v_move rfl) ?_
                          refine xV rfl rfl rfl (v_move rfl) ?_
                          refine xV rfl rfl rfl (v_lss rfl rfl) ?_
                          refine rl_nil (g_le (xK (xK (xK (Fr.le_refl _)))) ?_)
                          refine g_cond rfl (fun h12 => ?_) (fun h12 => ?_)
                          · try with_reducible exact ft_elim h12
                            all_goals
                              try replace h12 := of_decide_eq_true h12
                              refine g_skip (g_seq (g_block (g_seq ?_)))
                              have hji : md.is (j : Int) := ⟨by omega, by omega⟩
                              have hra := Md.read_all hji
                              have hsl := Md.seg_le (md_open (hw.xP (A := MdAt m p md))).1 hji
                              have hnow : (md.segs.map Value.string)[0 + (j : Int).toNat * 1]? = some (.string (md.seg j)) := by rw [Nat.zero_add, Nat.mul_one, List.getElem?_map, Md.seg_at hji]; rfl
                              refine g_region ?_
                              refine xV rfl rfl rfl (v_move rfl) ?_
                              refine xV rfl rfl rfl (v_move rfl) ?_
                              refine xV rfl rfl rfl (v_move rfl) ?_
                              refine xV rfl rfl rfl (v_move rfl) ?_
                              refine rl_k rfl (k_callf Try.func26 rfl rfl rfl rfl ?_)
                              refine Calls.mono (mused_calls m p md j (hw.xP (A := MdAt m p md))) ?_
                              rintro _ w ⟨rfl, hw⟩
                              refine ⟨_, rfl, ?_⟩
                              refine rl_k rfl (k_callf Try.func29 rfl rfl rfl rfl ?_)
                              refine Calls.mono (mread_eq m p md j 0 (md.used j) 0 (md.seg j) (by omega) hra hw) ?_
                              rintro _ w ⟨rfl, hw⟩
                              refine ⟨_, rfl, ?_⟩
                              refine xV rfl rfl rfl (v_move rfl) ?_
                              refine xV rfl rfl rfl (v_extract rfl rfl) ?_
                              refine xV rfl rfl rfl (v_extract rfl rfl) ?_
                              refine xV rfl rfl rfl (v_assign rfl) ?_
                              refine xV rfl rfl rfl (v_assign rfl) ?_
                              refine rl_nil (g_le (xK (xK (xK (xK (xK (xK (xK (xK (xK (xK (xK (Fr.le_refl _)))))))))))) ?_)
                              refine g_seq ?_
                              refine g_region ?_
                              refine xV rfl rfl rfl (v_move rfl) ?_
                              refine xV rfl rfl rfl (v_neqF rfl rfl (by omega)) ?_
                              refine xV rfl rfl rfl (v_move rfl) ?_
                              refine rl_split (s := 182) rfl (fun g39_2 => ?_) (fun g39_2 => ?_)
                              · try with_reducible exact ft_elim g39_2
                                all_goals
                                  try replace g39_2 := of_decide_eq_true g39_2
                                  refine rl_off (met_off rfl rfl rfl rfl rfl) rfl rfl ?_
                                  refine rl_off (met_off rfl rfl rfl rfl rfl) rfl rfl ?_
                                  refine rl_off (met_off rfl rfl rfl rfl rfl) rfl rfl ?_
                                  refine rl_off (met_off rfl rfl rfl rfl rfl) rfl rfl ?_
                                  refine rl_off (met_off rfl rfl rfl rfl rfl) rfl rfl ?_
                                  refine rl_off (met_off rfl rfl rfl rfl rfl) rfl rfl ?_
                                  first | (refine xV rfl rfl rfl (v_pick_true rfl rfl) ?_) | (refine xV rfl rfl rfl (v_pick_false rfl rfl) ?_) | (refine xV rfl rfl rfl (v_pick rfl rfl rfl) ?_)
                                  refine xV rfl rfl rfl (v_move rfl) ?_
                                  refine rl_off (met_off rfl rfl rfl rfl rfl) rfl rfl ?_
                                  refine rl_off (met_off rfl rfl rfl rfl rfl) rfl rfl ?_
                                  refine rl_off (met_off rfl rfl rfl rfl rfl) rfl rfl ?_
                                  refine rl_off (met_off rfl rfl rfl rfl rfl) rfl rfl ?_
                                  first | (refine xV rfl rfl rfl (v_pick_true rfl rfl) ?_) | (refine xV rfl rfl rfl (v_pick_false rfl rfl) ?_) | (refine xV rfl rfl rfl (v_pick rfl rfl rfl) ?_)
                                  refine rl_nil (g_le (xK (xK (xK (xK (xK (xK (xK (xK (xK (xK (xK (xK (xK (xK (xK (xK (xK (Fr.le_refl _)))))))))))))))))) ?_)
                                  refine g_cond_true rfl ?_
                                  refine g_seq ?_
                                  refine g_region ?_
                                  refine xV rfl rfl rfl (v_assign rfl) ?_
                                  refine rl_nil (g_le (xK (Fr.le_refl _)) ?_)
                                  refine g_ret1 Try.func10 rfl rfl ?_
                                  exact ⟨rfl, hw⟩
                              · try with_reducible exact tf_elim g39_2
                                all_goals
                                  try replace g39_2 := of_decide_eq_false g39_2
                                  refine rl_vg (met_on rfl rfl rfl rfl) rfl rfl (S := fun _ => True) trivial (v_move rfl) ?_
                                  refine rl_vg (met_on rfl rfl rfl rfl) rfl rfl (S := fun _ => True) trivial (v_move rfl) ?_
                                  refine rl_vg (met_on rfl rfl rfl rfl) rfl rfl (S := fun _ => True) trivial (v_move rfl) ?_
                                  refine rl_vg (met_on rfl rfl rfl rfl) rfl rfl (S := fun _ => True) trivial (v_indexAddr T.sl_85_9_1 rfl rfl (by omega) (by omega)) ?_
                                  refine rl_vg (met_on rfl rfl rfl rfl) rfl rfl (by exact own_cell hw (by (repeat first | with_reducible exact xH | apply xT); first | done | fail) (by first | rfl | assumption)) (v_load T.scal_9 rfl) ?_
                                  refine rl_vg (met_on rfl rfl rfl rfl) rfl rfl (S := fun _ => True) trivial (v_neqStrF rfl rfl (by first | rfl | assumption)) ?_
                                  refine xV rfl rfl rfl (v_pick_false rfl rfl) ?_
                                  refine xV rfl rfl rfl (v_move rfl) ?_
                                  refine rl_split (s := 190) rfl (fun g39_10 => ?_) (fun g39_10 => ?_)
                                  · try with_reducible exact ft_elim g39_10
                                    all_goals
                                      try replace g39_10 := of_decide_eq_true g39_10
                                      simp at g39_10
                                  · try with_reducible exact tf_elim g39_10
                                    all_goals
                                      try replace g39_10 := of_decide_eq_false g39_10
                                      refine rl_vg (met_on rfl rfl rfl rfl) rfl rfl (S := fun _ => True) trivial (v_move rfl) ?_
                                      refine rl_vg (met_on rfl rfl rfl rfl) rfl rfl (S := fun _ => True) trivial (v_lenStr T.str_9 rfl) ?_
                                      refine rl_vg (met_on rfl rfl rfl rfl) rfl rfl (S := fun _ => True) trivial (v_move rfl) ?_
                                      refine rl_vg (met_on rfl rfl rfl rfl) rfl rfl (S := fun _ => True) trivial (v_gtrF rfl rfl (by omega)) ?_
                                      refine xV rfl rfl rfl (v_pick_false rfl rfl) ?_
                                      refine rl_nil (g_le (xK (xK (xK (xK (xK (xK (xK (xK (xK (xK (xK (xK (xK (xK (xK (xK (xK (xK (Fr.le_refl _))))))))))))))))))) ?_)
                                      refine g_cond rfl (fun h13 => ?_) (fun h13 => ?_)
                                      · try with_reducible exact ft_elim h13
                                        all_goals
                                          try replace h13 := of_decide_eq_true h13
                                          omega
                                      · try with_reducible exact tf_elim h13
                                        all_goals
                                          try replace h13 := of_decide_eq_false h13
                                          refine g_skip (g_inBlock ?_)
                                          refine g_region ?_
                                          refine xV rfl rfl rfl (v_move rfl) ?_
                                          refine xV rfl rfl rfl (v_add rfl rfl (by omega)) ?_
                                          refine xV rfl rfl rfl (v_assign rfl) ?_
                                          refine rl_nil (g_le (xK (xK (xK (Fr.le_refl _)))) ?_)
                                          exact g_le (by repeat (first | exact Fr.le_nil _ | refine Fr.le_cons rfl ?_)) (ih (j + 1) w ⟨by omega, hw.xQ⟩ (by omega))
                          · try with_reducible exact tf_elim h12
                            all_goals
                              try replace h12 := of_decide_eq_false h12
                              refine g_exit rfl (g_seq ?_)
                              refine g_region ?_
                              refine xV rfl rfl rfl (v_assign rfl) ?_
                              refine rl_nil (g_le (xK (Fr.le_refl _)) ?_)
                              refine g_ret1 Try.func10 rfl rfl ?_
                              exact ⟨rfl, hw.xQ⟩
set_option maxRecDepth 100000 in
theorem MediumReplays_lifted (os : Os) (started : os.Started) (H : Type) (enc : TypeId × Value → H) :
    ReturnsInHanded {} Try.checked os 10 .any (Rows.mediumReplaysSpec.pre6 enc Try.prog Try.f10 Rows.mediumReplaysRow.domain false) (Rows.mediumReplaysSpec.post enc Try.prog Try.f10 false true false false) := by
  refine returnsInHanded_of_change_sized (C := Try.checked) T.own started (by kernel_rfl) Try.func10
    (ChangeSpec.witness6 (enc := enc) (C := Try.checked) false ⟨#[], #[(.int .i64 0), (.int .i64 0), (.slice none 0 0)], []⟩ 8 (by kernel_rfl) (by kernel_rfl) (by kernel_rfl) (by kernel_rfl)) ?_
  intro W base args ds gs before hval0 hW hcnd hsz0 _
  have hval : ∀ (j : Nat) t v, Try.f10.params[j]? = some t → args[j]? = some v → Value.okWide Try.prog W .any base t v := hval0
  have hW' := hW
  obtain ⟨p, q, hA0, hV, rfl, hfz, hnd⟩ := hW
  have hA : DataW.TrodAll enc Try.prog W 0 (fun _ => true) true Try.f10.params.toList args.toList ds p := hA0
  obtain ⟨rfl, rfl⟩ := trodVars_none hV
  have hsz : (DataW.weightsEach Try.prog (Try.f10.params.toList ++ []) (ds ++ [])).all (· ≤ reachBytes) = true := hsz0
  rw [List.append_nil, List.append_nil] at hsz
  rw [Try.params10] at hA hval hsz
  obtain ⟨v0, vs0, d0, ds0, p0, q0, hargs, rfl, rfl, h0, r0⟩ := trodAll_cons hA
  obtain ⟨v1, vs1, d1, ds1, p1, q1, rfl, rfl, rfl, h1, r1⟩ := trodAll_cons r0
  obtain ⟨v2, vs2, d2, ds2, p2, q2, rfl, rfl, rfl, h2, r2⟩ := trodAll_cons r1
  obtain ⟨rfl, rfl, rfl⟩ := trodAll_nil r2
  obtain rfl : args = #[v0, v1, v2] := by cases args; simp_all
  have lt0 : ∀ x ∈ p0, x.block < W.heap.size := by obtain ⟨m, hm⟩ := h0; exact DataW.trod_lt m _ _ _ hm
  obtain ⟨x0, w0⟩ := arg_of (j := 0) (reads_int T.int_3_i64) h0 hsz rfl rfl
  have lt1 : ∀ x ∈ p1, x.block < W.heap.size := by obtain ⟨m, hm⟩ := h1; exact DataW.trod_lt m _ _ _ hm
  obtain ⟨x1, w1⟩ := arg_of (j := 1) (reads_int T.int_3_i64) h1 hsz rfl rfl
  have lt2 : ∀ x ∈ p2, x.block < W.heap.size := by obtain ⟨m, hm⟩ := h2; exact DataW.trod_lt m _ _ _ hm
  obtain ⟨x2, w2⟩ := arg_of (j := 2) (reads_sl T.sl_39_50_6 T.bytes_50_56 (by decide) reads_Op12) h2 hsz rfl rfl
  obtain ⟨n0, rfl⟩ := okWide_int Try.underlying3 (hval 0 3 v0 rfl rfl)
  obtain ⟨n1, rfl⟩ := okWide_int Try.underlying3 (hval 1 3 v1 rfl rfl)
  obtain ⟨a2, l2, c2, rfl⟩ := okWide_slice Try.underlying39 (hval 2 39 v2 rfl rfl)
  obtain ⟨hc0, hr0⟩ := w0
  cases hc0
  obtain ⟨hc1, hr1⟩ := w1
  cases hc1
  refine (MediumReplays_law hr0 hr1 w2).mono fun e W' ⟨he, hb⟩ => ?_
  have bel := hb.below
  subst he
  exact ⟨_, rfl, _, _, _, [], _, [], hW', trodAll_mk1 (shut_bool Try.underlying4 _), (trodAll_cons_mk (Below.trod T.laidOut (by kernel_rfl) (of_decide_eq_true (by kernel_rfl)) h0 bel lt0) (trodAll_cons_mk (Below.trod T.laidOut (by kernel_rfl) (of_decide_eq_true (by kernel_rfl)) h1 bel lt1) (trodAll_cons_mk (Below.trod T.laidOut (by kernel_rfl) (of_decide_eq_true (by kernel_rfl)) h2 bel lt2) trodAll_mk0))), rfl, bel.frame _, fun h => by cases h⟩
theorem MediumReplays_holds : Rows.MediumReplaysSaid :=
  OpenClaim.holds_of_wide 10 Try.f10 rfl rfl rfl rfl rfl rfl rfl ⟨rfl, rfl, rfl, rfl, rfl⟩ rfl rfl rfl rfl rfl (by kernel_rfl) Try.func10 (by kernel_rfl)
    (of_decide_eq_true (by kernel_rfl)) (by unfold Func.isWrapper; rw [if_neg (of_decide_eq_false (by kernel_rfl))]; exact ⟨rfl, rfl⟩)
    (fun os started H enc _ => MediumReplays_lifted os started H enc)
#print axioms MediumReplays_holds
end Go.Proofs.Ytdebodbkggbjeaa
