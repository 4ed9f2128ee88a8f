/-
  The cell (layer 13) and its reference: what each of their calls does.
-/
import Derived.Test.YtdebodbkggbjeaaP11
namespace Go.Proofs.Ytdebodbkggbjeaa
set_option linter.unusedSimpArgs false
set_option linter.unusedVariables false
open Go Xe

abbrev nil : ByteArray := ByteArray.mk #[]
/-- A cell's slots, and its raw writes. -/
structure Cs where
  a : ByteArray
  b : ByteArray
  n : Int
@[reducible] def CellAt (c p : Nat) (s : Cs) : As := pt c (.cells [Value.pointer (some ⟨p, 0, none⟩), .string s.a, .string s.b, .int .i64 s.n].toArray 72 (0, 0))
@[reducible] def RcAt (c p : Nat) (s : Cs) : As := pt c (.cells [Value.pointer (some ⟨p, 0, none⟩), .string s.a, .string s.b, .int .i64 s.n].toArray 97 (0, 0))
def Cs.get (s : Cs) (i : Int) : ByteArray := if i = 0 then s.a else s.b
def Cs.put (s : Cs) (i : Int) (v : ByteArray) : Cs := if i = 0 then ⟨v, s.b, IntKind.i64.wrap (s.n + 1)⟩ else ⟨s.a, v, IntKind.i64.wrap (s.n + 1)⟩
def Cs.lay (s : Cs) (pw : Pw) (i : Int) (v : ByteArray) : Int × Cs × Pw := if pw.spend.1 = 0 then (0, s.put i v, pw.spend.2) else (pw.spend.1, s, pw.spend.2)
def Cs.set (s : Cs) (pw : Pw) (i : Int) (v : ByteArray) : Int × Cs × Pw :=
  if i = 0 ∨ i = 1 then (if s.get i ≠ nil then (131, s, pw) else if v = nil ∨ 200 < (v.size : Int) then (2, s, pw) else s.lay pw i v) else (130, s, pw)
def Cs.erase (s : Cs) (pw : Pw) (i : Int) : Int × Cs × Pw :=
  if i = 0 ∨ i = 1 then (if s.get i = nil then (132, s, pw) else s.lay pw i nil) else (130, s, pw)
def Cs.told (s : Cs) (i : Int) : ByteArray × Bool := if i = 0 ∨ i = 1 then (s.get i, decide (s.get i ≠ nil)) else (nil, false)
/-- The first k slots that are set. -/
def Cs.upto (s : Cs) (k : Int) : List Int := (if 0 < k ∧ s.a ≠ nil then [0] else []) ++ (if 1 < k ∧ s.b ≠ nil then [1] else [])
@[reducible] def IntsAt (v : Value) (xs : List Int) : As := OwnSl 3 1 v xs.length (xs.map (Value.int .i64))

theorem cnew_calls {E : Env} {w : World} {L : List As} (p : Nat) (hw : Sat E w L) :
    Calls Try.prog 33 #[.pointer (some ⟨p, 0, none⟩)] w fun e w' => ∃ c, e = .returned (.pointer (some ⟨c, 0, none⟩)) ∧ Sat E w' (CellAt c p ⟨nil, nil, 0⟩ :: L) := by
  refine calls_of_g (n := 8) Try.func33 rfl rfl rfl ?_
  change G _ _ _ _ _ [(0, _)] _
  repeat (first | refine g_seq ?_ | refine g_skip ?_ | refine g_inBlock ?_ | refine g_block ?_ | refine g_label ?_)
  refine g_region ?_
  refine rl_v rfl rfl rfl (S := fun _ => True) trivial (v_assign rfl) ?_
  refine rl_nil (g_le (Fr.le_keep (Fr.le_refl _)) ?_)
  repeat (first | refine g_seq ?_ | refine g_skip ?_ | refine g_inBlock ?_ | refine g_block ?_ | refine g_label ?_)
  refine g_region ?_
  refine rl_v rfl rfl rfl (S := fun _ => True) trivial (v_move rfl) ?_
  refine rl_v rfl rfl rfl (S := fun _ => True) trivial (v_eqlNil T.ptr_24 rfl rfl) ?_
  refine rl_nil (g_le (Fr.le_keep (Fr.le_skip rfl (Fr.le_refl _))) ?_)
  repeat (first | refine g_seq ?_ | refine g_skip ?_ | refine g_inBlock ?_ | refine g_block ?_ | refine g_label ?_)
  refine g_cond_false rfl ?_
  repeat (first | refine g_seq ?_ | refine g_skip ?_ | refine g_inBlock ?_ | refine g_block ?_ | refine g_label ?_)
  refine g_region ?_
  refine rl_v rfl rfl rfl (S := fun _ => True) trivial (v_move rfl) ?_
  refine rl_v rfl rfl rfl (S := fun _ => True) trivial (v_build rfl (T.build_72_0 ..)) ?_
  refine rl_k rfl (k_box hw rfl rfl rfl (fun blk w hw => ?_))
  refine rl_v rfl rfl rfl (S := fun _ => True) trivial (v_assign rfl) ?_
  refine rl_nil (g_le (Fr.le_keep (Fr.le_skip rfl (Fr.le_skip rfl (Fr.le_skip rfl (Fr.le_refl _))))) ?_)
  refine g_ret1 Try.func33 rfl rfl ?_
  exact ⟨_, rfl, hw⟩
theorem cnil_calls {E : Env} {w : World} {L : List As} (hw : Sat E w L) :
    Calls Try.prog 33 #[.pointer none] w fun e w' => e = .returned (.pointer none) ∧ Sat E w' L := by
  refine calls_of_g (n := 8) Try.func33 rfl rfl rfl ?_
  change G _ _ _ _ _ [(0, _)] _
  repeat (first | refine g_seq ?_ | refine g_skip ?_ | refine g_inBlock ?_ | refine g_block ?_ | refine g_label ?_)
  refine g_region ?_
  refine rl_v rfl rfl rfl (S := fun _ => True) trivial (v_assign rfl) ?_
  refine rl_nil (g_le (Fr.le_keep (Fr.le_refl _)) ?_)
  repeat (first | refine g_seq ?_ | refine g_skip ?_ | refine g_inBlock ?_ | refine g_block ?_ | refine g_label ?_)
  refine g_region ?_
  refine rl_v rfl rfl rfl (S := fun _ => True) trivial (v_move rfl) ?_
  refine rl_v rfl rfl rfl (S := fun _ => True) trivial (v_eqlNil T.ptr_24 rfl rfl) ?_
  refine rl_nil (g_le (Fr.le_keep (Fr.le_skip rfl (Fr.le_refl _))) ?_)
  repeat (first | refine g_seq ?_ | refine g_skip ?_ | refine g_inBlock ?_ | refine g_block ?_ | refine g_label ?_)
  refine g_cond_true rfl ?_
  repeat (first | refine g_seq ?_ | refine g_skip ?_ | refine g_inBlock ?_ | refine g_block ?_ | refine g_label ?_)
  refine g_region ?_
  refine rl_v rfl rfl rfl (S := fun _ => True) trivial (v_assign rfl) ?_
  refine rl_nil (g_le (Fr.le_keep (Fr.le_refl _)) ?_)
  refine g_ret1 Try.func33 rfl rfl ?_
  exact ⟨rfl, hw⟩

theorem is_calls {E : Env} {w : World} {L : List As} (v : Value) (i : Int) (hw : Sat E w L) :
    Calls Try.prog 57 #[v, .int .i64 i] w fun e w' => e = .returned (.bool (decide (i = 0 ∨ i = 1))) ∧ Sat E w' L := by
  by_cases h : i = 0 ∨ i = 1
  · rw [decide_eq_true h]
    refine calls_of_g (n := 11) Try.func57 rfl rfl rfl ?_
    change G _ _ _ _ _ [(0, _), (1, _)] _
    repeat (first | refine g_seq ?_ | refine g_skip ?_ | refine g_inBlock ?_ | refine g_block ?_ | refine g_label ?_)
    refine g_region ?_
    refine rl_v rfl rfl rfl (S := fun _ => True) trivial (v_assign rfl) ?_
    refine rl_nil (g_le (Fr.le_keep (Fr.le_refl _)) ?_)
    repeat (first | refine g_seq ?_ | refine g_skip ?_ | refine g_inBlock ?_ | refine g_block ?_ | refine g_label ?_)
    refine g_region ?_
    refine rl_v rfl rfl rfl (S := fun _ => True) trivial (v_move rfl) ?_
    first | (refine rl_v rfl rfl rfl (S := fun _ => True) trivial (v_geqT rfl rfl (by omega)) ?_) | (refine rl_v rfl rfl rfl (S := fun _ => True) trivial (v_geqF rfl rfl (by omega)) ?_) | (refine rl_v rfl rfl rfl (S := fun _ => True) trivial (v_geq rfl rfl) ?_)
    refine rl_v rfl rfl rfl (S := fun _ => True) trivial (v_move rfl) ?_
    first | (refine rl_vg (met_on rfl rfl rfl rfl) rfl rfl (S := fun _ => True) trivial (v_move rfl) ?_) | (refine rl_off (by first | exact met_off rfl rfl rfl rfl rfl | exact met_gone rfl rfl rfl rfl) rfl rfl ?_)
    first | (refine rl_vg (met_on rfl rfl rfl rfl) rfl rfl (S := fun _ => True) trivial (v_lssT rfl rfl (by omega)) ?_) | (refine rl_vg (met_on rfl rfl rfl rfl) rfl rfl (S := fun _ => True) trivial (v_lssF rfl rfl (by omega)) ?_) | (refine rl_vg (met_on rfl rfl rfl rfl) rfl rfl (S := fun _ => True) trivial (v_lss rfl rfl) ?_) | (refine rl_off (by first | exact met_off rfl rfl rfl rfl rfl | exact met_gone rfl rfl rfl rfl) rfl rfl ?_)
    first | (refine rl_v rfl rfl rfl (S := fun _ => True) trivial (v_pick_true rfl rfl) ?_) | (refine rl_v rfl rfl rfl (S := fun _ => True) trivial (v_pick_false rfl rfl) ?_) | (refine rl_v rfl rfl rfl (S := fun _ => True) trivial (v_pick rfl rfl rfl) ?_)
    refine rl_v rfl rfl rfl (S := fun _ => True) trivial (v_assign rfl) ?_
    refine rl_nil (g_le (Fr.le_keep (Fr.le_skip rfl (Fr.le_skip rfl (Fr.le_skip rfl (Fr.le_skip rfl (Fr.le_skip rfl (Fr.le_skip rfl (Fr.le_refl _)))))))) ?_)
    refine g_ret1 Try.func57 rfl rfl ?_
    exact ⟨rfl, hw⟩
  · rw [decide_eq_false h]
    refine calls_of_g (n := 11) Try.func57 rfl rfl rfl ?_
    change G _ _ _ _ _ [(0, _), (1, _)] _
    repeat (first | refine g_seq ?_ | refine g_skip ?_ | refine g_inBlock ?_ | refine g_block ?_ | refine g_label ?_)
    refine g_region ?_
    refine rl_v rfl rfl rfl (S := fun _ => True) trivial (v_assign rfl) ?_
    refine rl_nil (g_le (Fr.le_keep (Fr.le_refl _)) ?_)
    all_goals (repeat (first | refine g_seq ?_ | refine g_skip ?_ | refine g_inBlock ?_ | refine g_block ?_ | refine g_label ?_))
    all_goals (refine g_region ?_)
    all_goals (refine rl_v rfl rfl rfl (S := fun _ => True) trivial (v_move rfl) ?_)
    all_goals (first | (refine rl_v rfl rfl rfl (S := fun _ => True) trivial (v_geqT rfl rfl (by omega)) ?_) | (refine rl_v rfl rfl rfl (S := fun _ => True) trivial (v_geqF rfl rfl (by omega)) ?_) | (refine rl_v rfl rfl rfl (S := fun _ => True) trivial (v_geq rfl rfl) ?_))
    all_goals (refine rl_v rfl rfl rfl (S := fun _ => True) trivial (v_move rfl) ?_)
    all_goals (first | refine rl_split_dec (s := 7) rfl (fun hs => ?_) (fun hs => ?_) | refine rl_split (s := 7) rfl (fun hs => ?_) (fun hs => ?_) | skip)
    all_goals (first | (refine rl_vg (met_on rfl rfl rfl rfl) rfl rfl (S := fun _ => True) trivial (v_move rfl) ?_) | (refine rl_off (by first | exact met_off rfl rfl rfl rfl rfl | exact met_gone rfl rfl rfl rfl) rfl rfl ?_))
    all_goals (first | (refine rl_vg (met_on rfl rfl rfl rfl) rfl rfl (S := fun _ => True) trivial (v_lssT rfl rfl (by omega)) ?_) | (refine rl_vg (met_on rfl rfl rfl rfl) rfl rfl (S := fun _ => True) trivial (v_lssF rfl rfl (by omega)) ?_) | (refine rl_vg (met_on rfl rfl rfl rfl) rfl rfl (S := fun _ => True) trivial (v_lss rfl rfl) ?_) | (refine rl_off (by first | exact met_off rfl rfl rfl rfl rfl | exact met_gone rfl rfl rfl rfl) rfl rfl ?_))
    all_goals (first | (refine rl_v rfl rfl rfl (S := fun _ => True) trivial (v_pick_true rfl rfl) ?_) | (refine rl_v rfl rfl rfl (S := fun _ => True) trivial (v_pick_false rfl rfl) ?_) | (refine rl_v rfl rfl rfl (S := fun _ => True) trivial (v_pick rfl rfl rfl) ?_))
    all_goals (refine rl_v rfl rfl rfl (S := fun _ => True) trivial (v_assign rfl) ?_)
    all_goals (refine rl_nil ?_)
    · refine g_ret1 Try.func57 rfl rfl ?_
      exact ⟨rfl, hw⟩
    · refine g_ret1 Try.func57 rfl rfl ?_
      exact ⟨rfl, hw⟩

theorem lay_calls {E : Env} {w : World} {L : List As} (c p : Nat) (s : Cs) (pw : Pw) (i : Int) (v : ByteArray) (hi : i = 0 ∨ i = 1) (hok : pw.ok) (hw : Sat E w (CellAt c p s :: PwAt p pw :: L)) :
    Calls Try.prog 58 #[.pointer (some ⟨c, 0, none⟩), .int .i64 i, .string v] w
      fun e w' => e = .returned (.int .i64 (s.lay pw i v).1) ∧ Sat E w' (CellAt c p (s.lay pw i v).2.1 :: PwAt p (s.lay pw i v).2.2 :: L) := by
  obtain ⟨a, b, n⟩ := s
  rcases hi with rfl | rfl
  · refine calls_of_g (n := 29) Try.func58 rfl rfl rfl ?_
    change G _ _ _ _ _ [(0, _), (1, _), (2, _)] _
    repeat (first | refine g_seq ?_ | refine g_skip ?_ | refine g_inBlock ?_ | refine g_block ?_ | refine g_label ?_)
    refine g_region ?_
    refine rl_v rfl rfl rfl (S := fun _ => True) trivial (v_assign rfl) ?_
    refine rl_nil (g_le (Fr.le_keep (Fr.le_refl _)) ?_)
    repeat (first | refine g_seq ?_ | refine g_skip ?_ | refine g_inBlock ?_ | refine g_block ?_ | refine g_label ?_)
    refine g_region ?_
    refine rl_v rfl rfl rfl (S := fun _ => True) trivial (v_move rfl) ?_
    refine rl_v rfl rfl rfl (S := fun _ => True) trivial (v_nilCheck rfl) ?_
    first | (refine rl_v rfl rfl rfl (S := fun _ => True) trivial (v_fieldAddr0 T.fld_72_0_0 rfl) ?_) | (refine rl_v rfl rfl rfl (S := fun _ => True) trivial (v_fieldAddr T.fld_72_0_0 rfl) ?_)
    refine rl_v rfl rfl rfl (by first | exact sat_cell hw (by (repeat (first | with_reducible exact Pick.here _ | apply Pick.there)); first | done | fail) rfl | exact own_cell hw (by (repeat (first | with_reducible exact Pick.here _ | apply Pick.there)); first | done | fail) (by first | rfl | assumption) | exact old_cell hw (by (repeat (first | with_reducible exact Pick.here _ | apply Pick.there)); first | done | fail) (by assumption) | assumption) (v_load T.scal_24 rfl) ?_
    refine rl_k rfl (k_callf Try.func22 rfl rfl rfl rfl ?_)
    refine Calls.mono (spend_calls p pw hok (hw.pick (by (repeat (first | with_reducible exact Pick.here _ | apply Pick.there)); first | done | fail))) ?_
    rintro _ w ⟨rfl, hw⟩
    refine ⟨_, rfl, ?_⟩
    refine rl_v rfl rfl rfl (S := fun _ => True) trivial (v_assign rfl) ?_
    refine rl_nil (g_le (Fr.le_keep (Fr.le_skip rfl (Fr.le_skip rfl (Fr.le_skip rfl (Fr.le_skip rfl (Fr.le_skip rfl (Fr.le_refl _))))))) ?_)
    repeat (first | refine g_seq ?_ | refine g_skip ?_ | refine g_inBlock ?_ | refine g_block ?_ | refine g_label ?_)
    refine g_region ?_
    refine rl_v rfl rfl rfl (S := fun _ => True) trivial (v_move rfl) ?_
    first | (refine rl_v rfl rfl rfl (S := fun _ => True) trivial (v_neqT rfl rfl (by omega)) ?_) | (refine rl_v rfl rfl rfl (S := fun _ => True) trivial (v_neqF rfl rfl (by first | omega | rfl)) ?_) | (refine rl_v rfl rfl rfl (S := fun _ => True) trivial (v_neq rfl rfl) ?_)
    refine rl_nil (g_le (Fr.le_keep (Fr.le_skip rfl (Fr.le_refl _))) ?_)
    refine g_cond_dec rfl (fun h => ?_) (fun h => ?_)
    · repeat (first | refine g_seq ?_ | refine g_skip ?_ | refine g_inBlock ?_ | refine g_block ?_ | refine g_label ?_)
      refine g_region ?_
      refine rl_v rfl rfl rfl (S := fun _ => True) trivial (v_move rfl) ?_
      refine rl_v rfl rfl rfl (S := fun _ => True) trivial (v_assign rfl) ?_
      refine rl_nil (g_le (Fr.le_keep (Fr.le_skip rfl (Fr.le_refl _))) ?_)
      refine g_ret1 Try.func58 rfl rfl ?_
      refine ⟨?_, ?_⟩
      · simp [Cs.lay, h]
      · simp only [Cs.lay, if_neg h]
        exact hw.sub (by (repeat (first | with_reducible exact Sub.refl _ | exact Sub.nil _ | (apply Sub.cons; focus ((repeat (first | with_reducible exact Pick.here _ | apply Pick.there)); (first | done | fail))) | with_reducible apply Sub.drop)); first | done | fail)
    · have h : pw.spend.1 = 0 := by omega
      repeat (first | refine g_seq ?_ | refine g_skip ?_ | refine g_inBlock ?_ | refine g_block ?_ | refine g_label ?_)
      refine g_region ?_
      refine rl_v rfl rfl rfl (S := fun _ => True) trivial (v_move rfl) ?_
      refine rl_v rfl rfl rfl (S := fun _ => True) trivial (v_move rfl) ?_
      refine rl_v rfl rfl rfl (S := fun _ => True) trivial (v_move rfl) ?_
      refine rl_v rfl rfl rfl (S := fun _ => True) trivial (v_nilCheck rfl) ?_
      first | (refine rl_v rfl rfl rfl (S := fun _ => True) trivial (v_fieldAddr0 T.fld_72_1_1 rfl) ?_) | (refine rl_v rfl rfl rfl (S := fun _ => True) trivial (v_fieldAddr T.fld_72_1_1 rfl) ?_)
      refine rl_v rfl rfl rfl (S := fun _ => True) trivial (v_indexAddrArr T.arr_70_2_9_1 rfl rfl (by omega) (by omega)) ?_
      first | (refine rl_k rfl (k_storeOwn hw T.scal_9 rfl rfl rfl (by (repeat (first | with_reducible exact Pick.here _ | apply Pick.there)); first | done | fail) (by assumption) (fun w hw => ?_))) | (refine rl_k rfl (k_store hw T.scal_9 rfl rfl rfl (by (repeat (first | with_reducible exact Pick.here _ | apply Pick.there)); first | done | fail) rfl (by first | (simp only [List.set, Int.reduceToNat, Nat.reduceMul, Nat.reduceAdd]; rfl) | rfl) (fun w hw => ?_)))
      refine rl_nil (g_le (Fr.le_skip rfl (Fr.le_skip rfl (Fr.le_skip rfl (Fr.le_skip rfl (Fr.le_skip rfl (Fr.le_skip rfl (Fr.le_refl _))))))) ?_)
      repeat (first | refine g_seq ?_ | refine g_skip ?_ | refine g_inBlock ?_ | refine g_block ?_ | refine g_label ?_)
      refine g_region ?_
      refine rl_v rfl rfl rfl (S := fun _ => True) trivial (v_move rfl) ?_
      refine rl_v rfl rfl rfl (S := fun _ => True) trivial (v_nilCheck rfl) ?_
      first | (refine rl_v rfl rfl rfl (S := fun _ => True) trivial (v_fieldAddr0 T.fld_72_2_3 rfl) ?_) | (refine rl_v rfl rfl rfl (S := fun _ => True) trivial (v_fieldAddr T.fld_72_2_3 rfl) ?_)
      refine rl_v rfl rfl rfl (by first | exact sat_cell hw (by (repeat (first | with_reducible exact Pick.here _ | apply Pick.there)); first | done | fail) rfl | exact own_cell hw (by (repeat (first | with_reducible exact Pick.here _ | apply Pick.there)); first | done | fail) (by first | rfl | assumption) | exact old_cell hw (by (repeat (first | with_reducible exact Pick.here _ | apply Pick.there)); first | done | fail) (by assumption) | assumption) (v_load T.scal_3 rfl) ?_
      first | (refine rl_v rfl rfl rfl (S := fun _ => True) trivial (v_add rfl rfl (by omega)) ?_) | (refine rl_v rfl rfl rfl (S := fun _ => True) trivial (v_addW rfl rfl) ?_)
      refine rl_v rfl rfl rfl (S := fun _ => True) trivial (v_nilCheck rfl) ?_
      first | (refine rl_v rfl rfl rfl (S := fun _ => True) trivial (v_fieldAddr0 T.fld_72_2_3 rfl) ?_) | (refine rl_v rfl rfl rfl (S := fun _ => True) trivial (v_fieldAddr T.fld_72_2_3 rfl) ?_)
      first | (refine rl_k rfl (k_storeOwn hw T.scal_3 rfl rfl rfl (by (repeat (first | with_reducible exact Pick.here _ | apply Pick.there)); first | done | fail) (by assumption) (fun w hw => ?_))) | (refine rl_k rfl (k_store hw T.scal_3 rfl rfl rfl (by (repeat (first | with_reducible exact Pick.here _ | apply Pick.there)); first | done | fail) rfl (by first | (simp only [List.set, Int.reduceToNat, Nat.reduceMul, Nat.reduceAdd]; rfl) | rfl) (fun w hw => ?_)))
      refine rl_nil (g_le (Fr.le_skip rfl (Fr.le_skip rfl (Fr.le_skip rfl (Fr.le_skip rfl (Fr.le_skip rfl (Fr.le_skip rfl (Fr.le_skip rfl (Fr.le_refl _)))))))) ?_)
      repeat (first | refine g_seq ?_ | refine g_skip ?_ | refine g_inBlock ?_ | refine g_block ?_ | refine g_label ?_)
      refine g_region ?_
      refine rl_v rfl rfl rfl (S := fun _ => True) trivial (v_assign rfl) ?_
      refine rl_nil (g_le (Fr.le_keep (Fr.le_refl _)) ?_)
      refine g_ret1 Try.func58 rfl rfl ?_
      refine ⟨?_, ?_⟩
      · simp [Cs.lay, h]
      · simp only [Cs.lay, if_pos h]
        exact hw
  · refine calls_of_g (n := 29) Try.func58 rfl rfl rfl ?_
    change G _ _ _ _ _ [(0, _), (1, _), (2, _)] _
    repeat (first | refine g_seq ?_ | refine g_skip ?_ | refine g_inBlock ?_ | refine g_block ?_ | refine g_label ?_)
    refine g_region ?_
    refine rl_v rfl rfl rfl (S := fun _ => True) trivial (v_assign rfl) ?_
    refine rl_nil (g_le (Fr.le_keep (Fr.le_refl _)) ?_)
    repeat (first | refine g_seq ?_ | refine g_skip ?_ | refine g_inBlock ?_ | refine g_block ?_ | refine g_label ?_)
    refine g_region ?_
    refine rl_v rfl rfl rfl (S := fun _ => True) trivial (v_move rfl) ?_
    refine rl_v rfl rfl rfl (S := fun _ => True) trivial (v_nilCheck rfl) ?_
    first | (refine rl_v rfl rfl rfl (S := fun _ => True) trivial (v_fieldAddr0 T.fld_72_0_0 rfl) ?_) | (refine rl_v rfl rfl rfl (S := fun _ => True) trivial (v_fieldAddr T.fld_72_0_0 rfl) ?_)
    refine rl_v rfl rfl rfl (by first | exact sat_cell hw (by (repeat (first | with_reducible exact Pick.here _ | apply Pick.there)); first | done | fail) rfl | exact own_cell hw (by (repeat (first | with_reducible exact Pick.here _ | apply Pick.there)); first | done | fail) (by first | rfl | assumption) | exact old_cell hw (by (repeat (first | with_reducible exact Pick.here _ | apply Pick.there)); first | done | fail) (by assumption) | assumption) (v_load T.scal_24 rfl) ?_
    refine rl_k rfl (k_callf Try.func22 rfl rfl rfl rfl ?_)
    refine Calls.mono (spend_calls p pw hok (hw.pick (by (repeat (first | with_reducible exact Pick.here _ | apply Pick.there)); first | done | fail))) ?_
    rintro _ w ⟨rfl, hw⟩
    refine ⟨_, rfl, ?_⟩
    refine rl_v rfl rfl rfl (S := fun _ => True) trivial (v_assign rfl) ?_
    refine rl_nil (g_le (Fr.le_keep (Fr.le_skip rfl (Fr.le_skip rfl (Fr.le_skip rfl (Fr.le_skip rfl (Fr.le_skip rfl (Fr.le_refl _))))))) ?_)
    repeat (first | refine g_seq ?_ | refine g_skip ?_ | refine g_inBlock ?_ | refine g_block ?_ | refine g_label ?_)
    refine g_region ?_
    refine rl_v rfl rfl rfl (S := fun _ => True) trivial (v_move rfl) ?_
    first | (refine rl_v rfl rfl rfl (S := fun _ => True) trivial (v_neqT rfl rfl (by omega)) ?_) | (refine rl_v rfl rfl rfl (S := fun _ => True) trivial (v_neqF rfl rfl (by first | omega | rfl)) ?_) | (refine rl_v rfl rfl rfl (S := fun _ => True) trivial (v_neq rfl rfl) ?_)
    refine rl_nil (g_le (Fr.le_keep (Fr.le_skip rfl (Fr.le_refl _))) ?_)
    refine g_cond_dec rfl (fun h => ?_) (fun h => ?_)
    · repeat (first | refine g_seq ?_ | refine g_skip ?_ | refine g_inBlock ?_ | refine g_block ?_ | refine g_label ?_)
      refine g_region ?_
      refine rl_v rfl rfl rfl (S := fun _ => True) trivial (v_move rfl) ?_
      refine rl_v rfl rfl rfl (S := fun _ => True) trivial (v_assign rfl) ?_
      refine rl_nil (g_le (Fr.le_keep (Fr.le_skip rfl (Fr.le_refl _))) ?_)
      refine g_ret1 Try.func58 rfl rfl ?_
      refine ⟨?_, ?_⟩
      · simp [Cs.lay, h]
      · simp only [Cs.lay, if_neg h]
        exact hw.sub (by (repeat (first | with_reducible exact Sub.refl _ | exact Sub.nil _ | (apply Sub.cons; focus ((repeat (first | with_reducible exact Pick.here _ | apply Pick.there)); (first | done | fail))) | with_reducible apply Sub.drop)); first | done | fail)
    · have h : pw.spend.1 = 0 := by omega
      repeat (first | refine g_seq ?_ | refine g_skip ?_ | refine g_inBlock ?_ | refine g_block ?_ | refine g_label ?_)
      refine g_region ?_
      refine rl_v rfl rfl rfl (S := fun _ => True) trivial (v_move rfl) ?_
      refine rl_v rfl rfl rfl (S := fun _ => True) trivial (v_move rfl) ?_
      refine rl_v rfl rfl rfl (S := fun _ => True) trivial (v_move rfl) ?_
      refine rl_v rfl rfl rfl (S := fun _ => True) trivial (v_nilCheck rfl) ?_
      first | (refine rl_v rfl rfl rfl (S := fun _ => True) trivial (v_fieldAddr0 T.fld_72_1_1 rfl) ?_) | (refine rl_v rfl rfl rfl (S := fun _ => True) trivial (v_fieldAddr T.fld_72_1_1 rfl) ?_)
      refine rl_v rfl rfl rfl (S := fun _ => True) trivial (v_indexAddrArr T.arr_70_2_9_1 rfl rfl (by omega) (by omega)) ?_
      first | (refine rl_k rfl (k_storeOwn hw T.scal_9 rfl rfl rfl (by (repeat (first | with_reducible exact Pick.here _ | apply Pick.there)); first | done | fail) (by assumption) (fun w hw => ?_))) | (refine rl_k rfl (k_store hw T.scal_9 rfl rfl rfl (by (repeat (first | with_reducible exact Pick.here _ | apply Pick.there)); first | done | fail) rfl (by first | (simp only [List.set, Int.reduceToNat, Nat.reduceMul, Nat.reduceAdd]; rfl) | rfl) (fun w hw => ?_)))
      refine rl_nil (g_le (Fr.le_skip rfl (Fr.le_skip rfl (Fr.le_skip rfl (Fr.le_skip rfl (Fr.le_skip rfl (Fr.le_skip rfl (Fr.le_refl _))))))) ?_)
      repeat (first | refine g_seq ?_ | refine g_skip ?_ | refine g_inBlock ?_ | refine g_block ?_ | refine g_label ?_)
      refine g_region ?_
      refine rl_v rfl rfl rfl (S := fun _ => True) trivial (v_move rfl) ?_
      refine rl_v rfl rfl rfl (S := fun _ => True) trivial (v_nilCheck rfl) ?_
      first | (refine rl_v rfl rfl rfl (S := fun _ => True) trivial (v_fieldAddr0 T.fld_72_2_3 rfl) ?_) | (refine rl_v rfl rfl rfl (S := fun _ => True) trivial (v_fieldAddr T.fld_72_2_3 rfl) ?_)
      refine rl_v rfl rfl rfl (by first | exact sat_cell hw (by (repeat (first | with_reducible exact Pick.here _ | apply Pick.there)); first | done | fail) rfl | exact own_cell hw (by (repeat (first | with_reducible exact Pick.here _ | apply Pick.there)); first | done | fail) (by first | rfl | assumption) | exact old_cell hw (by (repeat (first | with_reducible exact Pick.here _ | apply Pick.there)); first | done | fail) (by assumption) | assumption) (v_load T.scal_3 rfl) ?_
      first | (refine rl_v rfl rfl rfl (S := fun _ => True) trivial (v_add rfl rfl (by omega)) ?_) | (refine rl_v rfl rfl rfl (S := fun _ => True) trivial (v_addW rfl rfl) ?_)
      refine rl_v rfl rfl rfl (S := fun _ => True) trivial (v_nilCheck rfl) ?_
      first | (refine rl_v rfl rfl rfl (S := fun _ => True) trivial (v_fieldAddr0 T.fld_72_2_3 rfl) ?_) | (refine rl_v rfl rfl rfl (S := fun _ => True) trivial (v_fieldAddr T.fld_72_2_3 rfl) ?_)
      first | (refine rl_k rfl (k_storeOwn hw T.scal_3 rfl rfl rfl (by (repeat (first | with_reducible exact Pick.here _ | apply Pick.there)); first | done | fail) (by assumption) (fun w hw => ?_))) | (refine rl_k rfl (k_store hw T.scal_3 rfl rfl rfl (by (repeat (first | with_reducible exact Pick.here _ | apply Pick.there)); first | done | fail) rfl (by first | (simp only [List.set, Int.reduceToNat, Nat.reduceMul, Nat.reduceAdd]; rfl) | rfl) (fun w hw => ?_)))
      refine rl_nil (g_le (Fr.le_skip rfl (Fr.le_skip rfl (Fr.le_skip rfl (Fr.le_skip rfl (Fr.le_skip rfl (Fr.le_skip rfl (Fr.le_skip rfl (Fr.le_refl _)))))))) ?_)
      repeat (first | refine g_seq ?_ | refine g_skip ?_ | refine g_inBlock ?_ | refine g_block ?_ | refine g_label ?_)
      refine g_region ?_
      refine rl_v rfl rfl rfl (S := fun _ => True) trivial (v_assign rfl) ?_
      refine rl_nil (g_le (Fr.le_keep (Fr.le_refl _)) ?_)
      refine g_ret1 Try.func58 rfl rfl ?_
      refine ⟨?_, ?_⟩
      · simp [Cs.lay, h]
      · simp only [Cs.lay, if_pos h]
        exact hw


theorem Cs.set_131 {s : Cs} {pw : Pw} {i : Int} {v : ByteArray} (hi : i = 0 ∨ i = 1) (h : s.get i ≠ nil) : s.set pw i v = (131, s, pw) := by
  unfold Cs.set; rw [if_pos hi, if_pos h]
theorem Cs.set_2 {s : Cs} {pw : Pw} {i : Int} {v : ByteArray} (hi : i = 0 ∨ i = 1) (h : s.get i = nil) (h2 : v = nil ∨ 200 < (v.size : Int)) : s.set pw i v = (2, s, pw) := by
  unfold Cs.set; rw [if_pos hi, if_neg (not_not_intro h), if_pos h2]
theorem Cs.set_lay {s : Cs} {pw : Pw} {i : Int} {v : ByteArray} (hi : i = 0 ∨ i = 1) (h : s.get i = nil) (h1 : ¬ v = nil) (h2 : ¬ 200 < (v.size : Int)) : s.set pw i v = s.lay pw i v := by
  unfold Cs.set; rw [if_pos hi, if_neg (not_not_intro h), if_neg (by simp only [not_or]; exact ⟨h1, h2⟩)]
theorem Cs.set_130 {s : Cs} {pw : Pw} {i : Int} {v : ByteArray} (hi : ¬ (i = 0 ∨ i = 1)) : s.set pw i v = (130, s, pw) := by
  unfold Cs.set; rw [if_neg hi]
theorem Cs.erase_132 {s : Cs} {pw : Pw} {i : Int} (hi : i = 0 ∨ i = 1) (h : s.get i = nil) : s.erase pw i = (132, s, pw) := by
  unfold Cs.erase; rw [if_pos hi, if_pos h]
theorem Cs.erase_lay {s : Cs} {pw : Pw} {i : Int} (hi : i = 0 ∨ i = 1) (h : ¬ s.get i = nil) : s.erase pw i = s.lay pw i nil := by
  unfold Cs.erase; rw [if_pos hi, if_neg h]
theorem Cs.erase_130 {s : Cs} {pw : Pw} {i : Int} (hi : ¬ (i = 0 ∨ i = 1)) : s.erase pw i = (130, s, pw) := by
  unfold Cs.erase; rw [if_neg hi]
theorem ne_nil {a : ByteArray} (h : ¬ a ≠ nil) : a = nil := by simpa using h

theorem set_calls {E : Env} {w : World} {L : List As} (c p : Nat) (s : Cs) (pw : Pw) (i : Int) (v : ByteArray) (hok : pw.ok) (hw : Sat E w (CellAt c p s :: PwAt p pw :: L)) :
    Calls Try.prog 38 #[.pointer (some ⟨c, 0, none⟩), .int .i64 i, .string v] w
      fun e w' => e = .returned (.int .i64 (s.set pw i v).1) ∧ Sat E w' (CellAt c p (s.set pw i v).2.1 :: PwAt p (s.set pw i v).2.2 :: L) := by
  by_cases hi : i = 0 ∨ i = 1
  · obtain ⟨a, b, n⟩ := s
    refine calls_of_g (n := 32) Try.func38 rfl rfl rfl ?_
    change G _ _ _ _ _ [(0, _), (1, _), (2, _)] _
    repeat (first | refine g_seq ?_ | refine g_skip ?_ | refine g_inBlock ?_ | refine g_block ?_ | refine g_label ?_)
    refine g_region ?_
    refine rl_v rfl rfl rfl (S := fun _ => True) trivial (v_assign rfl) ?_
    refine rl_nil (g_le (Fr.le_keep (Fr.le_refl _)) ?_)
    repeat (first | refine g_seq ?_ | refine g_skip ?_ | refine g_inBlock ?_ | refine g_block ?_ | refine g_label ?_)
    refine g_region ?_
    refine rl_v rfl rfl rfl (S := fun _ => True) trivial (v_move rfl) ?_
    refine rl_v rfl rfl rfl (S := fun _ => True) trivial (v_move rfl) ?_
    refine rl_k rfl (k_callf Try.func57 rfl rfl rfl rfl ?_)
    refine Calls.mono (is_calls _ _ hw) ?_
    rintro _ w ⟨rfl, hw⟩
    refine ⟨_, rfl, ?_⟩
    refine rl_v rfl rfl rfl (S := fun _ => True) trivial (v_not rfl) ?_
    refine rl_v rfl rfl rfl (S := fun _ => True) trivial (v_assign rfl) ?_
    refine rl_nil (g_le (Fr.le_keep (Fr.le_skip rfl (Fr.le_skip rfl (Fr.le_skip rfl (Fr.le_skip rfl (Fr.le_refl _)))))) ?_)
    rw [decide_eq_true hi]
    repeat (first | refine g_seq ?_ | refine g_skip ?_ | refine g_inBlock ?_ | refine g_block ?_ | refine g_label ?_)
    refine g_cond_false rfl ?_
    rcases hi with rfl | rfl
    · repeat (first | refine g_seq ?_ | refine g_skip ?_ | refine g_inBlock ?_ | refine g_block ?_ | refine g_label ?_)
      refine g_region ?_
      refine rl_v rfl rfl rfl (S := fun _ => True) trivial (v_move rfl) ?_
      refine rl_v rfl rfl rfl (S := fun _ => True) trivial (v_move rfl) ?_
      refine rl_v rfl rfl rfl (S := fun _ => True) trivial (v_nilCheck rfl) ?_
      first | (refine rl_v rfl rfl rfl (S := fun _ => True) trivial (v_fieldAddr0 T.fld_72_1_1 rfl) ?_) | (refine rl_v rfl rfl rfl (S := fun _ => True) trivial (v_fieldAddr T.fld_72_1_1 rfl) ?_)
      refine rl_v rfl rfl rfl (S := fun _ => True) trivial (v_indexAddrArr T.arr_70_2_9_1 rfl rfl (by omega) (by omega)) ?_
      refine rl_v rfl rfl rfl (by first | exact sat_cell hw (by (repeat (first | with_reducible exact Pick.here _ | apply Pick.there)); first | done | fail) rfl | exact own_cell hw (by (repeat (first | with_reducible exact Pick.here _ | apply Pick.there)); first | done | fail) (by first | rfl | assumption) | exact old_cell hw (by (repeat (first | with_reducible exact Pick.here _ | apply Pick.there)); first | done | fail) (by assumption) | assumption) (v_load T.scal_9 rfl) ?_
      first | (refine rl_v rfl rfl rfl (S := fun _ => True) trivial (v_neqStrF rfl rfl (by first | rfl | assumption)) ?_) | (refine rl_v rfl rfl rfl (S := fun _ => True) trivial (v_neqStrT rfl rfl (by first | assumption | decide)) ?_) | (refine rl_v rfl rfl rfl (S := fun _ => True) trivial (v_neqStr rfl rfl) ?_)
      refine rl_v rfl rfl rfl (S := fun _ => True) trivial (v_assign rfl) ?_
      refine rl_nil (g_le (Fr.le_keep (Fr.le_skip rfl (Fr.le_skip rfl (Fr.le_skip rfl (Fr.le_skip rfl (Fr.le_skip rfl (Fr.le_skip rfl (Fr.le_skip rfl (Fr.le_refl _))))))))) ?_)
      refine g_cond_dec rfl (fun h => ?_) (fun h => ?_)
      · repeat (first | refine g_seq ?_ | refine g_skip ?_ | refine g_inBlock ?_ | refine g_block ?_ | refine g_label ?_)
        refine g_region ?_
        refine rl_v rfl rfl rfl (S := fun _ => True) trivial (v_assign rfl) ?_
        refine rl_nil (g_le (Fr.le_keep (Fr.le_refl _)) ?_)
        refine g_ret1 Try.func38 rfl rfl ?_
        rw [Cs.set_131 (s := ⟨a, b, n⟩) (i := 0) (by omega) h]
        exact ⟨rfl, hw⟩
      · all_goals (repeat (first | refine g_seq ?_ | refine g_skip ?_ | refine g_inBlock ?_ | refine g_block ?_ | refine g_label ?_))
        all_goals (refine g_region ?_)
        all_goals (refine rl_v rfl rfl rfl (S := fun _ => True) trivial (v_move rfl) ?_)
        all_goals (first | (refine rl_v rfl rfl rfl (S := fun _ => True) trivial (v_eqlStrT rfl rfl (by first | rfl | assumption)) ?_) | (refine rl_v rfl rfl rfl (S := fun _ => True) trivial (v_eqlStrF rfl rfl (by first | assumption | decide)) ?_) | (refine rl_v rfl rfl rfl (S := fun _ => True) trivial (v_eqlStr rfl rfl) ?_))
        all_goals (refine rl_v rfl rfl rfl (S := fun _ => True) trivial (v_move rfl) ?_)
        all_goals (first | refine rl_split_dec (s := 23) rfl (fun hs => ?_) (fun hs => ?_) | refine rl_split (s := 23) rfl (fun hs => ?_) (fun hs => ?_) | skip)
        all_goals (first | (refine rl_vg (met_on rfl rfl rfl rfl) rfl rfl (S := fun _ => True) trivial (v_move rfl) ?_) | (refine rl_off (by first | exact met_off rfl rfl rfl rfl rfl | exact met_gone rfl rfl rfl rfl) rfl rfl ?_))
        all_goals (first | (refine rl_vg (met_on rfl rfl rfl rfl) rfl rfl (S := fun _ => True) trivial (v_lenStr T.str_9 rfl) ?_) | (refine rl_off (by first | exact met_off rfl rfl rfl rfl rfl | exact met_gone rfl rfl rfl rfl) rfl rfl ?_))
        all_goals (first | (refine rl_vg (met_on rfl rfl rfl rfl) rfl rfl (S := fun _ => True) trivial (v_gtrT rfl rfl (by omega)) ?_) | (refine rl_vg (met_on rfl rfl rfl rfl) rfl rfl (S := fun _ => True) trivial (v_gtrF rfl rfl (by omega)) ?_) | (refine rl_vg (met_on rfl rfl rfl rfl) rfl rfl (S := fun _ => True) trivial (v_gtr rfl rfl) ?_) | (refine rl_off (by first | exact met_off rfl rfl rfl rfl rfl | exact met_gone rfl rfl rfl rfl) rfl rfl ?_))
        all_goals (first | (refine rl_v rfl rfl rfl (S := fun _ => True) trivial (v_pick_true rfl rfl) ?_) | (refine rl_v rfl rfl rfl (S := fun _ => True) trivial (v_pick_false rfl rfl) ?_) | (refine rl_v rfl rfl rfl (S := fun _ => True) trivial (v_pick rfl rfl rfl) ?_))
        all_goals (refine rl_v rfl rfl rfl (S := fun _ => True) trivial (v_assign rfl) ?_)
        all_goals (refine rl_nil ?_)
        · repeat (first | refine g_seq ?_ | refine g_skip ?_ | refine g_inBlock ?_ | refine g_block ?_ | refine g_label ?_)
          refine g_cond_true rfl ?_
          repeat (first | refine g_seq ?_ | refine g_skip ?_ | refine g_inBlock ?_ | refine g_block ?_ | refine g_label ?_)
          refine g_region ?_
          refine rl_v rfl rfl rfl (S := fun _ => True) trivial (v_assign rfl) ?_
          refine rl_nil (g_le (Fr.le_keep (Fr.le_refl _)) ?_)
          refine g_ret1 Try.func38 rfl rfl ?_
          rw [Cs.set_2 (s := ⟨a, b, n⟩) (i := 0) (by omega) (ne_nil h) (.inl hs)]
          exact ⟨rfl, hw⟩
        · refine g_cond_dec rfl (fun h2 => ?_) (fun h2 => ?_)
          · repeat (first | refine g_seq ?_ | refine g_skip ?_ | refine g_inBlock ?_ | refine g_block ?_ | refine g_label ?_)
            refine g_region ?_
            refine rl_v rfl rfl rfl (S := fun _ => True) trivial (v_assign rfl) ?_
            refine rl_nil (g_le (Fr.le_keep (Fr.le_refl _)) ?_)
            refine g_ret1 Try.func38 rfl rfl ?_
            rw [Cs.set_2 (s := ⟨a, b, n⟩) (i := 0) (by omega) (ne_nil h) (.inr h2)]
            exact ⟨rfl, hw⟩
          · repeat (first | refine g_seq ?_ | refine g_skip ?_ | refine g_inBlock ?_ | refine g_block ?_ | refine g_label ?_)
            refine g_region ?_
            refine rl_v rfl rfl rfl (S := fun _ => True) trivial (v_move rfl) ?_
            refine rl_v rfl rfl rfl (S := fun _ => True) trivial (v_move rfl) ?_
            refine rl_v rfl rfl rfl (S := fun _ => True) trivial (v_move rfl) ?_
            refine rl_k rfl (k_callf Try.func58 rfl rfl rfl rfl ?_)
            refine Calls.mono (lay_calls c p _ pw _ v (by omega) hok (hw.sub (by (repeat (first | with_reducible exact Sub.refl _ | exact Sub.nil _ | (apply Sub.cons; focus ((repeat (first | with_reducible exact Pick.here _ | apply Pick.there)); (first | done | fail))) | with_reducible apply Sub.drop)); first | done | fail))) ?_
            rintro _ w ⟨rfl, hw⟩
            refine ⟨_, rfl, ?_⟩
            refine rl_v rfl rfl rfl (S := fun _ => True) trivial (v_assign rfl) ?_
            refine rl_nil (g_le (Fr.le_keep (Fr.le_skip rfl (Fr.le_skip rfl (Fr.le_skip rfl (Fr.le_skip rfl (Fr.le_refl _)))))) ?_)
            refine g_ret1 Try.func38 rfl rfl ?_
            rw [Cs.set_lay (s := ⟨a, b, n⟩) (i := 0) (by omega) (ne_nil h) hs h2]
            exact ⟨rfl, hw⟩
    · repeat (first | refine g_seq ?_ | refine g_skip ?_ | refine g_inBlock ?_ | refine g_block ?_ | refine g_label ?_)
      refine g_region ?_
      refine rl_v rfl rfl rfl (S := fun _ => True) trivial (v_move rfl) ?_
      refine rl_v rfl rfl rfl (S := fun _ => True) trivial (v_move rfl) ?_
      refine rl_v rfl rfl rfl (S := fun _ => True) trivial (v_nilCheck rfl) ?_
      first | (refine rl_v rfl rfl rfl (S := fun _ => True) trivial (v_fieldAddr0 T.fld_72_1_1 rfl) ?_) | (refine rl_v rfl rfl rfl (S := fun _ => True) trivial (v_fieldAddr T.fld_72_1_1 rfl) ?_)
      refine rl_v rfl rfl rfl (S := fun _ => True) trivial (v_indexAddrArr T.arr_70_2_9_1 rfl rfl (by omega) (by omega)) ?_
      refine rl_v rfl rfl rfl (by first | exact sat_cell hw (by (repeat (first | with_reducible exact Pick.here _ | apply Pick.there)); first | done | fail) rfl | exact own_cell hw (by (repeat (first | with_reducible exact Pick.here _ | apply Pick.there)); first | done | fail) (by first | rfl | assumption) | exact old_cell hw (by (repeat (first | with_reducible exact Pick.here _ | apply Pick.there)); first | done | fail) (by assumption) | assumption) (v_load T.scal_9 rfl) ?_
      first | (refine rl_v rfl rfl rfl (S := fun _ => True) trivial (v_neqStrF rfl rfl (by first | rfl | assumption)) ?_) | (refine rl_v rfl rfl rfl (S := fun _ => True) trivial (v_neqStrT rfl rfl (by first | assumption | decide)) ?_) | (refine rl_v rfl rfl rfl (S := fun _ => True) trivial (v_neqStr rfl rfl) ?_)
      refine rl_v rfl rfl rfl (S := fun _ => True) trivial (v_assign rfl) ?_
      refine rl_nil (g_le (Fr.le_keep (Fr.le_skip rfl (Fr.le_skip rfl (Fr.le_skip rfl (Fr.le_skip rfl (Fr.le_skip rfl (Fr.le_skip rfl (Fr.le_skip rfl (Fr.le_refl _))))))))) ?_)
      refine g_cond_dec rfl (fun h => ?_) (fun h => ?_)
      · repeat (first | refine g_seq ?_ | refine g_skip ?_ | refine g_inBlock ?_ | refine g_block ?_ | refine g_label ?_)
        refine g_region ?_
        refine rl_v rfl rfl rfl (S := fun _ => True) trivial (v_assign rfl) ?_
        refine rl_nil (g_le (Fr.le_keep (Fr.le_refl _)) ?_)
        refine g_ret1 Try.func38 rfl rfl ?_
        rw [Cs.set_131 (s := ⟨a, b, n⟩) (i := 1) (by omega) h]
        exact ⟨rfl, hw⟩
      · all_goals (repeat (first | refine g_seq ?_ | refine g_skip ?_ | refine g_inBlock ?_ | refine g_block ?_ | refine g_label ?_))
        all_goals (refine g_region ?_)
        all_goals (refine rl_v rfl rfl rfl (S := fun _ => True) trivial (v_move rfl) ?_)
        all_goals (first | (refine rl_v rfl rfl rfl (S := fun _ => True) trivial (v_eqlStrT rfl rfl (by first | rfl | assumption)) ?_) | (refine rl_v rfl rfl rfl (S := fun _ => True) trivial (v_eqlStrF rfl rfl (by first | assumption | decide)) ?_) | (refine rl_v rfl rfl rfl (S := fun _ => True) trivial (v_eqlStr rfl rfl) ?_))
        all_goals (refine rl_v rfl rfl rfl (S := fun _ => True) trivial (v_move rfl) ?_)
        all_goals (first | refine rl_split_dec (s := 23) rfl (fun hs => ?_) (fun hs => ?_) | refine rl_split (s := 23) rfl (fun hs => ?_) (fun hs => ?_) | skip)
        all_goals (first | (refine rl_vg (met_on rfl rfl rfl rfl) rfl rfl (S := fun _ => True) trivial (v_move rfl) ?_) | (refine rl_off (by first | exact met_off rfl rfl rfl rfl rfl | exact met_gone rfl rfl rfl rfl) rfl rfl ?_))
        all_goals (first | (refine rl_vg (met_on rfl rfl rfl rfl) rfl rfl (S := fun _ => True) trivial (v_lenStr T.str_9 rfl) ?_) | (refine rl_off (by first | exact met_off rfl rfl rfl rfl rfl | exact met_gone rfl rfl rfl rfl) rfl rfl ?_))
        all_goals (first | (refine rl_vg (met_on rfl rfl rfl rfl) rfl rfl (S := fun _ => True) trivial (v_gtrT rfl rfl (by omega)) ?_) | (refine rl_vg (met_on rfl rfl rfl rfl) rfl rfl (S := fun _ => True) trivial (v_gtrF rfl rfl (by omega)) ?_) | (refine rl_vg (met_on rfl rfl rfl rfl) rfl rfl (S := fun _ => True) trivial (v_gtr rfl rfl) ?_) | (refine rl_off (by first | exact met_off rfl rfl rfl rfl rfl | exact met_gone rfl rfl rfl rfl) rfl rfl ?_))
        all_goals (first | (refine rl_v rfl rfl rfl (S := fun _ => True) trivial (v_pick_true rfl rfl) ?_) | (refine rl_v rfl rfl rfl (S := fun _ => True) trivial (v_pick_false rfl rfl) ?_) | (refine rl_v rfl rfl rfl (S := fun _ => True) trivial (v_pick rfl rfl rfl) ?_))
        all_goals (refine rl_v rfl rfl rfl (S := fun _ => True) trivial (v_assign rfl) ?_)
        all_goals (refine rl_nil ?_)
        · repeat (first | refine g_seq ?_ | refine g_skip ?_ | refine g_inBlock ?_ | refine g_block ?_ | refine g_label ?_)
          refine g_cond_true rfl ?_
          repeat (first | refine g_seq ?_ | refine g_skip ?_ | refine g_inBlock ?_ | refine g_block ?_ | refine g_label ?_)
          refine g_region ?_
          refine rl_v rfl rfl rfl (S := fun _ => True) trivial (v_assign rfl) ?_
          refine rl_nil (g_le (Fr.le_keep (Fr.le_refl _)) ?_)
          refine g_ret1 Try.func38 rfl rfl ?_
          rw [Cs.set_2 (s := ⟨a, b, n⟩) (i := 1) (by omega) (ne_nil h) (.inl hs)]
          exact ⟨rfl, hw⟩
        · refine g_cond_dec rfl (fun h2 => ?_) (fun h2 => ?_)
          · repeat (first | refine g_seq ?_ | refine g_skip ?_ | refine g_inBlock ?_ | refine g_block ?_ | refine g_label ?_)
            refine g_region ?_
            refine rl_v rfl rfl rfl (S := fun _ => True) trivial (v_assign rfl) ?_
            refine rl_nil (g_le (Fr.le_keep (Fr.le_refl _)) ?_)
            refine g_ret1 Try.func38 rfl rfl ?_
            rw [Cs.set_2 (s := ⟨a, b, n⟩) (i := 1) (by omega) (ne_nil h) (.inr h2)]
            exact ⟨rfl, hw⟩
          · repeat (first | refine g_seq ?_ | refine g_skip ?_ | refine g_inBlock ?_ | refine g_block ?_ | refine g_label ?_)
            refine g_region ?_
            refine rl_v rfl rfl rfl (S := fun _ => True) trivial (v_move rfl) ?_
            refine rl_v rfl rfl rfl (S := fun _ => True) trivial (v_move rfl) ?_
            refine rl_v rfl rfl rfl (S := fun _ => True) trivial (v_move rfl) ?_
            refine rl_k rfl (k_callf Try.func58 rfl rfl rfl rfl ?_)
            refine Calls.mono (lay_calls c p _ pw _ v (by omega) hok (hw.sub (by (repeat (first | with_reducible exact Sub.refl _ | exact Sub.nil _ | (apply Sub.cons; focus ((repeat (first | with_reducible exact Pick.here _ | apply Pick.there)); (first | done | fail))) | with_reducible apply Sub.drop)); first | done | fail))) ?_
            rintro _ w ⟨rfl, hw⟩
            refine ⟨_, rfl, ?_⟩
            refine rl_v rfl rfl rfl (S := fun _ => True) trivial (v_assign rfl) ?_
            refine rl_nil (g_le (Fr.le_keep (Fr.le_skip rfl (Fr.le_skip rfl (Fr.le_skip rfl (Fr.le_skip rfl (Fr.le_refl _)))))) ?_)
            refine g_ret1 Try.func38 rfl rfl ?_
            rw [Cs.set_lay (s := ⟨a, b, n⟩) (i := 1) (by omega) (ne_nil h) hs h2]
            exact ⟨rfl, hw⟩
  · refine calls_of_g (n := 32) Try.func38 rfl rfl rfl ?_
    change G _ _ _ _ _ [(0, _), (1, _), (2, _)] _
    repeat (first | refine g_seq ?_ | refine g_skip ?_ | refine g_inBlock ?_ | refine g_block ?_ | refine g_label ?_)
    refine g_region ?_
    refine rl_v rfl rfl rfl (S := fun _ => True) trivial (v_assign rfl) ?_
    refine rl_nil (g_le (Fr.le_keep (Fr.le_refl _)) ?_)
    repeat (first | refine g_seq ?_ | refine g_skip ?_ | refine g_inBlock ?_ | refine g_block ?_ | refine g_label ?_)
    refine g_region ?_
    refine rl_v rfl rfl rfl (S := fun _ => True) trivial (v_move rfl) ?_
    refine rl_v rfl rfl rfl (S := fun _ => True) trivial (v_move rfl) ?_
    refine rl_k rfl (k_callf Try.func57 rfl rfl rfl rfl ?_)
    refine Calls.mono (is_calls _ _ hw) ?_
    rintro _ w ⟨rfl, hw⟩
    refine ⟨_, rfl, ?_⟩
    refine rl_v rfl rfl rfl (S := fun _ => True) trivial (v_not rfl) ?_
    refine rl_v rfl rfl rfl (S := fun _ => True) trivial (v_assign rfl) ?_
    refine rl_nil (g_le (Fr.le_keep (Fr.le_skip rfl (Fr.le_skip rfl (Fr.le_skip rfl (Fr.le_skip rfl (Fr.le_refl _)))))) ?_)
    rw [decide_eq_false hi]
    repeat (first | refine g_seq ?_ | refine g_skip ?_ | refine g_inBlock ?_ | refine g_block ?_ | refine g_label ?_)
    refine g_cond_true rfl ?_
    repeat (first | refine g_seq ?_ | refine g_skip ?_ | refine g_inBlock ?_ | refine g_block ?_ | refine g_label ?_)
    refine g_region ?_
    refine rl_v rfl rfl rfl (S := fun _ => True) trivial (v_assign rfl) ?_
    refine rl_nil (g_le (Fr.le_keep (Fr.le_refl _)) ?_)
    refine g_ret1 Try.func38 rfl rfl ?_
    rw [Cs.set_130 hi]
    exact ⟨rfl, hw⟩


theorem erase_calls {E : Env} {w : World} {L : List As} (c p : Nat) (s : Cs) (pw : Pw) (i : Int) (hok : pw.ok) (hw : Sat E w (CellAt c p s :: PwAt p pw :: L)) :
    Calls Try.prog 36 #[.pointer (some ⟨c, 0, none⟩), .int .i64 i] w
      fun e w' => e = .returned (.int .i64 (s.erase pw i).1) ∧ Sat E w' (CellAt c p (s.erase pw i).2.1 :: PwAt p (s.erase pw i).2.2 :: L) := by
  by_cases hi : i = 0 ∨ i = 1
  · obtain ⟨a, b, n⟩ := s
    refine calls_of_g (n := 21) Try.func36 rfl rfl rfl ?_
    change G _ _ _ _ _ [(0, _), (1, _)] _
    repeat (first | refine g_seq ?_ | refine g_skip ?_ | refine g_inBlock ?_ | refine g_block ?_ | refine g_label ?_)
    refine g_region ?_
    refine rl_v rfl rfl rfl (S := fun _ => True) trivial (v_assign rfl) ?_
    refine rl_nil (g_le (Fr.le_keep (Fr.le_refl _)) ?_)
    repeat (first | refine g_seq ?_ | refine g_skip ?_ | refine g_inBlock ?_ | refine g_block ?_ | refine g_label ?_)
    refine g_region ?_
    refine rl_v rfl rfl rfl (S := fun _ => True) trivial (v_move rfl) ?_
    refine rl_v rfl rfl rfl (S := fun _ => True) trivial (v_move rfl) ?_
    refine rl_k rfl (k_callf Try.func57 rfl rfl rfl rfl ?_)
    refine Calls.mono (is_calls _ _ hw) ?_
    rintro _ w ⟨rfl, hw⟩
    refine ⟨_, rfl, ?_⟩
    refine rl_v rfl rfl rfl (S := fun _ => True) trivial (v_not rfl) ?_
    refine rl_v rfl rfl rfl (S := fun _ => True) trivial (v_assign rfl) ?_
    refine rl_nil (g_le (Fr.le_keep (Fr.le_skip rfl (Fr.le_skip rfl (Fr.le_skip rfl (Fr.le_skip rfl (Fr.le_refl _)))))) ?_)
    rw [decide_eq_true hi]
    repeat (first | refine g_seq ?_ | refine g_skip ?_ | refine g_inBlock ?_ | refine g_block ?_ | refine g_label ?_)
    refine g_cond_false rfl ?_
    rcases hi with rfl | rfl
    · repeat (first | refine g_seq ?_ | refine g_skip ?_ | refine g_inBlock ?_ | refine g_block ?_ | refine g_label ?_)
      refine g_region ?_
      refine rl_v rfl rfl rfl (S := fun _ => True) trivial (v_move rfl) ?_
      refine rl_v rfl rfl rfl (S := fun _ => True) trivial (v_move rfl) ?_
      refine rl_v rfl rfl rfl (S := fun _ => True) trivial (v_nilCheck rfl) ?_
      first | (refine rl_v rfl rfl rfl (S := fun _ => True) trivial (v_fieldAddr0 T.fld_72_1_1 rfl) ?_) | (refine rl_v rfl rfl rfl (S := fun _ => True) trivial (v_fieldAddr T.fld_72_1_1 rfl) ?_)
      refine rl_v rfl rfl rfl (S := fun _ => True) trivial (v_indexAddrArr T.arr_70_2_9_1 rfl rfl (by omega) (by omega)) ?_
      refine rl_v rfl rfl rfl (by first | exact sat_cell hw (by (repeat (first | with_reducible exact Pick.here _ | apply Pick.there)); first | done | fail) rfl | exact own_cell hw (by (repeat (first | with_reducible exact Pick.here _ | apply Pick.there)); first | done | fail) (by first | rfl | assumption) | exact old_cell hw (by (repeat (first | with_reducible exact Pick.here _ | apply Pick.there)); first | done | fail) (by assumption) | assumption) (v_load T.scal_9 rfl) ?_
      first | (refine rl_v rfl rfl rfl (S := fun _ => True) trivial (v_eqlStrT rfl rfl (by first | rfl | assumption)) ?_) | (refine rl_v rfl rfl rfl (S := fun _ => True) trivial (v_eqlStrF rfl rfl (by first | assumption | decide)) ?_) | (refine rl_v rfl rfl rfl (S := fun _ => True) trivial (v_eqlStr rfl rfl) ?_)
      refine rl_v rfl rfl rfl (S := fun _ => True) trivial (v_assign rfl) ?_
      refine rl_nil (g_le (Fr.le_keep (Fr.le_skip rfl (Fr.le_skip rfl (Fr.le_skip rfl (Fr.le_skip rfl (Fr.le_skip rfl (Fr.le_skip rfl (Fr.le_skip rfl (Fr.le_refl _))))))))) ?_)
      refine g_cond_dec rfl (fun h => ?_) (fun h => ?_)
      · repeat (first | refine g_seq ?_ | refine g_skip ?_ | refine g_inBlock ?_ | refine g_block ?_ | refine g_label ?_)
        refine g_region ?_
        refine rl_v rfl rfl rfl (S := fun _ => True) trivial (v_assign rfl) ?_
        refine rl_nil (g_le (Fr.le_keep (Fr.le_refl _)) ?_)
        refine g_ret1 Try.func36 rfl rfl ?_
        rw [Cs.erase_132 (s := ⟨a, b, n⟩) (i := 0) (by omega) h]
        exact ⟨rfl, hw⟩
      · repeat (first | refine g_seq ?_ | refine g_skip ?_ | refine g_inBlock ?_ | refine g_block ?_ | refine g_label ?_)
        refine g_region ?_
        refine rl_v rfl rfl rfl (S := fun _ => True) trivial (v_move rfl) ?_
        refine rl_v rfl rfl rfl (S := fun _ => True) trivial (v_move rfl) ?_
        refine rl_k rfl (k_callf Try.func58 rfl rfl rfl rfl ?_)
        refine Calls.mono (lay_calls c p _ pw _ nil (by omega) hok (hw.sub (by (repeat (first | with_reducible exact Sub.refl _ | exact Sub.nil _ | (apply Sub.cons; focus ((repeat (first | with_reducible exact Pick.here _ | apply Pick.there)); (first | done | fail))) | with_reducible apply Sub.drop)); first | done | fail))) ?_
        rintro _ w ⟨rfl, hw⟩
        refine ⟨_, rfl, ?_⟩
        refine rl_v rfl rfl rfl (S := fun _ => True) trivial (v_assign rfl) ?_
        refine rl_nil (g_le (Fr.le_keep (Fr.le_skip rfl (Fr.le_skip rfl (Fr.le_skip rfl (Fr.le_refl _))))) ?_)
        refine g_ret1 Try.func36 rfl rfl ?_
        rw [Cs.erase_lay (s := ⟨a, b, n⟩) (i := 0) (by omega) h]
        exact ⟨rfl, hw⟩
    · repeat (first | refine g_seq ?_ | refine g_skip ?_ | refine g_inBlock ?_ | refine g_block ?_ | refine g_label ?_)
      refine g_region ?_
      refine rl_v rfl rfl rfl (S := fun _ => True) trivial (v_move rfl) ?_
      refine rl_v rfl rfl rfl (S := fun _ => True) trivial (v_move rfl) ?_
      refine rl_v rfl rfl rfl (S := fun _ => True) trivial (v_nilCheck rfl) ?_
      first | (refine rl_v rfl rfl rfl (S := fun _ => True) trivial (v_fieldAddr0 T.fld_72_1_1 rfl) ?_) | (refine rl_v rfl rfl rfl (S := fun _ => True) trivial (v_fieldAddr T.fld_72_1_1 rfl) ?_)
      refine rl_v rfl rfl rfl (S := fun _ => True) trivial (v_indexAddrArr T.arr_70_2_9_1 rfl rfl (by omega) (by omega)) ?_
      refine rl_v rfl rfl rfl (by first | exact sat_cell hw (by (repeat (first | with_reducible exact Pick.here _ | apply Pick.there)); first | done | fail) rfl | exact own_cell hw (by (repeat (first | with_reducible exact Pick.here _ | apply Pick.there)); first | done | fail) (by first | rfl | assumption) | exact old_cell hw (by (repeat (first | with_reducible exact Pick.here _ | apply Pick.there)); first | done | fail) (by assumption) | assumption) (v_load T.scal_9 rfl) ?_
      first | (refine rl_v rfl rfl rfl (S := fun _ => True) trivial (v_eqlStrT rfl rfl (by first | rfl | assumption)) ?_) | (refine rl_v rfl rfl rfl (S := fun _ => True) trivial (v_eqlStrF rfl rfl (by first | assumption | decide)) ?_) | (refine rl_v rfl rfl rfl (S := fun _ => True) trivial (v_eqlStr rfl rfl) ?_)
      refine rl_v rfl rfl rfl (S := fun _ => True) trivial (v_assign rfl) ?_
      refine rl_nil (g_le (Fr.le_keep (Fr.le_skip rfl (Fr.le_skip rfl (Fr.le_skip rfl (Fr.le_skip rfl (Fr.le_skip rfl (Fr.le_skip rfl (Fr.le_skip rfl (Fr.le_refl _))))))))) ?_)
      refine g_cond_dec rfl (fun h => ?_) (fun h => ?_)
      · repeat (first | refine g_seq ?_ | refine g_skip ?_ | refine g_inBlock ?_ | refine g_block ?_ | refine g_label ?_)
        refine g_region ?_
        refine rl_v rfl rfl rfl (S := fun _ => True) trivial (v_assign rfl) ?_
        refine rl_nil (g_le (Fr.le_keep (Fr.le_refl _)) ?_)
        refine g_ret1 Try.func36 rfl rfl ?_
        rw [Cs.erase_132 (s := ⟨a, b, n⟩) (i := 1) (by omega) h]
        exact ⟨rfl, hw⟩
      · repeat (first | refine g_seq ?_ | refine g_skip ?_ | refine g_inBlock ?_ | refine g_block ?_ | refine g_label ?_)
        refine g_region ?_
        refine rl_v rfl rfl rfl (S := fun _ => True) trivial (v_move rfl) ?_
        refine rl_v rfl rfl rfl (S := fun _ => True) trivial (v_move rfl) ?_
        refine rl_k rfl (k_callf Try.func58 rfl rfl rfl rfl ?_)
        refine Calls.mono (lay_calls c p _ pw _ nil (by omega) hok (hw.sub (by (repeat (first | with_reducible exact Sub.refl _ | exact Sub.nil _ | (apply Sub.cons; focus ((repeat (first | with_reducible exact Pick.here _ | apply Pick.there)); (first | done | fail))) | with_reducible apply Sub.drop)); first | done | fail))) ?_
        rintro _ w ⟨rfl, hw⟩
        refine ⟨_, rfl, ?_⟩
        refine rl_v rfl rfl rfl (S := fun _ => True) trivial (v_assign rfl) ?_
        refine rl_nil (g_le (Fr.le_keep (Fr.le_skip rfl (Fr.le_skip rfl (Fr.le_skip rfl (Fr.le_refl _))))) ?_)
        refine g_ret1 Try.func36 rfl rfl ?_
        rw [Cs.erase_lay (s := ⟨a, b, n⟩) (i := 1) (by omega) h]
        exact ⟨rfl, hw⟩
  · refine calls_of_g (n := 21) Try.func36 rfl rfl rfl ?_
    change G _ _ _ _ _ [(0, _), (1, _)] _
    repeat (first | refine g_seq ?_ | refine g_skip ?_ | refine g_inBlock ?_ | refine g_block ?_ | refine g_label ?_)
    refine g_region ?_
    refine rl_v rfl rfl rfl (S := fun _ => True) trivial (v_assign rfl) ?_
    refine rl_nil (g_le (Fr.le_keep (Fr.le_refl _)) ?_)
    repeat (first | refine g_seq ?_ | refine g_skip ?_ | refine g_inBlock ?_ | refine g_block ?_ | refine g_label ?_)
    refine g_region ?_
    refine rl_v rfl rfl rfl (S := fun _ => True) trivial (v_move rfl) ?_
    refine rl_v rfl rfl rfl (S := fun _ => True) trivial (v_move rfl) ?_
    refine rl_k rfl (k_callf Try.func57 rfl rfl rfl rfl ?_)
    refine Calls.mono (is_calls _ _ hw) ?_
    rintro _ w ⟨rfl, hw⟩
    refine ⟨_, rfl, ?_⟩
    refine rl_v rfl rfl rfl (S := fun _ => True) trivial (v_not rfl) ?_
    refine rl_v rfl rfl rfl (S := fun _ => True) trivial (v_assign rfl) ?_
    refine rl_nil (g_le (Fr.le_keep (Fr.le_skip rfl (Fr.le_skip rfl (Fr.le_skip rfl (Fr.le_skip rfl (Fr.le_refl _)))))) ?_)
    rw [decide_eq_false hi]
    repeat (first | refine g_seq ?_ | refine g_skip ?_ | refine g_inBlock ?_ | refine g_block ?_ | refine g_label ?_)
    refine g_cond_true rfl ?_
    repeat (first | refine g_seq ?_ | refine g_skip ?_ | refine g_inBlock ?_ | refine g_block ?_ | refine g_label ?_)
    refine g_region ?_
    refine rl_v rfl rfl rfl (S := fun _ => True) trivial (v_assign rfl) ?_
    refine rl_nil (g_le (Fr.le_keep (Fr.le_refl _)) ?_)
    refine g_ret1 Try.func36 rfl rfl ?_
    rw [Cs.erase_130 hi]
    exact ⟨rfl, hw⟩

theorem get_calls {E : Env} {w : World} {L : List As} (c p : Nat) (s : Cs) (i : Int) (hw : Sat E w (CellAt c p s :: L)) :
    Calls Try.prog 39 #[.pointer (some ⟨c, 0, none⟩), .int .i64 i] w
      fun e w' => e = .returned (.tuple #[.string (s.told i).1, .bool (s.told i).2]) ∧ Sat E w' (CellAt c p s :: L) := by
  by_cases hi : i = 0 ∨ i = 1
  · obtain ⟨a, b, n⟩ := s
    refine calls_of_g (n := 23) Try.func39 rfl rfl rfl ?_
    change G _ _ _ _ _ [(0, _), (1, _)] _
    repeat (first | refine g_seq ?_ | refine g_skip ?_ | refine g_inBlock ?_ | refine g_block ?_ | refine g_label ?_)
    refine g_region ?_
    refine rl_v rfl rfl rfl (S := fun _ => True) trivial (v_assign rfl) ?_
    refine rl_v rfl rfl rfl (S := fun _ => True) trivial (v_assign rfl) ?_
    refine rl_nil (g_le (Fr.le_keep (Fr.le_keep (Fr.le_refl _))) ?_)
    repeat (first | refine g_seq ?_ | refine g_skip ?_ | refine g_inBlock ?_ | refine g_block ?_ | refine g_label ?_)
    refine g_region ?_
    refine rl_v rfl rfl rfl (S := fun _ => True) trivial (v_move rfl) ?_
    refine rl_v rfl rfl rfl (S := fun _ => True) trivial (v_move rfl) ?_
    refine rl_k rfl (k_callf Try.func57 rfl rfl rfl rfl ?_)
    refine Calls.mono (is_calls _ _ hw) ?_
    rintro _ w ⟨rfl, hw⟩
    refine ⟨_, rfl, ?_⟩
    refine rl_v rfl rfl rfl (S := fun _ => True) trivial (v_not rfl) ?_
    refine rl_nil (g_le (Fr.le_keep (Fr.le_skip rfl (Fr.le_skip rfl (Fr.le_skip rfl (Fr.le_refl _))))) ?_)
    rw [decide_eq_true hi]
    repeat (first | refine g_seq ?_ | refine g_skip ?_ | refine g_inBlock ?_ | refine g_block ?_ | refine g_label ?_)
    refine g_cond_false rfl ?_
    rcases hi with rfl | rfl
    · repeat (first | refine g_seq ?_ | refine g_skip ?_ | refine g_inBlock ?_ | refine g_block ?_ | refine g_label ?_)
      refine g_draw [] T.mixed rfl hw (fun w hw => ?_)
      refine ra_a 0 rfl rfl rfl rfl (by kernel_rfl) (v_move rfl) ?_
      refine ra_a 1 rfl rfl rfl rfl (by kernel_rfl) (v_move rfl) ?_
      refine ra_a 2 rfl rfl rfl rfl (by kernel_rfl) (v_nilCheck rfl) ?_
      first | (refine ra_a 3 rfl rfl rfl rfl (by kernel_rfl) (v_fieldAddr0 T.fld_72_1_1 rfl) ?_) | (refine ra_a 3 rfl rfl rfl rfl (by kernel_rfl) (v_fieldAddr T.fld_72_1_1 rfl) ?_)
      refine ra_a 4 rfl rfl rfl rfl (by kernel_rfl) (v_indexAddrArr T.arr_70_2_9_1 rfl rfl (by omega) (by omega)) ?_
      refine ra_v 5 rfl rfl rfl rfl (by kernel_rfl) (OpV.mono (v_load T.scal_9 rfl) (fun w hw => by first | exact sat_cell hw (by (repeat (first | with_reducible exact Pick.here _ | apply Pick.there)); first | done | fail) rfl | exact own_cell hw (by (repeat (first | with_reducible exact Pick.here _ | apply Pick.there)); first | done | fail) (by first | rfl | assumption) | exact old_cell hw (by (repeat (first | with_reducible exact Pick.here _ | apply Pick.there)); first | done | fail) (by assumption) | assumption)) (by first | exact hw | exact Sat.sub hw (by (repeat (first | with_reducible exact Sub.refl _ | exact Sub.nil _ | (apply Sub.cons; focus ((repeat (first | with_reducible exact Pick.here _ | apply Pick.there)); (first | done | fail))) | with_reducible apply Sub.drop)); first | done | fail)) ?_
      refine ra_a 6 rfl rfl rfl rfl (by kernel_rfl) (v_move rfl) ?_
      refine ra_a 7 rfl rfl rfl rfl (by kernel_rfl) (v_move rfl) ?_
      refine ra_a 8 rfl rfl rfl rfl (by kernel_rfl) (v_nilCheck rfl) ?_
      first | (refine ra_a 9 rfl rfl rfl rfl (by kernel_rfl) (v_fieldAddr0 T.fld_72_1_1 rfl) ?_) | (refine ra_a 9 rfl rfl rfl rfl (by kernel_rfl) (v_fieldAddr T.fld_72_1_1 rfl) ?_)
      refine ra_a 10 rfl rfl rfl rfl (by kernel_rfl) (v_indexAddrArr T.arr_70_2_9_1 rfl rfl (by omega) (by omega)) ?_
      refine ra_v 11 rfl rfl rfl rfl (by kernel_rfl) (OpV.mono (v_load T.scal_9 rfl) (fun w hw => by first | exact sat_cell hw (by (repeat (first | with_reducible exact Pick.here _ | apply Pick.there)); first | done | fail) rfl | exact own_cell hw (by (repeat (first | with_reducible exact Pick.here _ | apply Pick.there)); first | done | fail) (by first | rfl | assumption) | exact old_cell hw (by (repeat (first | with_reducible exact Pick.here _ | apply Pick.there)); first | done | fail) (by assumption) | assumption)) (by first | exact hw | exact Sat.sub hw (by (repeat (first | with_reducible exact Sub.refl _ | exact Sub.nil _ | (apply Sub.cons; focus ((repeat (first | with_reducible exact Pick.here _ | apply Pick.there)); (first | done | fail))) | with_reducible apply Sub.drop)); first | done | fail)) ?_
      first | (refine ra_a 12 rfl rfl rfl rfl (by kernel_rfl) (v_neqStrF rfl rfl (by first | rfl | assumption)) ?_) | (refine ra_a 12 rfl rfl rfl rfl (by kernel_rfl) (v_neqStrT rfl rfl (by first | assumption | decide)) ?_) | (refine ra_a 12 rfl rfl rfl rfl (by kernel_rfl) (v_neqStr rfl rfl) ?_)
      refine ra_a 13 rfl rfl rfl rfl (by kernel_rfl) (v_assign rfl) ?_
      refine ra_a 14 rfl rfl rfl rfl (by kernel_rfl) (v_assign rfl) ?_
      refine ra_done (by kernel_rfl) (g_le (Fr.le_keep (Fr.le_keep (Fr.le_skip rfl (Fr.le_skip rfl (Fr.le_skip rfl (Fr.le_skip rfl (Fr.le_skip rfl (Fr.le_skip rfl (Fr.le_skip rfl (Fr.le_skip rfl (Fr.le_skip rfl (Fr.le_skip rfl (Fr.le_skip rfl (Fr.le_skip rfl (Fr.le_skip rfl (Fr.le_refl _)))))))))))))))) ?_)
      refine g_ret2 Try.func39 rfl rfl rfl ?_
      exact ⟨rfl, hw⟩
    · repeat (first | refine g_seq ?_ | refine g_skip ?_ | refine g_inBlock ?_ | refine g_block ?_ | refine g_label ?_)
      refine g_draw [] T.mixed rfl hw (fun w hw => ?_)
      refine ra_a 0 rfl rfl rfl rfl (by kernel_rfl) (v_move rfl) ?_
      refine ra_a 1 rfl rfl rfl rfl (by kernel_rfl) (v_move rfl) ?_
      refine ra_a 2 rfl rfl rfl rfl (by kernel_rfl) (v_nilCheck rfl) ?_
      first | (refine ra_a 3 rfl rfl rfl rfl (by kernel_rfl) (v_fieldAddr0 T.fld_72_1_1 rfl) ?_) | (refine ra_a 3 rfl rfl rfl rfl (by kernel_rfl) (v_fieldAddr T.fld_72_1_1 rfl) ?_)
      refine ra_a 4 rfl rfl rfl rfl (by kernel_rfl) (v_indexAddrArr T.arr_70_2_9_1 rfl rfl (by omega) (by omega)) ?_
      refine ra_v 5 rfl rfl rfl rfl (by kernel_rfl) (OpV.mono (v_load T.scal_9 rfl) (fun w hw => by first | exact sat_cell hw (by (repeat (first | with_reducible exact Pick.here _ | apply Pick.there)); first | done | fail) rfl | exact own_cell hw (by (repeat (first | with_reducible exact Pick.here _ | apply Pick.there)); first | done | fail) (by first | rfl | assumption) | exact old_cell hw (by (repeat (first | with_reducible exact Pick.here _ | apply Pick.there)); first | done | fail) (by assumption) | assumption)) (by first | exact hw | exact Sat.sub hw (by (repeat (first | with_reducible exact Sub.refl _ | exact Sub.nil _ | (apply Sub.cons; focus ((repeat (first | with_reducible exact Pick.here _ | apply Pick.there)); (first | done | fail))) | with_reducible apply Sub.drop)); first | done | fail)) ?_
      refine ra_a 6 rfl rfl rfl rfl (by kernel_rfl) (v_move rfl) ?_
      refine ra_a 7 rfl rfl rfl rfl (by kernel_rfl) (v_move rfl) ?_
      refine ra_a 8 rfl rfl rfl rfl (by kernel_rfl) (v_nilCheck rfl) ?_
      first | (refine ra_a 9 rfl rfl rfl rfl (by kernel_rfl) (v_fieldAddr0 T.fld_72_1_1 rfl) ?_) | (refine ra_a 9 rfl rfl rfl rfl (by kernel_rfl) (v_fieldAddr T.fld_72_1_1 rfl) ?_)
      refine ra_a 10 rfl rfl rfl rfl (by kernel_rfl) (v_indexAddrArr T.arr_70_2_9_1 rfl rfl (by omega) (by omega)) ?_
      refine ra_v 11 rfl rfl rfl rfl (by kernel_rfl) (OpV.mono (v_load T.scal_9 rfl) (fun w hw => by first | exact sat_cell hw (by (repeat (first | with_reducible exact Pick.here _ | apply Pick.there)); first | done | fail) rfl | exact own_cell hw (by (repeat (first | with_reducible exact Pick.here _ | apply Pick.there)); first | done | fail) (by first | rfl | assumption) | exact old_cell hw (by (repeat (first | with_reducible exact Pick.here _ | apply Pick.there)); first | done | fail) (by assumption) | assumption)) (by first | exact hw | exact Sat.sub hw (by (repeat (first | with_reducible exact Sub.refl _ | exact Sub.nil _ | (apply Sub.cons; focus ((repeat (first | with_reducible exact Pick.here _ | apply Pick.there)); (first | done | fail))) | with_reducible apply Sub.drop)); first | done | fail)) ?_
      first | (refine ra_a 12 rfl rfl rfl rfl (by kernel_rfl) (v_neqStrF rfl rfl (by first | rfl | assumption)) ?_) | (refine ra_a 12 rfl rfl rfl rfl (by kernel_rfl) (v_neqStrT rfl rfl (by first | assumption | decide)) ?_) | (refine ra_a 12 rfl rfl rfl rfl (by kernel_rfl) (v_neqStr rfl rfl) ?_)
      refine ra_a 13 rfl rfl rfl rfl (by kernel_rfl) (v_assign rfl) ?_
      refine ra_a 14 rfl rfl rfl rfl (by kernel_rfl) (v_assign rfl) ?_
      refine ra_done (by kernel_rfl) (g_le (Fr.le_keep (Fr.le_keep (Fr.le_skip rfl (Fr.le_skip rfl (Fr.le_skip rfl (Fr.le_skip rfl (Fr.le_skip rfl (Fr.le_skip rfl (Fr.le_skip rfl (Fr.le_skip rfl (Fr.le_skip rfl (Fr.le_skip rfl (Fr.le_skip rfl (Fr.le_skip rfl (Fr.le_skip rfl (Fr.le_refl _)))))))))))))))) ?_)
      refine g_ret2 Try.func39 rfl rfl rfl ?_
      exact ⟨rfl, hw⟩
  · refine calls_of_g (n := 23) Try.func39 rfl rfl rfl ?_
    change G _ _ _ _ _ [(0, _), (1, _)] _
    repeat (first | refine g_seq ?_ | refine g_skip ?_ | refine g_inBlock ?_ | refine g_block ?_ | refine g_label ?_)
    refine g_region ?_
    refine rl_v rfl rfl rfl (S := fun _ => True) trivial (v_assign rfl) ?_
    refine rl_v rfl rfl rfl (S := fun _ => True) trivial (v_assign rfl) ?_
    refine rl_nil (g_le (Fr.le_keep (Fr.le_keep (Fr.le_refl _))) ?_)
    repeat (first | refine g_seq ?_ | refine g_skip ?_ | refine g_inBlock ?_ | refine g_block ?_ | refine g_label ?_)
    refine g_region ?_
    refine rl_v rfl rfl rfl (S := fun _ => True) trivial (v_move rfl) ?_
    refine rl_v rfl rfl rfl (S := fun _ => True) trivial (v_move rfl) ?_
    refine rl_k rfl (k_callf Try.func57 rfl rfl rfl rfl ?_)
    refine Calls.mono (is_calls _ _ hw) ?_
    rintro _ w ⟨rfl, hw⟩
    refine ⟨_, rfl, ?_⟩
    refine rl_v rfl rfl rfl (S := fun _ => True) trivial (v_not rfl) ?_
    refine rl_nil (g_le (Fr.le_keep (Fr.le_skip rfl (Fr.le_skip rfl (Fr.le_skip rfl (Fr.le_refl _))))) ?_)
    rw [decide_eq_false hi]
    repeat (first | refine g_seq ?_ | refine g_skip ?_ | refine g_inBlock ?_ | refine g_block ?_ | refine g_label ?_)
    refine g_cond_true rfl ?_
    repeat (first | refine g_seq ?_ | refine g_skip ?_ | refine g_inBlock ?_ | refine g_block ?_ | refine g_label ?_)
    refine g_region ?_
    refine rl_v rfl rfl rfl (S := fun _ => True) trivial (v_assign rfl) ?_
    refine rl_v rfl rfl rfl (S := fun _ => True) trivial (v_assign rfl) ?_
    refine rl_nil (g_le (Fr.le_keep (Fr.le_keep (Fr.le_refl _))) ?_)
    refine g_ret2 Try.func39 rfl rfl rfl ?_
    refine ⟨?_, hw⟩
    simp [Cs.told, hi]

theorem count_calls {E : Env} {w : World} {L : List As} (c p : Nat) (s : Cs) (hw : Sat E w (CellAt c p s :: L)) :
    Calls Try.prog 42 #[.pointer (some ⟨c, 0, none⟩)] w fun e w' => e = .returned (.int .i64 s.n) ∧ Sat E w' (CellAt c p s :: L) := by
  obtain ⟨a, b, n⟩ := s
  refine calls_of_g (n := 7) Try.func42 rfl rfl rfl ?_
  change G _ _ _ _ _ [(0, _)] _
  repeat (first | refine g_seq ?_ | refine g_skip ?_ | refine g_inBlock ?_ | refine g_block ?_ | refine g_label ?_)
  refine g_region ?_
  refine rl_v rfl rfl rfl (S := fun _ => True) trivial (v_assign rfl) ?_
  refine rl_nil (g_le (Fr.le_keep (Fr.le_refl _)) ?_)
  repeat (first | refine g_seq ?_ | refine g_skip ?_ | refine g_inBlock ?_ | refine g_block ?_ | refine g_label ?_)
  refine g_region ?_
  refine rl_v rfl rfl rfl (S := fun _ => True) trivial (v_move rfl) ?_
  refine rl_v rfl rfl rfl (S := fun _ => True) trivial (v_nilCheck rfl) ?_
  first | (refine rl_v rfl rfl rfl (S := fun _ => True) trivial (v_fieldAddr0 T.fld_72_2_3 rfl) ?_) | (refine rl_v rfl rfl rfl (S := fun _ => True) trivial (v_fieldAddr T.fld_72_2_3 rfl) ?_)
  refine rl_v rfl rfl rfl (by first | exact sat_cell hw (by (repeat (first | with_reducible exact Pick.here _ | apply Pick.there)); first | done | fail) rfl | exact own_cell hw (by (repeat (first | with_reducible exact Pick.here _ | apply Pick.there)); first | done | fail) (by first | rfl | assumption) | exact old_cell hw (by (repeat (first | with_reducible exact Pick.here _ | apply Pick.there)); first | done | fail) (by assumption) | assumption) (v_load T.scal_3 rfl) ?_
  refine rl_v rfl rfl rfl (S := fun _ => True) trivial (v_assign rfl) ?_
  refine rl_nil (g_le (Fr.le_keep (Fr.le_skip rfl (Fr.le_skip rfl (Fr.le_skip rfl (Fr.le_skip rfl (Fr.le_refl _)))))) ?_)
  refine g_ret1 Try.func42 rfl rfl ?_
  exact ⟨rfl, hw⟩

end Go.Proofs.Ytdebodbkggbjeaa
