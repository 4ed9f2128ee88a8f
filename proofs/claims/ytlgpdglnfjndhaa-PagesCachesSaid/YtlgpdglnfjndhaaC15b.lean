/-
  The cache (layer 15): its exported calls.
-/
import Derived.Test.YtlgpdglnfjndhaaC15
namespace Go.Proofs.Ytlgpdglnfjndhaa
set_option maxRecDepth 8000
set_option linter.unusedSimpArgs false
set_option linter.unusedVariables false
open Go Xe
def Ch.pl (s : Ch) (r : Rf) : Int := idx (fun h => decide (h.ref = r)) s.l 0
def Hd.pin (h : Hd) (d : Int) : Hd := ⟨h.ref, h.node, IntKind.i64.wrap (h.pins + d)⟩
def Ch.repin (s : Ch) (r : Rf) (d : Int) : Ch := match s.l[(s.pl r).toNat]? with
  | some x => ⟨s.room, s.l.set (s.pl r).toNat (x.pin d), s.hits, s.misses⟩
  | none => s
def Ch.pin (s : Ch) (r : Rf) : Int × Ch := if s.pl r < 0 then (3, s) else (0, s.repin r 1)
def Ch.unpin (s : Ch) (r : Rf) : Int × Ch := if s.pl r < 0 then (3, s) else match s.l[(s.pl r).toNat]? with
  | some x => if x.pins = 0 then (150, s) else (0, s.repin r (-1))
  | none => (3, s)
theorem catp_calls {E : Env} {w : World} {L : List As} {g : Hp} {c : Nat} {s : Ch} {lv : Value} {cells : List Value} (r : Rf) (hels : Els rdHd 8 g cells s.l) (hb : s.l.length ≤ 100000) (hw : Sat E w (pt c (.cells [Value.int .i64 (s : Ch).room, lv, .int .i64 (s : Ch).hits, .int .i64 (s : Ch).misses].toArray 104 (0, 0)) :: OwnSl 119 8 lv (s : Ch).l.length cells :: RO g :: L)) :
    Calls Try.prog 51 #[.pointer (some ⟨c, 0, none⟩), .agg r.cells.toArray] w fun e w' => e = .returned (.int .i64 (s.pl r)) ∧ Sat E w' (pt c (.cells [Value.int .i64 (s : Ch).room, lv, .int .i64 (s : Ch).hits, .int .i64 (s : Ch).misses].toArray 104 (0, 0)) :: OwnSl 119 8 lv (s : Ch).l.length cells :: RO g :: L) := cat_calls r hels hb hw
theorem Ch.pl_bound (s : Ch) (r : Rf) : -1 ≤ s.pl r ∧ s.pl r < s.l.length := by
  have := idx_bound (p := fun h : Hd => decide (h.ref = r)) (l := s.l) (i := 0) (by omega)
  unfold Ch.pl; omega
theorem cnew_calls {E : Env} {w : World} {L : List As} (room : Int) (hw : Sat E w L) :
    Calls Try.prog 22 #[.int .i64 room] w fun e w' => (0 ≤ room ∧ room ≤ 32 → ∃ c, e = .returned (.tuple #[.pointer (some ⟨c, 0, none⟩), .int .i64 0]) ∧ Sat E w' (pt c (.cells [Value.int .i64 (⟨room, [], 0, 0⟩ : Ch).room, (.slice none 0 0), .int .i64 (⟨room, [], 0, 0⟩ : Ch).hits, .int .i64 (⟨room, [], 0, 0⟩ : Ch).misses].toArray 104 (0, 0)) :: OwnSl 119 8 (.slice none 0 0) (⟨room, [], 0, 0⟩ : Ch).l.length [] :: L)) ∧
      (¬ (0 ≤ room ∧ room ≤ 32) → e = .returned (.tuple #[.pointer none, .int .i64 1]) ∧ Sat E w' L) := by
  refine calls_of_g (n := 13) Try.func22 rfl rfl rfl ?_
  change G _ _ _ _ _ [(0, _)] _
  refine g_seq ?_
  refine g_region ?_
  refine xV rfl rfl rfl (v_assign rfl) ?_
  refine xV rfl rfl rfl (v_assign rfl) ?_
  refine rl_nil (g_le (xK (xK (Fr.le_refl _))) ?_)
  refine g_seq (g_seq ?_)
  refine g_region ?_
  refine xV rfl rfl rfl (v_move rfl) ?_
  refine xV rfl rfl rfl (v_lss rfl rfl) ?_
  refine xV rfl rfl rfl (v_move rfl) ?_
  refine rl_split (s := 6) rfl (fun g1_2 => ?_) (fun g1_2 => ?_)
  · try with_reducible exact ft_elim g1_2
    all_goals
      try replace g1_2 := of_decide_eq_true g1_2
      try (exfalso; omega)
      all_goals
        refine rl_off (met_off rfl rfl rfl rfl rfl) rfl rfl ?_
        refine rl_off (met_off rfl rfl rfl rfl rfl) rfl rfl ?_
        refine xV rfl rfl rfl (v_pick_true rfl rfl) ?_
        refine rl_nil (g_le (xK (xS rfl (xS rfl (xS rfl (xS rfl (xS rfl (xS rfl (Fr.le_refl _)))))))) ?_)
        refine g_cond_true rfl ?_
        refine g_seq ?_
        refine g_region ?_
        refine xV rfl rfl rfl (v_assign rfl) ?_
        refine xV rfl rfl rfl (v_assign rfl) ?_
        refine rl_nil (g_le (xK (xK (Fr.le_refl _))) ?_)
        refine g_ret2 Try.func22 rfl rfl rfl ?_
        exact ⟨fun h => by omega, fun _ => ⟨rfl, hw⟩⟩
  · try with_reducible exact tf_elim g1_2
    all_goals
      try replace g1_2 := of_decide_eq_false g1_2
      try (exfalso; omega)
      all_goals
        refine rl_vg (met_on rfl rfl rfl rfl) rfl rfl (S := fun _ => True) trivial (v_move rfl) ?_
        refine rl_vg (met_on rfl rfl rfl rfl) rfl rfl (S := fun _ => True) trivial (v_gtr rfl rfl) ?_
        refine xV rfl rfl rfl (v_pick_false rfl rfl) ?_
        refine rl_nil (g_le (xK (xS rfl (xS rfl (xS rfl (xS rfl (xS rfl (xS rfl (Fr.le_refl _)))))))) ?_)
        refine g_cond rfl (fun h1 => ?_) (fun h1 => ?_)
        · try with_reducible exact ft_elim h1
          all_goals
            try replace h1 := of_decide_eq_true h1
            try (exfalso; omega)
            all_goals
              refine g_seq ?_
              refine g_region ?_
              refine xV rfl rfl rfl (v_assign rfl) ?_
              refine xV rfl rfl rfl (v_assign rfl) ?_
              refine rl_nil (g_le (xK (xK (Fr.le_refl _))) ?_)
              refine g_ret2 Try.func22 rfl rfl rfl ?_
              exact ⟨fun h => by omega, fun _ => ⟨rfl, hw⟩⟩
        · try with_reducible exact tf_elim h1
          all_goals
            try replace h1 := of_decide_eq_false h1
            try (exfalso; omega)
            all_goals
              refine g_skip (g_seq ?_)
              refine g_region ?_
              refine xV rfl rfl rfl (v_move rfl) ?_
              refine xV rfl rfl rfl (v_build rfl (T.build_104_0 ..)) ?_
              refine rl_k rfl (k_box hw rfl rfl rfl (fun bk3_2 w hw => ?_))
              refine xV rfl rfl rfl (v_assign rfl) ?_
              refine xV rfl rfl rfl (v_assign rfl) ?_
              refine rl_nil (g_le (xK (xK (xS rfl (xS rfl (xS rfl (Fr.le_refl _)))))) ?_)
              refine g_ret2 Try.func22 rfl rfl rfl ?_
              refine ⟨fun _ => ⟨_, rfl, ?_⟩, fun h => by omega⟩
              simp only [List.length_nil]
              exact (hw.own_nil 119 8).xQ
theorem ckept_calls {E : Env} {w : World} {L : List As} {c : Nat} {s : Ch} {lv : Value} {cells : List Value} (hw : Sat E w (pt c (.cells [Value.int .i64 (s : Ch).room, lv, .int .i64 (s : Ch).hits, .int .i64 (s : Ch).misses].toArray 104 (0, 0)) :: OwnSl 119 8 lv (s : Ch).l.length cells :: L)) :
    Calls Try.prog 18 #[.pointer (some ⟨c, 0, none⟩)] w fun e w' => e = .returned (.int .i64 s.l.length) ∧ Sat E w' (pt c (.cells [Value.int .i64 (s : Ch).room, lv, .int .i64 (s : Ch).hits, .int .i64 (s : Ch).misses].toArray 104 (0, 0)) :: OwnSl 119 8 lv (s : Ch).l.length cells :: L) := by
  obtain ⟨a, cc, rfl, _, _, ha⟩ := (hw.pick .at1).own_shape
  refine calls_of_g (n := 8) Try.func18 rfl rfl rfl ?_
  change G _ _ _ _ _ [(0, _)] _
  refine g_seq ?_
  refine g_region ?_
  refine xV rfl rfl rfl (v_assign rfl) ?_
  refine rl_nil (g_le (xK (Fr.le_refl _)) ?_)
  refine g_seq ?_
  refine g_region ?_
  refine xV rfl rfl rfl (v_move rfl) ?_
  refine xV rfl rfl rfl (v_nilCheck rfl) ?_
  refine xV rfl rfl rfl (v_fieldAddr0 T.fld_104_1_1 rfl) ?_
  refine rl_v rfl rfl rfl (by exact sat_cell hw (by (repeat first | with_reducible exact xH | apply xT); first | done | fail) rfl) (v_load T.scal_102 rfl) ?_
  refine xV rfl rfl rfl (v_lenSlice T.sl_102_119_8 rfl) ?_
  refine xV rfl rfl rfl (v_assign rfl) ?_
  refine rl_nil (g_le (xK (xS rfl (xS rfl (xS rfl (xS rfl (xS rfl (Fr.le_refl _))))))) ?_)
  refine g_ret1 Try.func18 rfl rfl ?_
  exact ⟨rfl, hw⟩
end Go.Proofs.Ytlgpdglnfjndhaa
