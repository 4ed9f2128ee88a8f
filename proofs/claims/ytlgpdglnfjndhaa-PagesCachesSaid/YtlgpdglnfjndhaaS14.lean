/-
  The log (layer 14): its row of segments, and what its calls do.
-/
import Derived.Test.YtlgpdglnfjndhaaM12b
import Derived.Test.YtlgpdglnfjndhaaX13
namespace Go.Proofs.Ytlgpdglnfjndhaa
set_option maxRecDepth 8000
set_option linter.unusedSimpArgs false
set_option linter.unusedVariables false
open Go Xe Go.Lib
structure Sg where
  kind : Int
  used : Int
  live : Int
def Sg.cells (x : Sg) : List Value := [.int .i64 x.kind, .int .i64 x.used, .int .i64 x.live]
/-- A log at l on the medium m: its open segment, its segments. -/
theorem flat_set {α : Type} {f : α → List Value} {sz : Nat} (hl : ∀ x, (f x).length = sz) : ∀ {xs : List α} {i k : Nat} {x y : α} {v : Value}, xs[i]? = some x → k < sz → f y = (f x).set k v → (xs.flatMap f).set (i * sz + k) v = (xs.set i y).flatMap f
  | [], i, k, x, y, v, h, _, _ => by simp at h
  | z :: xs, 0, k, x, y, v, h, hk, hf => by
    obtain rfl : z = x := by simpa using h
    rw [List.flatMap_cons, List.set_cons_zero, List.flatMap_cons, hf, Nat.zero_mul, Nat.zero_add, List.set_append_left _ _ (by rw [hl]; exact hk)]
  | z :: xs, i + 1, k, x, y, v, h, hk, hf => by
    have h : xs[i]? = some x := by simpa using h
    rw [List.flatMap_cons, List.set_cons_succ, List.flatMap_cons, List.set_append_right _ _ (by rw [hl, Nat.add_mul]; omega), hl, ← flat_set hl h hk hf, show (i + 1) * sz + k - sz = i * sz + k by rw [Nat.add_mul]; omega]
theorem sg_len (xs : List Sg) : (xs.flatMap Sg.cells).length = xs.length * 3 := by
  induction xs with
  | nil => rfl
  | cons x xs ih => rw [List.flatMap_cons, List.length_append, ih, List.length_cons]; show 3 + xs.length * 3 = _; omega
theorem sg_set {xs : List Sg} {i k : Nat} {x y : Sg} {v : Value} (h : xs[i]? = some x) (hk : k < 3) (hf : y.cells = x.cells.set k v) : (xs.flatMap Sg.cells).set (i * 3 + k) v = (xs.set i y).flatMap Sg.cells := flat_set (f := Sg.cells) (sz := 3) (fun _ => rfl) h hk hf
theorem made_sg (n : Nat) : (madeCells (Value.agg #[.int .i64 0, .int .i64 0, .int .i64 0]).cells (n * 3)).toList.take (n * 3) = (List.replicate n (⟨0, 0, 0⟩ : Sg)).flatMap Sg.cells := by
  have e : (Value.agg #[.int .i64 0, .int .i64 0, .int .i64 0]).cells = #[.int .i64 0, .int .i64 0, .int .i64 0] := by rfl
  rw [e, List.take_of_length_le (by simp [madeCells])]
  apply List.ext_getElem
  · rw [sg_len, List.length_replicate]; simp [madeCells]
  · intro i h1 h2
    have key : ∀ (k : Nat) (i : Nat) (h : i < ((List.replicate k (⟨0, 0, 0⟩ : Sg)).flatMap Sg.cells).length), ((List.replicate k (⟨0, 0, 0⟩ : Sg)).flatMap Sg.cells)[i] = .int .i64 0 := by
      intro k i h
      have hm := List.getElem_mem h
      obtain ⟨x, hx, hm⟩ := List.mem_flatMap.1 hm
      rw [(List.mem_replicate.1 hx).2] at hm
      simpa [Sg.cells] using hm
    rw [key]
    have h3 : i % 3 = 0 ∨ i % 3 = 1 ∨ i % 3 = 2 := by omega
    simp only [madeCells, Array.getElem_toList, Array.getElem_ofFn]
    rcases h3 with h3 | h3 | h3 <;> simp [h3]
/-- The first place from i on where p holds; -1. -/
def sgidx {α : Type} (p : α → Bool) : List α → Int → Int
  | [], _ => -1
  | x :: xs, i => if p x = true then i else sgidx p xs (i + 1)
def newSegs (n : Nat) : List Sg := (⟨3, 0, 0⟩ : Sg) :: List.replicate (n - 1) (⟨1, 0, 0⟩ : Sg)
theorem snew_calls {E : Env} {w : World} {L : List As} (m p : Nat) (s : Md) (hw : Sat E w (MdAt m p s :: L)) :
    Calls Try.prog 25 #[.pointer (some ⟨m, 0, none⟩)] w fun e w' => ∃ l b c, e = .returned (.pointer (some ⟨l, 0, none⟩)) ∧ Sat E w' (pt l (.cells [Value.pointer (some ⟨m, 0, none⟩), .int .i64 0, .slice (some ⟨b, 0, none⟩) ((newSegs s.segs.length) : List Sg).length c].toArray 39 (0, 0)) :: OwnSl 108 3 (.slice (some ⟨b, 0, none⟩) ((newSegs s.segs.length)).length c) ((newSegs s.segs.length)).length (((newSegs s.segs.length)).flatMap Sg.cells) :: MdAt m p s :: L) := by
  have hok : s.ok := (md_open hw).1
  obtain ⟨hok1, hok2, _⟩ := hok
  refine calls_of_g (n := 36) Try.func25 rfl rfl rfl ?_
  change G _ _ _ _ _ [(0, _)] _
  refine g_seq ?_
  refine g_region ?_
  refine xV rfl rfl rfl (v_assign rfl) ?_
  refine rl_nil (g_le (xK (Fr.le_refl _)) ?_)
  refine g_seq (g_seq ?_)
  refine g_region ?_
  refine xV rfl rfl rfl (v_move rfl) ?_
  refine xV rfl rfl rfl (v_eqlNil T.ptr_36 rfl rfl) ?_
  refine rl_nil (g_le (xK (xS rfl (Fr.le_refl _))) ?_)
  refine g_cond_false rfl ?_
  refine g_skip (g_seq ?_)
  refine g_region ?_
  refine xV rfl rfl rfl (v_move rfl) ?_
  refine xV rfl rfl rfl (v_move rfl) ?_
  refine rl_k rfl (k_callf Try.func43 rfl rfl rfl rfl ?_)
  refine Calls.mono (msegments_calls m p s hw) ?_
  rintro _ w ⟨rfl, hw⟩
  refine ⟨_, rfl, ?_⟩
  refine rl_k rfl (k_makeSlice hw T.sl_37_108_3 T.zero_108 T.bytes_108_24 rfl rfl (by omega) (by omega) (by omega) (by omega) rfl (fun bk3_3 w hw => ?_))
  refine xV rfl rfl rfl (v_build rfl (T.build_39_0_2 ..)) ?_
  refine rl_k rfl (k_box hw rfl rfl rfl (fun bk3_5 w hw => ?_))
  refine xV rfl rfl rfl (v_assign rfl) ?_
  refine rl_nil (g_le (xK (xS rfl (xS rfl (xS rfl (xS rfl (xS rfl (xS rfl (Fr.le_refl _)))))))) ?_)
  refine g_seq (g_seq ?_)
  rw [Int.toNat_natCast, made_sg] at hw
  refine g_region ?_
  refine xV rfl rfl rfl (v_move rfl) ?_
  refine xV rfl rfl rfl (v_nilCheck rfl) ?_
  refine xV rfl rfl rfl (v_fieldAddr0 T.fld_39_2_2 rfl) ?_
  refine rl_v rfl rfl rfl (by exact sat_cell hw (by (repeat first | with_reducible exact xH | apply xT); first | done | fail) rfl) (v_load T.scal_37 rfl) ?_
  refine xV rfl rfl rfl (v_lenSlice T.sl_37_108_3 rfl) ?_
  refine xV rfl rfl rfl (v_move rfl) ?_
  refine rl_nil (g_le (xK (xK (xS rfl (xS rfl (xS rfl (xS rfl (Fr.le_refl _))))))) ?_)
  refine g_block ?_
  refine g_loopC (σ := Nat) (fun C x => (18, .int .i64 (x : Nat)) :: C) [(2, _), (3, _), (17, _)] (by repeat (first | exact Fr.le_nil _ | refine Fr.le_cons rfl ?_)) (fun z w => z ≤ s.segs.length ∧ Sat E w (OwnSl 108 3 (.slice (some ⟨bk3_3, 0, none⟩) s.segs.length s.segs.length) s.segs.length ((List.replicate z (⟨1, 0, 0⟩ : Sg) ++ List.replicate (s.segs.length - z) (⟨0, 0, 0⟩ : Sg)).flatMap Sg.cells) :: pt bk3_5 (.cells [Value.pointer (some ⟨m, 0, none⟩), .int .i64 0, .slice (some ⟨bk3_3, 0, none⟩) s.segs.length s.segs.length].toArray 39 (0, 0)) :: MdAt m p s :: L)) (fun z => s.segs.length - z) ?_ 0 (by repeat (first | exact Fr.le_nil _ | refine Fr.le_cons rfl ?_)) ⟨by simp, by simp only [List.replicate_zero, List.nil_append, Nat.sub_zero]; exact hw.xQ⟩
  rintro k w ⟨hk, hw⟩ ih
  refine g_seq ?_
  refine g_region ?_
  refine xV rfl rfl rfl (v_lss rfl rfl) ?_
  refine rl_nil (g_le (xK (Fr.le_refl _)) ?_)
  refine g_seq ?_
  refine g_cond rfl (fun h2 => ?_) (fun h2 => ?_)
  · try with_reducible exact ft_elim h2
    all_goals
      try replace h2 := of_decide_eq_true h2
      try (exfalso; omega)
      all_goals
        refine g_skip (g_seq (g_block (g_seq ?_)))
        refine g_region ?_
        refine xV rfl rfl rfl (v_move rfl) ?_
        refine xV rfl rfl rfl (v_assign rfl) ?_
        refine rl_nil (g_le (xK (xK (Fr.le_refl _))) ?_)
        have hst : 0 + (k : Int).toNat * 3 + 0 < ((List.replicate k (⟨1, 0, 0⟩ : Sg) ++ List.replicate (s.segs.length - k) (⟨0, 0, 0⟩ : Sg)).flatMap Sg.cells).length := by rw [sg_len, List.length_append, List.length_replicate, List.length_replicate]; omega
        refine g_region ?_
        refine xV rfl rfl rfl (v_move rfl) ?_
        refine xV rfl rfl rfl (v_nilCheck rfl) ?_
        refine xV rfl rfl rfl (v_fieldAddr0 T.fld_39_2_2 rfl) ?_
        refine rl_v rfl rfl rfl (by exact sat_cell hw (by (repeat first | with_reducible exact xH | apply xT); first | done | fail) rfl) (v_load T.scal_37 rfl) ?_
        refine xV rfl rfl rfl (v_move rfl) ?_
        refine xV rfl rfl rfl (v_indexAddr T.sl_37_108_3 rfl rfl (by omega) (by omega)) ?_
        refine xV rfl rfl rfl (v_fieldAddr T.fld_108_0_0 rfl) ?_
        refine rl_k rfl (k_storeOwn hw T.scal_3 rfl rfl rfl (by (repeat first | with_reducible exact xH | apply xT); first | done | fail) (by assumption) (fun w hw => ?_))
        refine rl_nil (g_le (xK (xK (xK (xK (xK (xK (xK (Fr.le_refl _)))))))) ?_)
        refine g_inBlock ?_
        refine g_region ?_
        refine xV rfl rfl rfl (v_add rfl rfl (by omega)) ?_
        refine xV rfl rfl rfl (v_move rfl) ?_
        refine rl_nil (g_le (xK (xK (Fr.le_refl _))) ?_)
        have hset : ((List.replicate k (⟨1, 0, 0⟩ : Sg) ++ List.replicate (s.segs.length - k) (⟨0, 0, 0⟩ : Sg)).flatMap Sg.cells).set (0 + (k : Int).toNat * 3 + 0) (Value.int IntKind.i64 1) = (List.replicate (k + 1) (⟨1, 0, 0⟩ : Sg) ++ List.replicate (s.segs.length - (k + 1)) (⟨0, 0, 0⟩ : Sg)).flatMap Sg.cells := by
          have hx : (List.replicate k (⟨1, 0, 0⟩ : Sg) ++ List.replicate (s.segs.length - k) (⟨0, 0, 0⟩ : Sg))[k]? = some ⟨0, 0, 0⟩ := by rw [List.getElem?_append_right (by simp), List.length_replicate, Nat.sub_self, List.getElem?_replicate, if_pos (by omega)]
          rw [show 0 + (k : Int).toNat * 3 + 0 = k * 3 + 0 by omega, sg_set (y := (⟨1, 0, 0⟩ : Sg)) hx (by omega) rfl]
          rw [List.set_append_right _ _ (by simp), List.length_replicate, Nat.sub_self, show s.segs.length - k = (s.segs.length - (k + 1)) + 1 by omega, List.replicate_succ, List.set_cons_zero, List.replicate_succ', List.append_assoc]; rfl
        rw [hset] at hw
        exact g_le (by repeat (first | exact Fr.le_nil _ | refine Fr.le_cons rfl ?_)) (ih (k + 1) w ⟨by omega, hw.xQ⟩ (by omega))
  · try with_reducible exact tf_elim h2
    all_goals
      try replace h2 := of_decide_eq_false h2
      try (exfalso; omega)
      all_goals
        refine g_exit rfl (g_seq ?_)
        obtain rfl : k = s.segs.length := by omega
        rw [Nat.sub_self, List.replicate_zero, List.append_nil] at hw
        have hst : 0 + (0 : Int).toNat * 3 + 0 < ((List.replicate s.segs.length (⟨1, 0, 0⟩ : Sg)).flatMap Sg.cells).length := by rw [sg_len, List.length_replicate]; have : (0 : Int).toNat = 0 := rfl; omega
        refine g_region ?_
        refine xV rfl rfl rfl (v_move rfl) ?_
        refine xV rfl rfl rfl (v_nilCheck rfl) ?_
        refine xV rfl rfl rfl (v_fieldAddr0 T.fld_39_2_2 rfl) ?_
        refine rl_v rfl rfl rfl (by exact sat_cell hw (by (repeat first | with_reducible exact xH | apply xT); first | done | fail) rfl) (v_load T.scal_37 rfl) ?_
        refine xV rfl rfl rfl (v_indexAddr T.sl_37_108_3 rfl rfl (by omega) (by omega)) ?_
        refine xV rfl rfl rfl (v_fieldAddr0 T.fld_108_0_0 rfl) ?_
        refine rl_k rfl (k_storeOwn hw T.scal_3 rfl rfl rfl (by (repeat first | with_reducible exact xH | apply xT); first | done | fail) (by assumption) (fun w hw => ?_))
        refine rl_nil (g_le (xS rfl (xS rfl (xS rfl (xS rfl (xS rfl (xS rfl (Fr.le_refl _))))))) ?_)
        refine g_seq ?_
        refine g_region ?_
        refine xV rfl rfl rfl (v_move rfl) ?_
        refine xV rfl rfl rfl (v_assign rfl) ?_
        refine rl_nil (g_le (xK (xS rfl (Fr.le_refl _))) ?_)
        refine g_ret1 Try.func25 rfl rfl ?_
        have hset : ((List.replicate s.segs.length (⟨1, 0, 0⟩ : Sg)).flatMap Sg.cells).set 0 (Value.int IntKind.i64 3) = (newSegs s.segs.length).flatMap Sg.cells := by
          obtain ⟨n, hn⟩ : ∃ n, s.segs.length = n + 1 := ⟨s.segs.length - 1, by omega⟩
          unfold newSegs; rw [hn, List.replicate_succ, Nat.add_sub_cancel]; rfl
        rw [hset] at hw
        have hll : (newSegs s.segs.length).length = s.segs.length := by unfold newSegs; simp; omega
        refine ⟨bk3_5, bk3_3, s.segs.length, rfl, ?_⟩
        rw [hll]; exact hw.xQ
end Go.Proofs.Ytlgpdglnfjndhaa
