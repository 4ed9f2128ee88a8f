/-
  The laws' helpers of layer 14: a raw number among n, once more; the first of a kind; what is kept.
-/
import Derived.Test.YtipdklbedpkobaaS14o
namespace Go.Proofs.Ytipdklbedpkobaa
set_option maxRecDepth 8000
set_option linter.unusedSimpArgs false
set_option linter.unusedVariables false
open Go Xe Go.Lib
structure Op14 where
  kind : Int
  bytes : ByteArray
  a : Int
  b : Int
  places : (List Pl)
instance : DecidableEq Op14 := fun a b => decidable_of_iff (a.kind = b.kind ∧ a.bytes = b.bytes ∧ a.a = b.a ∧ a.b = b.b ∧ a.places = b.places) (by cases a; cases b; simp)
def rdOp14 : Rd Op14 := fun w cs x => ∃ c0 c1 c2 c3 c4, cs = [c0, c1, c2, c3, c4] ∧ (rdInt .i64) w [c0] x.kind ∧ rdStr w [c1] x.bytes ∧ (rdInt .i64) w [c2] x.a ∧ (rdInt .i64) w [c3] x.b ∧ (rdSl 24 3 rdPl) w [c4] x.places
theorem mono_Op14 : Rd.Mono rdOp14 := fun l cs x h => by
  obtain ⟨c0, c1, c2, c3, c4, rfl, h0, h1, h2, h3, h4⟩ := h
  exact ⟨_, _, _, _, _, rfl, mono_int l h0, mono_str l h1, mono_int l h2, mono_int l h3, (mono_sl @mono_Pl) l h4⟩
theorem one_Op14 : Rd.One rdOp14 := fun h => by
  obtain ⟨c0, c1, c2, c3, c4, rfl, h0, h1, h2, h3, h4⟩ := h
  intro u hu
  simp only [List.mem_cons, List.not_mem_nil, or_false] at hu
  rcases hu with rfl | rfl | rfl | rfl | rfl
  · exact one_int h0 _ (by simp)
  · exact one_str h1 _ (by simp)
  · exact one_int h2 _ (by simp)
  · exact one_int h3 _ (by simp)
  · exact one_sl h4 _ (by simp)
theorem reads_Op14 {H : Type} {enc : TypeId × Value → H} : Reads enc Try.prog 72 rdOp14 := fun w fuel cs d ps h hz => by
  have hl := reads_length T.agg_72_5 (by kernel_rfl) h hz
  obtain ⟨c0, c1, c2, c3, c4, rfl⟩ : ∃ c0 c1 c2 c3 c4, cs = [c0, c1, c2, c3, c4] := by
    match cs, hl with
    | [c0, c1, c2, c3, c4], _ => exact ⟨_, _, _, _, _, rfl⟩
  obtain ⟨x0, h0⟩ := reads_field (i := 0) (off := 0) (k := 1) (ft := 3) (by kernel_rfl) h hz (reads_int T.int_3_i64)
  obtain ⟨x1, h1⟩ := reads_field (i := 1) (off := 1) (k := 1) (ft := 9) (by kernel_rfl) h hz (reads_str T.str_9)
  obtain ⟨x2, h2⟩ := reads_field (i := 2) (off := 2) (k := 1) (ft := 3) (by kernel_rfl) h hz (reads_int T.int_3_i64)
  obtain ⟨x3, h3⟩ := reads_field (i := 3) (off := 3) (k := 1) (ft := 3) (by kernel_rfl) h hz (reads_int T.int_3_i64)
  obtain ⟨x4, h4⟩ := reads_field (i := 4) (off := 4) (k := 1) (ft := 70) (by kernel_rfl) h hz (reads_sl T.sl_70_58_3 T.bytes_58_24 (by decide) reads_Pl)
  exact ⟨⟨x0, x1, x2, x3, x4⟩, _, _, _, _, _, rfl, h0, h1, h2, h3, h4⟩
def pickV (c n : Int) : Int := if c.tmod n < 0 then c.tmod n + n else c.tmod n
theorem pickV_calls {E : Env} {w : World} {L : List As} (i n : Int) (h1 : 1 ≤ n) (h2 : n ≤ 100000) (hw : Sat E w L) :
    Calls Try.prog 20 #[.int .i64 i, .int .i64 n] w fun e w' => e = .returned (.int .i64 (pickV i n)) ∧ Sat E w' L := by
  have hr1 := Int.tmod_lt_of_pos i (show 0 < n by omega)
  have hr2 : -n < i.tmod n := by have h := Int.tmod_lt_of_pos (-i) (show 0 < n by omega); rw [Int.neg_tmod] at h; omega
  unfold pickV
  refine calls_of_g (n := 14) Try.func20 rfl rfl rfl ?_
  change G _ _ _ _ _ [(0, _), (1, _)] _
  refine g_seq ?_
  refine g_region ?_
  refine xV rfl rfl rfl (v_assign rfl) ?_
  refine rl_nil (g_le (xK (Fr.le_refl _)) ?_)
  refine g_seq ?_
  refine g_region ?_
  refine xV rfl rfl rfl (v_move rfl) ?_
  refine xV rfl rfl rfl (v_move rfl) ?_
  refine xV rfl rfl rfl (v_rem rfl rfl (by omega)) ?_
  refine xV rfl rfl rfl (v_assign rfl) ?_
  refine rl_nil (g_le (xK (xS rfl (xS rfl (xS rfl (Fr.le_refl _))))) ?_)
  refine g_seq (g_seq ?_)
  refine g_region ?_
  refine xV rfl rfl rfl (v_move rfl) ?_
  refine xV rfl rfl rfl (v_lss rfl rfl) ?_
  refine rl_nil (g_le (xK (xS rfl (Fr.le_refl _))) ?_)
  refine g_cond rfl (fun h1 => ?_) (fun h1 => ?_)
  · try with_reducible exact ft_elim h1
    all_goals
      try replace h1 := of_decide_eq_true h1
      refine g_region ?_
      refine xV rfl rfl rfl (v_move rfl) ?_
      refine xV rfl rfl rfl (v_move rfl) ?_
      refine xV rfl rfl rfl (v_add rfl rfl (by omega)) ?_
      refine xV rfl rfl rfl (v_assign rfl) ?_
      refine rl_nil (g_le (xK (xS rfl (xS rfl (xS rfl (Fr.le_refl _))))) ?_)
      refine g_seq ?_
      refine g_region ?_
      refine xV rfl rfl rfl (v_move rfl) ?_
      refine xV rfl rfl rfl (v_assign rfl) ?_
      refine rl_nil (g_le (xK (xS rfl (Fr.le_refl _))) ?_)
      refine g_ret1 Try.func20 rfl rfl ?_
      rw [if_pos (by omega)]; exact ⟨rfl, hw.xQ⟩
  · try with_reducible exact tf_elim h1
    all_goals
      try replace h1 := of_decide_eq_false h1
      refine g_skip (g_seq ?_)
      refine g_region ?_
      refine xV rfl rfl rfl (v_move rfl) ?_
      refine xV rfl rfl rfl (v_assign rfl) ?_
      refine rl_nil (g_le (xK (xS rfl (Fr.le_refl _))) ?_)
      refine g_ret1 Try.func20 rfl rfl ?_
      rw [if_neg (by omega)]; exact ⟨rfl, hw.xQ⟩
theorem pickV_bound (i n : Int) (h1 : 1 ≤ n) : 0 ≤ pickV i n ∧ pickV i n < n := by
  have hr1 := Int.tmod_lt_of_pos i (show 0 < n by omega)
  have hr2 : -n < i.tmod n := by have h := Int.tmod_lt_of_pos (-i) (show 0 < n by omega); rw [Int.neg_tmod] at h; omega
  unfold pickV
  split <;> omega
theorem ofS_head : ∀ (ss : List Sg) (i : Int), 0 < ss.countP (fun x => decide (x.kind = 1)) → (ofS 1 ss i)[0]? = some (idx (fun x : Sg => decide (x.kind = 1)) ss i)
  | [], _, h => by simp at h
  | x :: xs, i, h => by
    rw [List.countP_cons] at h
    by_cases hx : x.kind = 1
    · simp only [ofS, idx]
      rw [if_pos hx, if_pos (by simpa using hx)]; rfl
    · simp only [ofS, idx]
      rw [if_neg hx, if_neg (by simpa using hx)]
      rw [if_neg (by simpa using hx)] at h
      exact ofS_head xs (i + 1) h
/-- Element i of a row of calls. -/
theorem op14_at {g : Hp} {a : Option Addr} {len cap : Nat} {xs : List Op14} (h : (rdSl 64 5 rdOp14) g [.slice a len cap] xs) (i : Nat) (h1 : i < len) :
    ∃ b o x pa pn pc, a = some ⟨b, o, none⟩ ∧ xs[i]? = some x ∧ HAt g b (o + (i : Int).toNat * 5) [.int .i64 x.kind, .string x.bytes, .int .i64 x.a, .int .i64 x.b, .slice pa pn pc] ∧ x.bytes.size ≤ reachBytes ∧ (rdSl 24 3 rdPl) g [.slice pa pn pc] x.places ∧ (Lit.int .i64 x.a).wf = true ∧ (Lit.int .i64 x.b).wf = true := by
  obtain ⟨_, _, _, _, gx⟩ := rdSl_get h
  obtain ⟨b, o, x, ecs, rfl, hx, hat, _, ⟨c0, c1, c2, c3, c4, rfl, ⟨h3, _⟩, ⟨h4, h4b⟩, ⟨h5, h5b⟩, ⟨h6, h6b⟩, h7⟩⟩ := gx (i : Nat) (by omega) (by omega)
  simp only [List.cons.injEq, and_true] at h3 h4 h5 h6
  subst h3; subst h4; subst h5; subst h6
  obtain ⟨pa, pn, pc, rfl⟩ : ∃ pa pn pc, c4 = .slice pa pn pc := by
    rcases h7 with ⟨a', h, _⟩ | ⟨b', o', c', h, _⟩
    · simp only [List.cons.injEq, and_true] at h; exact ⟨_, _, _, h⟩
    · simp only [List.cons.injEq, and_true] at h; exact ⟨_, _, _, h⟩
  rw [Int.toNat_natCast] at hx
  exact ⟨b, o, x, pa, pn, pc, rfl, hx, hat, h4b, h7, h5b, h6b⟩
end Go.Proofs.Ytipdklbedpkobaa
