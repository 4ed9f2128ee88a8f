/-
  The cache's calls, for what is counted.
-/
import Derived.Test.YtnkddbbcfolcdaaC15e
import Derived.Test.YtnkddbbcfolcdaaRows
namespace Go.Proofs.Ytnkddbbcfolcdaa
set_option linter.unusedSimpArgs false
set_option linter.unusedVariables false
open Go Xe Go.Lib Go.RowKit Go.ChangeShapes Go.WideShapes Go.ChangeAt
structure Op where
  do_ : Int
  r : Int
  n : Nd
  refs : (List Int)
instance : DecidableEq Op := fun a b => decidable_of_iff (a.do_ = b.do_ ∧ a.r = b.r ∧ a.n = b.n ∧ a.refs = b.refs) (by cases a; cases b; simp)
def rdOp : Rd Op := fun w cs x => ∃ c0 c1 c2 c3 c4 c5, cs = [c0, c1, c2, c3, c4, c5] ∧ (rdInt .i64) w [c0] x.do_ ∧ (rdInt .i64) w [c1] x.r ∧ rdNd w [c2, c3, c4] x.n ∧ (rdSl 8 1 (rdInt .i64)) w [c5] x.refs
theorem mono_Op : Rd.Mono rdOp := fun l cs x h => by
  obtain ⟨c0, c1, c2, c3, c4, c5, rfl, h0, h1, h2, h3⟩ := h
  exact ⟨_, _, _, _, _, _, rfl, mono_int l h0, mono_int l h1, mono_Nd l h2, (mono_sl mono_int) l h3⟩
theorem one_Op : Rd.One rdOp := fun h => by
  obtain ⟨c0, c1, c2, c3, c4, c5, rfl, h0, h1, h2, h3⟩ := h
  intro u hu
  simp only [List.mem_cons, List.not_mem_nil, or_false] at hu
  rcases hu with rfl | rfl | rfl | rfl | rfl | rfl
  · exact one_int h0 _ (by simp)
  · exact one_int h1 _ (by simp)
  · exact one_Nd h2 _ (by simp)
  · exact one_Nd h2 _ (by simp)
  · exact one_Nd h2 _ (by simp)
  · exact one_sl h3 _ (by simp)
theorem reads_Op {H : Type} {enc : TypeId × Value → H} : Reads enc Try.prog 49 rdOp := fun w fuel cs d ps h hz => by
  have hl := reads_length T.agg_49_6 (by kernel_rfl) h hz
  obtain ⟨c0, c1, c2, c3, c4, c5, rfl⟩ : ∃ c0 c1 c2 c3 c4 c5, cs = [c0, c1, c2, c3, c4, c5] := by
    match cs, hl with
    | [c0, c1, c2, c3, c4, c5], _ => exact ⟨_, _, _, _, _, _, rfl⟩
  obtain ⟨x0, h0⟩ := reads_field (i := 0) (off := 0) (k := 1) (ft := 3) (by kernel_rfl) h hz (reads_int T.int_3_i64)
  obtain ⟨x1, h1⟩ := reads_field (i := 1) (off := 1) (k := 1) (ft := 3) (by kernel_rfl) h hz (reads_int T.int_3_i64)
  obtain ⟨x2, h2⟩ := reads_field (i := 2) (off := 2) (k := 3) (ft := 25) (by kernel_rfl) h hz reads_Nd
  obtain ⟨x3, h3⟩ := reads_field (i := 3) (off := 5) (k := 1) (ft := 46) (by kernel_rfl) h hz (reads_sl T.sl_46_3_1 T.bytes_3_8 (by decide) (reads_int T.int_3_i64))
  exact ⟨⟨x0, x1, x2, x3⟩, _, _, _, _, _, _, rfl, h0, h1, h2, h3⟩
theorem cget_calls {E : Env} {w : World} {L : List As} {g : Hp} {c : Nat} {s : Ch} {lv : Value} {cells : List Value} (r : Rf) (hels : Els rdHd 8 g cells s.l) (hb : s.l.length ≤ 100000) (hw : Sat E w (pt c (.cells [Value.int .i64 (s : Ch).room, lv, .int .i64 (s : Ch).hits, .int .i64 (s : Ch).misses].toArray 70 (0, 0)) :: OwnSl 42 8 lv (s : Ch).l.length cells :: RO g :: L)) :
    Calls Try.prog 13 #[.pointer (some ⟨c, 0, none⟩), .agg r.cells.toArray] w fun e w' => ∃ s' lv' cells' lf ea en ec ka kn kc b, e = .returned (.tuple #[.agg #[.bool lf, .slice ea en ec, .slice ka kn kc], .bool b]) ∧ Els rdHd 8 g cells' s'.l ∧
      s'.l.length = s.l.length ∧ s'.room = s.room ∧ (b = true → s'.hits = IntKind.i64.wrap (s.hits + 1) ∧ s'.misses = s.misses) ∧ (b = false → s'.hits = s.hits ∧ s'.misses = IntKind.i64.wrap (s.misses + 1)) ∧ Sat E w' (pt c (.cells [Value.int .i64 (s' : Ch).room, lv', .int .i64 (s' : Ch).hits, .int .i64 (s' : Ch).misses].toArray 70 (0, 0)) :: OwnSl 42 8 lv' (s' : Ch).l.length cells' :: RO g :: L) := by
  have hpb := s.pl_bound r
  by_cases h : s.pl r = -1
  · refine Calls.mono (cgetNo_calls r h hels hb hw) ?_
    rintro _ w ⟨rfl, hw⟩
    exact ⟨s.miss, lv, cells, false, none, 0, 0, none, 0, 0, false, rfl, hels, rfl, rfl, by simp, fun _ => ⟨rfl, rfl⟩, hw⟩
  · have hlt : (s.pl r).toNat < s.l.length := by omega
    refine Calls.mono (cgetYes_calls r (s.pl r).toNat (by omega) (List.getElem?_eq_getElem hlt) hels hb hw) ?_
    rintro _ w ⟨lv', cells', ev, kv, vs, rfl, hels', hw⟩
    obtain ⟨a4, c4, rfl, _, _, _⟩ := (hw.pick .at2).own_shape
    obtain ⟨a5, c5, rfl, _, _, _⟩ := (hw.pick .at4).own_shape
    exact ⟨_, lv', cells', _, _, _, _, _, _, _, true, rfl, hels', by simp only [Ch.hit, List.length_append, List.length_cons, List.length_nil]; rw [List.length_eraseIdx_of_lt hlt]; omega, rfl, fun _ => ⟨rfl, rfl⟩, by simp, hw.sub (by (repeat (first | with_reducible exact Sub.refl _ | exact Sub.nil _ | (apply Sub.cons; focus ((repeat (first | with_reducible exact Pick.here _ | apply Pick.there)); (first | done | fail))) | with_reducible apply Sub.drop)); first | done | fail)⟩
theorem pin_facts (s : Ch) (r : Rf) : (s.pin r).2.l.length = s.l.length ∧ (s.pin r).2.hits = s.hits ∧ (s.pin r).2.misses = s.misses ∧ (s.pin r).2.room = s.room := by
  unfold Ch.pin Ch.repin; split
  · simp
  · split <;> simp
theorem put_facts (s : Ch) (r : Rf) (n : Nd) : (s.put r n).2.l.length ≤ s.l.length + 1 ∧ (s.put r n).2.hits = s.hits ∧ (s.put r n).2.misses = s.misses ∧ (s.put r n).2.room = s.room := by
  unfold Ch.put
  have h (i : Nat) : (s.l.eraseIdx i).length ≤ s.l.length := List.length_eraseIdx_le ..
  have h1 := h (s.pl r).toNat
  have h2 := h (idx (fun h : Hd => decide (h.pins = 0)) s.l 0).toNat
  split
  · split
    · simp; omega
    · split
      · split
        · simp
        · simp; omega
      · simp
  · split <;> simp
theorem drop_facts : ∀ (rs : List Rf) (p : Ch × Int), (rs.foldl Ch.drop1 p).1.l.length ≤ p.1.l.length ∧ (rs.foldl Ch.drop1 p).1.hits = p.1.hits ∧ (rs.foldl Ch.drop1 p).1.misses = p.1.misses ∧ (rs.foldl Ch.drop1 p).1.room = p.1.room
  | [], p => by simp
  | r :: rs, p => by
    have h := drop_facts rs (Ch.drop1 p r)
    rw [List.foldl_cons]
    have h1 : (Ch.drop1 p r).1.l.length ≤ p.1.l.length ∧ (Ch.drop1 p r).1.hits = p.1.hits ∧ (Ch.drop1 p r).1.misses = p.1.misses ∧ (Ch.drop1 p r).1.room = p.1.room := by
      unfold Ch.drop1; split
      · simp
      · exact ⟨List.length_eraseIdx_le .., rfl, rfl, rfl⟩
    refine ⟨Nat.le_trans h.1 h1.1, h.2.1.trans h1.2.1, h.2.2.1.trans h1.2.2.1, h.2.2.2.trans h1.2.2.2⟩
end Go.Proofs.Ytnkddbbcfolcdaa
