/-
  The cache's reference (layer 15): Get, frozen; answers alike.
-/
import Derived.Test.YtnkddbbcfolcdaaC15u
namespace Go.Proofs.Ytnkddbbcfolcdaa
set_option linter.unusedSimpArgs false
set_option linter.unusedVariables false
open Go Xe
def Ch.get (s : Ch) (r : Rf) : Nd × Bool × Ch :=
  match s.l[(s.pl r).toNat]? with
  | some x => if 0 ≤ s.pl r then (x.node, true, s.hit (s.pl r).toNat x) else (⟨false, [], []⟩, false, s.miss)
  | none => (⟨false, [], []⟩, false, s.miss)
theorem Ch.get_no {s : Ch} {r : Rf} (h : s.pl r = -1) : s.get r = (⟨false, [], []⟩, false, s.miss) := by
  unfold Ch.get; split
  · rw [if_neg (by omega)]
  · rfl
theorem Ch.get_yes {s : Ch} {r : Rf} {i : Nat} {x : Hd} (h : s.pl r = i) (hx : s.l[i]? = some x) : s.get r = (x.node, true, s.hit i x) := by
  unfold Ch.get; rw [h, Int.toNat_natCast, hx]; exact if_pos (by omega)
theorem Ch.get_facts (s : Ch) (r : Rf) : (s.get r).2.2.l.length = s.l.length ∧ (s.get r).2.2.room = s.room := by
  have hpb := s.pl_bound r
  by_cases h : s.pl r = -1
  · rw [Ch.get_no h]; exact ⟨rfl, rfl⟩
  · have hlt : (s.pl r).toNat < s.l.length := by omega
    rw [Ch.get_yes (i := (s.pl r).toNat) (by omega) (List.getElem?_eq_getElem hlt)]
    refine ⟨?_, rfl⟩
    simp only [Ch.hit, List.length_append, List.length_cons, List.length_nil]; rw [List.length_eraseIdx_of_lt hlt]; omega
theorem cgetF_calls {E : Env} {w : World} {L : List As} {g : Hp} {c : Nat} {s : Ch} {lv : Value} {cells : List Value} (r : Rf) (hels : Els rdHd 8 g cells s.l) (hb : s.l.length ≤ 100000) (hw : Sat E w (pt c (.cells [Value.int .i64 (s : Ch).room, lv, .int .i64 (s : Ch).hits, .int .i64 (s : Ch).misses].toArray 70 (0, 0)) :: OwnSl 42 8 lv (s : Ch).l.length cells :: RO g :: L)) :
    Calls Try.prog 13 #[.pointer (some ⟨c, 0, none⟩), .agg r.cells.toArray] w fun e w' => ∃ g' lv' cells' ea en ec ka kn kc, g.le g' ∧ e = .returned (.tuple #[.agg #[.bool (s.get r).1.leaf, .slice ea en ec, .slice ka kn kc], .bool (s.get r).2.1]) ∧ rdNd g' [.bool (s.get r).1.leaf, .slice ea en ec, .slice ka kn kc] (s.get r).1 ∧ Els rdHd 8 g' cells' (s.get r).2.2.l ∧
      Sat E w' (pt c (.cells [Value.int .i64 ((s.get r).2.2 : Ch).room, lv', .int .i64 ((s.get r).2.2 : Ch).hits, .int .i64 ((s.get r).2.2 : Ch).misses].toArray 70 (0, 0)) :: OwnSl 42 8 lv' ((s.get r).2.2 : Ch).l.length cells' :: RO g' :: L) := by
  have hpb := s.pl_bound r
  by_cases h : s.pl r = -1
  · rw [Ch.get_no h]
    refine Calls.mono (cgetNo_calls r h hels hb hw) ?_
    rintro _ w ⟨rfl, hw⟩
    exact ⟨g, lv, cells, none, 0, 0, none, 0, 0, Hp.le_refl _, rfl, ⟨_, _, _, rfl, rfl, rdSl_nil _, rdSl_nil _⟩, hels, hw⟩
  · have hlt : (s.pl r).toNat < s.l.length := by omega
    have hx : s.l[(s.pl r).toNat]? = some s.l[(s.pl r).toNat] := List.getElem?_eq_getElem hlt
    rw [Ch.get_yes (i := (s.pl r).toNat) (by omega) hx]
    obtain ⟨_, _, _, _, _, _, _, _, hnd0, _, _⟩ := hd_cells hels hx
    refine Calls.mono (cgetYes_calls r (s.pl r).toNat (by omega) hx hels hb hw) ?_
    rintro _ w ⟨lv', cells', ev, kv, vs, rfl, hels', hw⟩
    obtain ⟨a4, c4, rfl, _, _, _⟩ := (hw.pick .at2).own_shape
    obtain ⟨a5, c5, rfl, _, _, _⟩ := (hw.pick .at4).own_shape
    obtain ⟨g', hg', hnd', hw⟩ := nd_freeze (Nd.fine_of hnd0) (hw.sub (by (repeat (first | with_reducible exact Sub.refl _ | exact Sub.nil _ | (apply Sub.cons; focus ((repeat (first | with_reducible exact Pick.here _ | apply Pick.there)); (first | done | fail))) | with_reducible apply Sub.drop)); first | done | fail))
    exact ⟨g', lv', cells', _, _, _, _, _, _, hg', rfl, hnd', hels'.mono mono_Hd hg', hw.sub (by (repeat (first | with_reducible exact Sub.refl _ | exact Sub.nil _ | (apply Sub.cons; focus ((repeat (first | with_reducible exact Pick.here _ | apply Pick.there)); (first | done | fail))) | with_reducible apply Sub.drop)); first | done | fail)⟩
theorem rgetF_calls {E : Env} {w : World} {L : List As} {g : Hp} {c : Nat} {s : Ch} {lv : Value} {cells : List Value} (r : Rf) (hels : Els rdHd 8 g cells s.l) (hb : s.l.length ≤ 100000) (hw : Sat E w (pt c (.cells [Value.int .i64 (s : Ch).room, lv, .int .i64 (s : Ch).hits, .int .i64 (s : Ch).misses].toArray 67 (0, 0)) :: OwnSl 42 8 lv (s : Ch).l.length cells :: RO g :: L)) :
    Calls Try.prog 27 #[.pointer (some ⟨c, 0, none⟩), .agg r.cells.toArray] w fun e w' => ∃ g' lv' cells' ea en ec ka kn kc, g.le g' ∧ e = .returned (.tuple #[.agg #[.bool (s.get r).1.leaf, .slice ea en ec, .slice ka kn kc], .bool (s.get r).2.1]) ∧ rdNd g' [.bool (s.get r).1.leaf, .slice ea en ec, .slice ka kn kc] (s.get r).1 ∧ Els rdHd 8 g' cells' (s.get r).2.2.l ∧
      Sat E w' (pt c (.cells [Value.int .i64 ((s.get r).2.2 : Ch).room, lv', .int .i64 ((s.get r).2.2 : Ch).hits, .int .i64 ((s.get r).2.2 : Ch).misses].toArray 67 (0, 0)) :: OwnSl 42 8 lv' ((s.get r).2.2 : Ch).l.length cells' :: RO g' :: L) := by
  have hpb := s.pl_bound r
  by_cases h : s.pl r = -1
  · rw [Ch.get_no h]
    refine Calls.mono (rgetNo_calls r h hels hb hw) ?_
    rintro _ w ⟨rfl, hw⟩
    exact ⟨g, lv, cells, none, 0, 0, none, 0, 0, Hp.le_refl _, rfl, ⟨_, _, _, rfl, rfl, rdSl_nil _, rdSl_nil _⟩, hels, hw⟩
  · have hlt : (s.pl r).toNat < s.l.length := by omega
    have hx : s.l[(s.pl r).toNat]? = some s.l[(s.pl r).toNat] := List.getElem?_eq_getElem hlt
    rw [Ch.get_yes (i := (s.pl r).toNat) (by omega) hx]
    obtain ⟨_, _, _, _, _, _, _, _, hnd0, _, _⟩ := hd_cells hels hx
    refine Calls.mono (rgetYes_calls r (s.pl r).toNat (by omega) hx hels hb hw) ?_
    rintro _ w ⟨lv', cells', ev, kv, vs, rfl, hels', hw⟩
    obtain ⟨a4, c4, rfl, _, _, _⟩ := (hw.pick .at2).own_shape
    obtain ⟨a5, c5, rfl, _, _, _⟩ := (hw.pick .at4).own_shape
    obtain ⟨g', hg', hnd', hw⟩ := nd_freeze (Nd.fine_of hnd0) (hw.sub (by (repeat (first | with_reducible exact Sub.refl _ | exact Sub.nil _ | (apply Sub.cons; focus ((repeat (first | with_reducible exact Pick.here _ | apply Pick.there)); (first | done | fail))) | with_reducible apply Sub.drop)); first | done | fail))
    exact ⟨g', lv', cells', _, _, _, _, _, _, hg', rfl, hnd', hels'.mono mono_Hd hg', hw.sub (by (repeat (first | with_reducible exact Sub.refl _ | exact Sub.nil _ | (apply Sub.cons; focus ((repeat (first | with_reducible exact Pick.here _ | apply Pick.there)); (first | done | fail))) | with_reducible apply Sub.drop)); first | done | fail)⟩
end Go.Proofs.Ytnkddbbcfolcdaa
