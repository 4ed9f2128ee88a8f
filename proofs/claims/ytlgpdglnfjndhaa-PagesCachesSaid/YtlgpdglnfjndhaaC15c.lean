/-
  The cache (layer 15): Get, Put, Drop.
-/
import Derived.Test.YtlgpdglnfjndhaaC15b
namespace Go.Proofs.Ytlgpdglnfjndhaa
set_option maxRecDepth 8000
set_option linter.unusedSimpArgs false
set_option linter.unusedVariables false
open Go Xe
theorem catm_calls {E : Env} {w : World} {L : List As} {g : Hp} {c : Nat} {s : Ch} {lv : Value} {cells : List Value} (r : Rf) (m : Int) (hm : s.pl r = m) (hels : Els rdHd 8 g cells s.l) (hb : s.l.length ≤ 100000) (hw : Sat E w (pt c (.cells [Value.int .i64 (s : Ch).room, lv, .int .i64 (s : Ch).hits, .int .i64 (s : Ch).misses].toArray 104 (0, 0)) :: OwnSl 119 8 lv (s : Ch).l.length cells :: RO g :: L)) :
    Calls Try.prog 51 #[.pointer (some ⟨c, 0, none⟩), .agg r.cells.toArray] w fun e w' => e = .returned (.int .i64 m) ∧ Sat E w' (pt c (.cells [Value.int .i64 (s : Ch).room, lv, .int .i64 (s : Ch).hits, .int .i64 (s : Ch).misses].toArray 104 (0, 0)) :: OwnSl 119 8 lv (s : Ch).l.length cells :: RO g :: L) := hm ▸ catp_calls r hels hb hw
theorem rdHd_nd {g : Hp} {x : Hd} {ea ka : Option Addr} {en ec kn kc : Nat} (h : rdHd g [.int .u64 (x : Hd).ref.key, .int .i64 (x : Hd).ref.seg, .int .i64 (x : Hd).ref.off, .int .i64 (x : Hd).ref.len, .bool (x : Hd).node.leaf, .slice ea en ec, .slice ka kn kc, .int .i64 (x : Hd).pins] x) : rdNd g [.bool x.node.leaf, .slice ea en ec, .slice ka kn kc] x.node := by
  obtain ⟨c0, c1, c2, c3, c4, c5, c6, c7, hc, hr, hn, ⟨p1, p2⟩⟩ := h
  simp only [List.cons.injEq, and_true] at hc
  obtain ⟨rfl, rfl, rfl, rfl, rfl, rfl, rfl, rfl⟩ := hc
  exact hn
def Ch.miss (s : Ch) : Ch := ⟨s.room, s.l, s.hits, IntKind.i64.wrap (s.misses + 1)⟩
def Ch.hit (s : Ch) (i : Nat) (x : Hd) : Ch := ⟨s.room, s.l.eraseIdx i ++ [x], IntKind.i64.wrap (s.hits + 1), s.misses⟩
theorem cgetNo_calls {E : Env} {w : World} {L : List As} {g : Hp} {c : Nat} {s : Ch} {lv : Value} {cells : List Value} (r : Rf) (hno : s.pl r = -1) (hels : Els rdHd 8 g cells s.l) (hb : s.l.length ≤ 100000) (hw : Sat E w (pt c (.cells [Value.int .i64 (s : Ch).room, lv, .int .i64 (s : Ch).hits, .int .i64 (s : Ch).misses].toArray 104 (0, 0)) :: OwnSl 119 8 lv (s : Ch).l.length cells :: RO g :: L)) :
    Calls Try.prog 36 #[.pointer (some ⟨c, 0, none⟩), .agg r.cells.toArray] w fun e w' => e = .returned (.tuple #[.agg #[.bool false, .slice none 0 0, .slice none 0 0], .bool false]) ∧ Sat E w' (pt c (.cells [Value.int .i64 (s.miss : Ch).room, lv, .int .i64 (s.miss : Ch).hits, .int .i64 (s.miss : Ch).misses].toArray 104 (0, 0)) :: OwnSl 119 8 lv (s.miss : Ch).l.length cells :: RO g :: L) := by
  refine calls_of_g (n := 44) Try.func36 rfl rfl rfl ?_
  change G _ _ _ _ _ [(0, _), (1, _)] _
  refine g_seq ?_
  refine g_region ?_
  refine rl_k rfl (k_box hw rfl rfl rfl (fun bk0_0 w hw => ?_))
  refine rl_k rfl (k_alloc hw T.zero_48 rfl rfl (fun bk0_1 w hw => ?_))
  refine xV rfl rfl rfl (v_assign rfl) ?_
  refine rl_nil (g_le (xK (xK (xK (Fr.le_refl _)))) ?_)
  refine g_seq ?_
  refine g_region ?_
  refine xV rfl rfl rfl (v_move rfl) ?_
  refine rl_v rfl rfl rfl (by exact sat_cells hw (by (repeat first | with_reducible exact xH | apply xT); first | done | fail) ⟨rfl, rfl, rfl, rfl, trivial⟩) (v_loadAgg (vs := [_, _, _, _]) T.agg_51_4 rfl rfl) ?_
  refine rl_k rfl (k_callf Try.func51 rfl rfl rfl rfl ?_)
  refine Calls.mono (catm_calls r (-1) hno hels hb (hw.xQ)) ?_
  rintro _ w ⟨rfl, hw⟩
  refine ⟨_, rfl, ?_⟩
  refine xV rfl rfl rfl (v_assign rfl) ?_
  refine rl_nil (g_le (xK (xS rfl (xS rfl (xS rfl (Fr.le_refl _))))) ?_)
  refine g_seq (g_seq ?_)
  refine g_region ?_
  refine xV rfl rfl rfl (v_move rfl) ?_
  refine xV rfl rfl rfl (v_lssT rfl rfl (by omega)) ?_
  refine rl_nil (g_le (xK (xS rfl (Fr.le_refl _))) ?_)
  refine g_cond_true rfl ?_
  refine g_seq ?_
  refine g_region ?_
  refine xV rfl rfl rfl (v_move rfl) ?_
  refine xV rfl rfl rfl (v_nilCheck rfl) ?_
  refine xV rfl rfl rfl (v_fieldAddr0 T.fld_104_3_3 rfl) ?_
  refine rl_v rfl rfl rfl (by exact sat_cell hw (by (repeat first | with_reducible exact xH | apply xT); first | done | fail) rfl) (v_load T.scal_3 rfl) ?_
  refine xV rfl rfl rfl (v_addW rfl rfl) ?_
  refine xV rfl rfl rfl (v_nilCheck rfl) ?_
  refine xV rfl rfl rfl (v_fieldAddr0 T.fld_104_3_3 rfl) ?_
  refine rl_k rfl (k_store hw T.scal_3 rfl rfl rfl (by (repeat first | with_reducible exact xH | apply xT); first | done | fail) rfl (by simp only [List.set, Int.reduceToNat, Nat.reduceMul, Nat.reduceAdd]; rfl) (fun w hw => ?_))
  refine rl_nil (g_le (xS rfl (xS rfl (xS rfl (xS rfl (xS rfl (xS rfl (xS rfl (Fr.le_refl _)))))))) ?_)
  refine g_seq ?_
  refine g_region ?_
  refine xV rfl rfl rfl (v_build rfl (T.build_48 ..)) ?_
  refine rl_k rfl (k_storeWhole hw T.agg_48_3 rfl rfl (by simp [Value.oneCell']) rfl (by (repeat first | with_reducible exact xH | apply xT); first | done | fail) rfl (fun w hw => ?_))
  refine xV rfl rfl rfl (v_assign rfl) ?_
  refine rl_nil (g_le (xK (xS rfl (Fr.le_refl _))) ?_)
  refine g_res2 Try.func36 rfl ⟨_, rfl, holds_agg (vs := [_, _, _]) T.agg_48_3 rfl (by exact sat_cells hw (by (repeat first | with_reducible exact xH | apply xT); first | done | fail) ⟨rfl, rfl, rfl, trivial⟩)⟩ rfl ?_
  refine ⟨rfl, ?_⟩
  simp only [Ch.miss]
  exact hw.xQ
theorem ord_f36_r7_C15c : orderOfB Try.f36 7 [7, 10] (.a 0 (.a 1 (.a 2 (.a 3 (.v 4 (.k 5 (.k 6 (.k 7 (.k 8 (.k 9 (.k 10 .done))))))))))) = true := by kernel_rfl
theorem cgetYes_calls {E : Env} {w : World} {L : List As} {g : Hp} {c : Nat} {s : Ch} {lv : Value} {cells : List Value} {x : Hd} (r : Rf) (i : Nat) (hi : s.pl r = i) (hx : s.l[i]? = some x) (hels : Els rdHd 8 g cells s.l) (hb : s.l.length ≤ 100000) (hw : Sat E w (pt c (.cells [Value.int .i64 (s : Ch).room, lv, .int .i64 (s : Ch).hits, .int .i64 (s : Ch).misses].toArray 104 (0, 0)) :: OwnSl 119 8 lv (s : Ch).l.length cells :: RO g :: L)) :
    Calls Try.prog 36 #[.pointer (some ⟨c, 0, none⟩), .agg r.cells.toArray] w fun e w' => ∃ lv' cells' ev kv vs, e = .returned (.tuple #[.agg #[.bool x.node.leaf, ev, kv], .bool true]) ∧ Els rdHd 8 g cells' (s.hit i x).l ∧
      Sat E w' (pt c (.cells [Value.int .i64 (s.hit i x : Ch).room, lv', .int .i64 (s.hit i x : Ch).hits, .int .i64 (s.hit i x : Ch).misses].toArray 104 (0, 0)) :: OwnSl 119 8 lv' (s.hit i x : Ch).l.length cells' :: OwnSl 126 2 ev (x.node).entries.length (enCells (x.node).entries vs) :: eachOf VnsOf vs (x.node).entries :: KdsAt kv (x.node).kids :: RO g :: L) := by
  have hlt : i < s.l.length := (List.getElem?_eq_some_iff.1 hx).1
  have hel : (s.l.eraseIdx i).length + 1 = s.l.length := by rw [List.length_eraseIdx_of_lt hlt]; omega
  refine calls_of_g (n := 44) Try.func36 rfl rfl rfl ?_
  change G _ _ _ _ _ [(0, _), (1, _)] _
  refine g_seq ?_
  refine g_region ?_
  refine rl_k rfl (k_box hw rfl rfl rfl (fun bk0_0 w hw => ?_))
  refine rl_k rfl (k_alloc hw T.zero_48 rfl rfl (fun bk0_1 w hw => ?_))
  refine xV rfl rfl rfl (v_assign rfl) ?_
  refine rl_nil (g_le (xK (xK (xK (Fr.le_refl _)))) ?_)
  refine g_seq ?_
  refine g_region ?_
  refine xV rfl rfl rfl (v_move rfl) ?_
  refine rl_v rfl rfl rfl (by exact sat_cells hw (by (repeat first | with_reducible exact xH | apply xT); first | done | fail) ⟨rfl, rfl, rfl, rfl, trivial⟩) (v_loadAgg (vs := [_, _, _, _]) T.agg_51_4 rfl rfl) ?_
  refine rl_k rfl (k_callf Try.func51 rfl rfl rfl rfl ?_)
  refine Calls.mono (catm_calls r i hi hels hb (hw.xQ)) ?_
  rintro _ w ⟨rfl, hw⟩
  refine ⟨_, rfl, ?_⟩
  refine xV rfl rfl rfl (v_assign rfl) ?_
  refine rl_nil (g_le (xK (xS rfl (xS rfl (xS rfl (Fr.le_refl _))))) ?_)
  refine g_seq (g_seq ?_)
  refine g_region ?_
  refine xV rfl rfl rfl (v_move rfl) ?_
  refine xV rfl rfl rfl (v_lssF rfl rfl (by omega)) ?_
  refine rl_nil (g_le (xK (xS rfl (Fr.le_refl _))) ?_)
  refine g_cond_false rfl ?_
  refine g_skip (g_seq ?_)
  refine g_region ?_
  refine xV rfl rfl rfl (v_move rfl) ?_
  refine xV rfl rfl rfl (v_nilCheck rfl) ?_
  refine xV rfl rfl rfl (v_fieldAddr0 T.fld_104_2_2 rfl) ?_
  refine rl_v rfl rfl rfl (by exact sat_cell hw (by (repeat first | with_reducible exact xH | apply xT); first | done | fail) rfl) (v_load T.scal_3 rfl) ?_
  refine xV rfl rfl rfl (v_addW rfl rfl) ?_
  refine xV rfl rfl rfl (v_nilCheck rfl) ?_
  refine xV rfl rfl rfl (v_fieldAddr0 T.fld_104_2_2 rfl) ?_
  refine rl_k rfl (k_store hw T.scal_3 rfl rfl rfl (by (repeat first | with_reducible exact xH | apply xT); first | done | fail) rfl (by simp only [List.set, Int.reduceToNat, Nat.reduceMul, Nat.reduceAdd]; rfl) (fun w hw => ?_))
  refine rl_nil (g_le (xS rfl (xS rfl (xS rfl (xS rfl (xS rfl (xS rfl (xS rfl (Fr.le_refl _)))))))) ?_)
  refine g_seq ?_
  refine g_region ?_
  refine xV rfl rfl rfl (v_move rfl) ?_
  refine xV rfl rfl rfl (v_move rfl) ?_
  refine rl_k rfl (k_callf Try.func52 rfl rfl rfl rfl ?_)
  refine Calls.mono (wipe_calls (s := ⟨s.room, s.l, IntKind.i64.wrap (s.hits + 1), s.misses⟩) i hels hb hx (hw.xQ)) ?_
  rintro _ w ⟨lv', cells', ea, en, ec, ka, kn, kc, rfl, hrd, hels', hw⟩
  dsimp only at hw hels'
  obtain ⟨a2, c2, rfl, _, _, _⟩ := (hw.pick .at1).own_shape
  refine ⟨_, rfl, ?_⟩
  refine rl_k rfl (k_alloc hw T.zero_119 rfl rfl (fun bk6_3 w hw => ?_))
  refine rl_k rfl (k_storeWhole hw T.agg_119_8 rfl rfl (by simp [Value.oneCell']) rfl (by (repeat first | with_reducible exact xH | apply xT); first | done | fail) rfl (fun w hw => ?_))
  refine rl_nil (g_le (xK (xS rfl (xS rfl (xS rfl (Fr.le_refl _))))) ?_)
  refine g_seq ?_
  refine g_drawR ord_f36_r7_C15c (by kernel_rfl) T.mixed hw (fun w hw => ?_)
  refine rs_a 0 rfl rfl rfl rfl (v_move rfl) ?_
  refine rs_a 1 rfl rfl rfl rfl (v_move rfl) ?_
  refine rs_a 2 rfl rfl rfl rfl (v_nilCheck rfl) ?_
  refine rs_a 3 rfl rfl rfl rfl (v_fieldAddr0 T.fld_104_1_1 rfl) ?_
  refine rs_v 4 rfl rfl rfl rfl (OpV.mono (v_load T.scal_102 rfl) (fun w hw => by exact sat_cell hw (by (repeat first | with_reducible exact xH | apply xT); first | done | fail) rfl)) (by exact hw) ?_
  refine rs_kv 5 rfl rfl rfl rfl (by exact sat_cells hw (by (repeat first | with_reducible exact xH | apply xT); first | done | fail) ⟨rfl, rfl, rfl, rfl, rfl, rfl, rfl, rfl, trivial⟩) (v_loadAgg (vs := [_, _, _, _, _, _, _, _]) T.agg_119_8 rfl rfl) ?_
  refine rs_k 6 rfl rfl (k_buildSlice (cells := [_, _, _, _, _, _, _, _]) hw T.sl_102_119_8 T.zero_119 rfl rfl rfl rfl rfl rfl (fun bk7_6 w hw => ?_))
  refine ⟨fun _ => (by exact Sat.sub hw (by (repeat (first | with_reducible exact Sub.refl _ | exact Sub.nil _ | (apply Sub.cons; focus ((repeat (first | with_reducible exact Pick.here _ | apply Pick.there)); (first | done | fail))) | with_reducible apply Sub.drop)); first | done | fail)), ?_⟩
  refine rs_k 7 rfl rfl (k_append (news := [_, _, _, _, _, _, _, _]) hw T.sl_102_119_8 T.zero_119 T.bytes_119_96 rfl (by decide) rfl rfl (by (repeat first | with_reducible exact xH | apply xT); first | done | fail) rfl (by exact sat_cells hw (by (repeat first | with_reducible exact xH | apply xT); first | done | fail) ⟨rfl, rfl, rfl, rfl, rfl, rfl, rfl, rfl, trivial⟩) (by simp [Value.oneCell']) (by omega) (by simp only [maxLen]; omega) rfl (fun vv7_7 w hw hnil => ?_))
  refine ⟨fun hn => absurd (by decide) hn, ?_⟩
  obtain ⟨a3, c3, rfl, _, _, _⟩ := hw.own_shape
  refine rs_kv 8 rfl rfl rfl rfl (S' := fun _ => True) trivial (v_nilCheck rfl) ?_
  refine rs_kv 9 rfl rfl rfl rfl (S' := fun _ => True) trivial (v_fieldAddr0 T.fld_104_1_1 rfl) ?_
  refine rs_k 10 rfl rfl (k_store hw T.scal_102 rfl rfl rfl (by (repeat first | with_reducible exact xH | apply xT); first | done | fail) rfl (by simp only [List.set, Int.reduceToNat, Nat.reduceMul, Nat.reduceAdd]; rfl) (fun w hw => ?_))
  refine ⟨fun hn => absurd (by decide) hn, ?_⟩
  refine rs_done (g_le (xS rfl (xS rfl (xS rfl (xS rfl (xS rfl (xS rfl (xS rfl (xS rfl (xS rfl (xS rfl (Fr.le_refl _))))))))))) ?_)
  refine g_seq ?_
  refine g_region ?_
  refine xV rfl rfl rfl (v_fieldAddr0 T.fld_119_1_4 rfl) ?_
  refine rl_v rfl rfl rfl (by exact sat_cells hw (by (repeat first | with_reducible exact xH | apply xT); first | done | fail) ⟨rfl, rfl, rfl, trivial⟩) (v_loadAgg (vs := [_, _, _]) T.agg_48_3 rfl rfl) ?_
  refine rl_k rfl (k_callf Try.func50 rfl rfl rfl rfl ?_)
  refine Calls.mono (cloneNd_calls (rdHd_nd hrd) (hw.xQ)) ?_
  rintro _ w ⟨ev, kv, vs, rfl, hw⟩
  obtain ⟨a4, c4, rfl, _, _, _⟩ := hw.own_shape
  obtain ⟨a5, c5, rfl, _, _, _⟩ := (hw.pick .at2).own_shape
  refine ⟨_, rfl, ?_⟩
  refine rl_k rfl (k_storeWhole hw T.agg_48_3 rfl rfl (by simp [Value.oneCell']) rfl (by (repeat first | with_reducible exact xH | apply xT); first | done | fail) rfl (fun w hw => ?_))
  refine xV rfl rfl rfl (v_assign rfl) ?_
  refine rl_nil (g_le (xK (xS rfl (xS rfl (xS rfl (Fr.le_refl _))))) ?_)
  refine g_res2 Try.func36 rfl ⟨_, rfl, holds_agg (vs := [_, _, _]) T.agg_48_3 rfl (by exact sat_cells hw (by (repeat first | with_reducible exact xH | apply xT); first | done | fail) ⟨rfl, rfl, rfl, trivial⟩)⟩ rfl ?_
  refine ⟨.slice a3 ((s.l.eraseIdx i).length + 1) c3, _, _, _, vs, rfl, hels'.snoc rfl hrd, ?_⟩
  simp only [Ch.hit, List.length_append, List.length_cons, List.length_nil]
  exact hw.xQ
/-! ### Put -/
def Ch.put (s : Ch) (r : Rf) (n : Nd) : Int × Ch :=
  match s.l[(s.pl r).toNat]? with
  | some x => if 0 ≤ s.pl r then (0, ⟨s.room, s.l.eraseIdx (s.pl r).toNat ++ [⟨r, n, x.pins⟩], s.hits, s.misses⟩) else
      if s.room ≤ s.l.length then (if idx (fun h : Hd => decide (h.pins = 0)) s.l 0 < 0 then (150, s) else (0, ⟨s.room, s.l.eraseIdx (idx (fun h : Hd => decide (h.pins = 0)) s.l 0).toNat ++ [⟨r, n, 0⟩], s.hits, s.misses⟩))
      else (0, ⟨s.room, s.l ++ [⟨r, n, 0⟩], s.hits, s.misses⟩)
  | none => if s.room ≤ s.l.length then (150, s) else (0, ⟨s.room, s.l ++ [⟨r, n, 0⟩], s.hits, s.misses⟩)
theorem putClo_calls {E : Env} {w : World} {L : List As} {g : Hp} {ecs : List Value} {x : Hd} (h : rdHd g ecs x) (hw : Sat E w L) :
    Calls Try.prog 54 #[.agg ecs.toArray] w fun e w' => e = .returned (.bool (decide (x.pins = 0))) ∧ Sat E w' L := by
  obtain ⟨c0, c1, c2, c3, c4, c5, c6, c7, rfl, ⟨r1, r2⟩, hn, ⟨p1, p2⟩⟩ := id h
  simp only [List.cons.injEq, and_true] at r1 p1
  obtain ⟨rfl, rfl, rfl, rfl⟩ := r1
  subst p1
  refine calls_of_g (n := 6) Try.func54 rfl rfl rfl ?_
  change G _ _ _ _ _ [(0, _)] _
  refine g_seq ?_
  refine g_region ?_
  refine rl_k rfl (k_box hw rfl rfl rfl (fun bk0_0 w hw => ?_))
  refine xV rfl rfl rfl (v_assign rfl) ?_
  refine rl_nil (g_le (xK (xK (Fr.le_refl _))) ?_)
  refine g_seq ?_
  refine g_region ?_
  refine xV rfl rfl rfl (v_fieldAddr0 T.fld_119_2_7 rfl) ?_
  refine rl_v rfl rfl rfl (by exact sat_cell hw (by (repeat first | with_reducible exact xH | apply xT); first | done | fail) rfl) (v_load T.scal_3 rfl) ?_
  refine xV rfl rfl rfl (v_eql rfl rfl) ?_
  refine xV rfl rfl rfl (v_assign rfl) ?_
  refine rl_nil (g_le (xK (xS rfl (xS rfl (xS rfl (Fr.le_refl _))))) ?_)
  refine g_ret1 Try.func54 rfl rfl ?_
  exact ⟨rfl, hw.xQ⟩
theorem idx_at {α : Type} {p : α → Bool} {l : List α} (h : 0 ≤ idx p l 0) : (idx p l 0).toNat < l.length := by
  have := idx_bound (p := p) (l := l) (i := 0) (by omega); omega
theorem rdHd_wf {g : Hp} {x : Hd} {ea ka : Option Addr} {en ec kn kc : Nat} (h : rdHd g [.int .u64 (x : Hd).ref.key, .int .i64 (x : Hd).ref.seg, .int .i64 (x : Hd).ref.off, .int .i64 (x : Hd).ref.len, .bool (x : Hd).node.leaf, .slice ea en ec, .slice ka kn kc, .int .i64 (x : Hd).pins] x) : (Lit.int .i64 x.pins).wf = true := by
  obtain ⟨c0, c1, c2, c3, c4, c5, c6, c7, hc, hr, hn, ⟨p1, p2⟩⟩ := h
  exact p2
theorem put_full {s : Ch} {r : Rf} {n : Nd} (h1 : s.pl r < 0) (h2 : s.room ≤ s.l.length) (h3 : idx (fun h : Hd => decide (h.pins = 0)) s.l 0 < 0) : s.put r n = (150, s) := by
  unfold Ch.put; split
  · rw [if_neg (by omega), if_pos h2, if_pos h3]
  · rw [if_pos h2]
theorem put_free {s : Ch} {r : Rf} {n : Nd} {i : Nat} (h1 : s.pl r < 0) (h2 : s.room ≤ s.l.length) (h3 : idx (fun h : Hd => decide (h.pins = 0)) s.l 0 = (i : Int)) (h4 : i < s.l.length) : s.put r n = (0, ⟨s.room, s.l.eraseIdx i ++ [⟨r, n, 0⟩], s.hits, s.misses⟩) := by
  have h5 : (s.pl r).toNat = 0 := by omega
  unfold Ch.put; rw [h5, List.getElem?_eq_getElem (by omega)]
  show (if 0 ≤ s.pl r then _ else _) = _
  rw [if_neg (by omega), if_pos h2, h3, if_neg (by omega), Int.toNat_natCast]
theorem put_room {s : Ch} {r : Rf} {n : Nd} (h1 : s.pl r < 0) (h2 : ¬ s.room ≤ s.l.length) : s.put r n = (0, ⟨s.room, s.l ++ [⟨r, n, 0⟩], s.hits, s.misses⟩) := by
  unfold Ch.put; split
  · rw [if_neg (by omega), if_neg h2]
  · rw [if_neg h2]
theorem ord_f30_r1_C15c : orderOfB Try.f30 1 [5] (.v 0 (.v 1 (.b2 2 4 (.a 3 (.k 4 (.k 5 .done))) (.k 2 (.k 3 (.k 5 .done)))))) = true := by kernel_rfl
theorem ord_f30_r10_C15c : orderOfB Try.f30 10 [7, 10] (.a 0 (.a 1 (.a 2 (.a 3 (.v 4 (.k 5 (.k 6 (.k 7 (.k 8 (.k 9 (.k 10 .done))))))))))) = true := by kernel_rfl
theorem ord_f30_r5_C15c : orderOfB Try.f30 5 [] (.a 0 (.a 1 (.a 2 (.a 5 (.a 6 (.a 7 (.v 3 (.a 4 (.k 8 (.k 9 .done)))))))))) = true := by kernel_rfl
set_option maxHeartbeats 4000000 in
theorem cput2_calls {E : Env} {w : World} {L : List As} {g gl : Hp} {c : Nat} {s : Ch} {lv : Value} {cells : List Value} {ncs : List Value} {n : Nd} (r : Rf) (hr : r.ok) (hn : rdNd gl ncs n) (hels : Els rdHd 8 g cells s.l) (hb : s.l.length ≤ 100000) (hw : Sat E w (pt c (.cells [Value.int .i64 (s : Ch).room, lv, .int .i64 (s : Ch).hits, .int .i64 (s : Ch).misses].toArray 104 (0, 0)) :: OwnSl 119 8 lv (s : Ch).l.length cells :: RO g :: RO gl :: L)) :
    Calls Try.prog 30 #[.pointer (some ⟨c, 0, none⟩), .agg r.cells.toArray, .agg ncs.toArray] w fun e w' => ∃ g' lv' cells', g.le g' ∧ e = .returned (.int .i64 (s.put r n).1) ∧ Els rdHd 8 g' cells' (s.put r n).2.l ∧ Sat E w' (pt c (.cells [Value.int .i64 ((s.put r n).2 : Ch).room, lv', .int .i64 ((s.put r n).2 : Ch).hits, .int .i64 ((s.put r n).2 : Ch).misses].toArray 104 (0, 0)) :: OwnSl 119 8 lv' ((s.put r n).2 : Ch).l.length cells' :: RO g' :: RO gl :: L) := by
  have hnn := hn
  obtain ⟨q0, q1, q2, rfl, qe, qf, qg⟩ := hn
  simp only [rdBool, List.cons.injEq, and_true] at qe
  subst qe
  obtain ⟨qa1, qn1, qk1, rfl⟩ := rdSl_shape qf
  obtain ⟨qa2, qn2, qk2, rfl⟩ := rdSl_shape qg
  obtain ⟨a, cc, rfl, _, _, _⟩ := (hw.pick .at1).own_shape
  have hpb := s.pl_bound r
  obtain ⟨m, hm⟩ : ∃ m, s.pl r = m := ⟨_, rfl⟩
  have hq := idx_bound (p := fun h : Hd => decide (h.pins = 0)) (l := s.l) (i := 0) (by omega)
  obtain ⟨q, hqq⟩ : ∃ q, idx (fun h : Hd => decide (h.pins = 0)) s.l 0 = q := ⟨_, rfl⟩
  rw [hm] at hpb
  rw [hqq] at hq
  refine calls_of_g (n := 54) Try.func30 rfl rfl rfl ?_
  change G _ _ _ _ _ [(0, _), (1, _), (2, _)] _
  refine g_seq ?_
  refine g_region ?_
  refine rl_k rfl (k_box hw rfl rfl rfl (fun bk0_0 w hw => ?_))
  refine rl_k rfl (k_box hw rfl rfl rfl (fun bk0_1 w hw => ?_))
  refine xV rfl rfl rfl (v_assign rfl) ?_
  refine rl_nil (g_le (xK (xK (xK (Fr.le_refl _)))) ?_)
  refine g_seq ?_
  refine g_drawR ord_f30_r1_C15c (by kernel_rfl) T.mixed hw (fun w hw => ?_)
  refine rs_v 0 rfl rfl rfl rfl (OpV.mono (v_loadAgg (vs := [_, _, _, _]) T.agg_51_4 rfl rfl) (fun w hw => by exact sat_cells hw (by (repeat first | with_reducible exact xH | apply xT); first | done | fail) ⟨rfl, rfl, rfl, rfl, trivial⟩)) (by exact hw) ?_
  refine rs_v 1 rfl rfl rfl rfl (OpV.mono (v_loadAgg (vs := [_, _, _]) T.agg_48_3 rfl rfl) (fun w hw => by exact sat_cells hw (by (repeat first | with_reducible exact xH | apply xT); first | done | fail) ⟨rfl, rfl, rfl, trivial⟩)) (by exact hw) ?_
  refine rs_b2 2 4 rfl rfl rfl rfl ?_ ?_ 
  · skip
    refine (k_callf Try.func50 rfl rfl rfl rfl ?_)
    refine Calls.mono (cloneNd_calls hnn (hw.xQ)) ?_
    rintro _ w ⟨ev, kv, vs, rfl, hw⟩
    obtain ⟨a4, c4, rfl, _, _, _⟩ := hw.own_shape
    obtain ⟨a5, c5, rfl, _, _, _⟩ := (hw.pick .at2).own_shape
    refine ⟨_, rfl, ?_⟩
    refine ⟨fun _ => (by exact Sat.sub hw (by (repeat (first | with_reducible exact Sub.refl _ | exact Sub.nil _ | (apply Sub.cons; focus ((repeat (first | with_reducible exact Pick.here _ | apply Pick.there)); (first | done | fail))) | with_reducible apply Sub.drop)); first | done | fail)), ?_⟩
    refine rs_a 3 rfl rfl rfl rfl (v_build rfl (T.build_119_0_1 ..)) ?_
    refine rs_k 4 rfl rfl (k_alloc hw T.zero_119 rfl rfl (fun bk1_4 w hw => ?_))
    refine ⟨fun _ => (by exact Sat.sub hw (by (repeat (first | with_reducible exact Sub.refl _ | exact Sub.nil _ | (apply Sub.cons; focus ((repeat (first | with_reducible exact Pick.here _ | apply Pick.there)); (first | done | fail))) | with_reducible apply Sub.drop)); first | done | fail)), ?_⟩
    refine rs_k 5 rfl rfl (k_storeWhole hw T.agg_119_8 rfl rfl (by simp [Value.oneCell']) rfl (by (repeat first | with_reducible exact xH | apply xT); first | done | fail) rfl (fun w hw => ?_))
    refine ⟨fun hn => absurd (by decide) hn, ?_⟩
    refine rs_done (g_le (xK (xS rfl (xS rfl (xS rfl (xS rfl (Fr.le_refl _)))))) ?_)
    obtain ⟨g', hg', hnd', hw⟩ := nd_freeze (g := g) (Nd.fine_of hnn) (hw.xQ)
    have hels' := hels.mono mono_Hd hg'
    refine g_seq (g_seq ?_)
    refine g_region ?_
    refine xV rfl rfl rfl (v_move rfl) ?_
    refine rl_v rfl rfl rfl (by exact sat_cells hw (by (repeat first | with_reducible exact xH | apply xT); first | done | fail) ⟨rfl, rfl, rfl, rfl, trivial⟩) (v_loadAgg (vs := [_, _, _, _]) T.agg_51_4 rfl rfl) ?_
    refine rl_k rfl (k_callf Try.func51 rfl rfl rfl rfl ?_)
    refine Calls.mono (catm_calls r m hm hels' hb (hw.xQ)) ?_
    rintro _ w ⟨rfl, hw⟩
    refine ⟨_, rfl, ?_⟩
    refine xV rfl rfl rfl (v_assign rfl) ?_
    refine rl_nil (g_le (xK (xS rfl (xS rfl (xS rfl (Fr.le_refl _))))) ?_)
    refine g_seq ?_
    refine g_region ?_
    refine xV rfl rfl rfl (v_move rfl) ?_
    refine xV rfl rfl rfl (v_geq rfl rfl) ?_
    refine rl_nil (g_le (xK (xS rfl (Fr.le_refl _))) ?_)
    refine g_cond rfl (fun h1 => ?_) (fun h1 => ?_)
    · try with_reducible exact ft_elim h1
      all_goals
        try replace h1 := of_decide_eq_true h1
        obtain ⟨i, rfl⟩ : ∃ i : Nat, m = i := ⟨m.toNat, by omega⟩
        have hlt : i < s.l.length := by omega
        have hx : s.l[i]? = some s.l[i] := List.getElem?_eq_getElem hlt
        have hel : (s.l.eraseIdx i).length + 1 = s.l.length := by rw [List.length_eraseIdx_of_lt hlt]; omega
        have hput : s.put r n = (0, ⟨s.room, s.l.eraseIdx i ++ [⟨r, n, s.l[i].pins⟩], s.hits, s.misses⟩) := by unfold Ch.put; rw [hm, Int.toNat_natCast, hx]; exact if_pos h1
        refine g_region ?_
        refine xV rfl rfl rfl (v_move rfl) ?_
        refine xV rfl rfl rfl (v_move rfl) ?_
        refine rl_k rfl (k_callf Try.func52 rfl rfl rfl rfl ?_)
        refine Calls.mono (wipe_calls i hels' hb hx (hw.xQ)) ?_
        rintro _ w ⟨lv', cells', ea, en, ec, ka, kn, kc, rfl, hrd, hels2, hw⟩
        dsimp only at hw hels2
        obtain ⟨a2, c2, rfl, _, _, _⟩ := (hw.pick .at1).own_shape
        refine ⟨_, rfl, ?_⟩
        refine xV rfl rfl rfl (v_field T.fldv_119_2_7_1_false rfl rfl) ?_
        refine xV rfl rfl rfl (v_fieldAddr0 T.fld_119_2_7 rfl) ?_
        refine rl_k rfl (k_store hw T.scal_3 rfl rfl rfl (by (repeat first | with_reducible exact xH | apply xT); first | done | fail) rfl (by simp only [List.set, Int.reduceToNat, Nat.reduceMul, Nat.reduceAdd]; rfl) (fun w hw => ?_))
        refine rl_nil (g_le (xS rfl (xS rfl (xS rfl (xS rfl (xS rfl (Fr.le_refl _)))))) ?_)
        refine g_seq ?_
        refine g_drawR ord_f30_r10_C15c (by kernel_rfl) T.mixed hw (fun w hw => ?_)
        refine rs_a 0 rfl rfl rfl rfl (v_move rfl) ?_
        refine rs_a 1 rfl rfl rfl rfl (v_move rfl) ?_
        refine rs_a 2 rfl rfl rfl rfl (v_nilCheck rfl) ?_
        refine rs_a 3 rfl rfl rfl rfl (v_fieldAddr0 T.fld_104_1_1 rfl) ?_
        refine rs_v 4 rfl rfl rfl rfl (OpV.mono (v_load T.scal_102 rfl) (fun w hw => by exact sat_cell hw (by (repeat first | with_reducible exact xH | apply xT); first | done | fail) rfl)) (by exact hw) ?_
        refine rs_kv 5 rfl rfl rfl rfl (by exact sat_cells hw (by (repeat first | with_reducible exact xH | apply xT); first | done | fail) ⟨rfl, rfl, rfl, rfl, rfl, rfl, rfl, rfl, trivial⟩) (v_loadAgg (vs := [_, _, _, _, _, _, _, _]) T.agg_119_8 rfl rfl) ?_
        refine rs_k 6 rfl rfl (k_buildSlice (cells := [_, _, _, _, _, _, _, _]) hw T.sl_102_119_8 T.zero_119 rfl rfl rfl rfl rfl rfl (fun bk10_6 w hw => ?_))
        refine ⟨fun _ => (by exact Sat.sub hw (by (repeat (first | with_reducible exact Sub.refl _ | exact Sub.nil _ | (apply Sub.cons; focus ((repeat (first | with_reducible exact Pick.here _ | apply Pick.there)); (first | done | fail))) | with_reducible apply Sub.drop)); first | done | fail)), ?_⟩
        refine rs_k 7 rfl rfl (k_append (news := [_, _, _, _, _, _, _, _]) hw T.sl_102_119_8 T.zero_119 T.bytes_119_96 rfl (by decide) rfl rfl (by (repeat first | with_reducible exact xH | apply xT); first | done | fail) rfl (by exact sat_cells hw (by (repeat first | with_reducible exact xH | apply xT); first | done | fail) ⟨rfl, rfl, rfl, rfl, rfl, rfl, rfl, rfl, trivial⟩) (by simp [Value.oneCell']) (by omega) (by simp only [maxLen]; omega) rfl (fun vv10_7 w hw hnil => ?_))
        refine ⟨fun hn => absurd (by decide) hn, ?_⟩
        obtain ⟨a3, c3, rfl, _, _, _⟩ := hw.own_shape
        refine rs_kv 8 rfl rfl rfl rfl (S' := fun _ => True) trivial (v_nilCheck rfl) ?_
        refine rs_kv 9 rfl rfl rfl rfl (S' := fun _ => True) trivial (v_fieldAddr0 T.fld_104_1_1 rfl) ?_
        refine rs_k 10 rfl rfl (k_store hw T.scal_102 rfl rfl rfl (by (repeat first | with_reducible exact xH | apply xT); first | done | fail) rfl (by simp only [List.set, Int.reduceToNat, Nat.reduceMul, Nat.reduceAdd]; rfl) (fun w hw => ?_))
        refine ⟨fun hn => absurd (by decide) hn, ?_⟩
        refine rs_done (g_le (xS rfl (xS rfl (xS rfl (xS rfl (xS rfl (xS rfl (xS rfl (xS rfl (xS rfl (xS rfl (Fr.le_refl _))))))))))) ?_)
        refine g_seq ?_
        refine g_region ?_
        refine xV rfl rfl rfl (v_assign rfl) ?_
        refine rl_nil (g_le (xK (Fr.le_refl _)) ?_)
        refine g_ret1 Try.func30 rfl rfl ?_
        have hwf := rdHd_wf hrd
        rw [hput]
        refine ⟨g', .slice a3 ((s.l.eraseIdx i).length + 1) c3, _, hg', rfl, hels2.snoc rfl (x := ⟨r, n, s.l[i].pins⟩) ⟨_, _, _, _, _, _, _, _, rfl, ⟨rfl, hr⟩, hnd', rfl, hwf⟩, ?_⟩
        simp only [List.length_append, List.length_cons, List.length_nil]
        exact hw.xQ
    · try with_reducible exact tf_elim h1
      all_goals
        try replace h1 := of_decide_eq_false h1
        have hm1 : m = -1 := by omega
        refine g_seq ?_
        refine g_drawR ord_f30_r5_C15c (by kernel_rfl) T.mixed hw (fun w hw => ?_)
        refine rs_a 0 rfl rfl rfl rfl (v_move rfl) ?_
        refine rs_a 1 rfl rfl rfl rfl (v_nilCheck rfl) ?_
        refine rs_a 2 rfl rfl rfl rfl (v_fieldAddr0 T.fld_104_1_1 rfl) ?_
        refine rs_a 5 rfl rfl rfl rfl (v_move rfl) ?_
        refine rs_a 6 rfl rfl rfl rfl (v_nilCheck rfl) ?_
        refine rs_a 7 rfl rfl rfl rfl (v_fieldAddr0 T.fld_104_0_0 rfl) ?_
        refine rs_v 3 rfl rfl rfl rfl (OpV.mono (v_load T.scal_102 rfl) (fun w hw => by exact sat_cell hw (by (repeat first | with_reducible exact xH | apply xT); first | done | fail) rfl)) (by exact hw) ?_
        refine rs_a 4 rfl rfl rfl rfl (v_lenSlice T.sl_102_119_8 rfl) ?_
        refine rs_kv 8 rfl rfl rfl rfl (by exact sat_cell hw (by (repeat first | with_reducible exact xH | apply xT); first | done | fail) rfl) (v_load T.scal_3 rfl) ?_
        refine rs_kv 9 rfl rfl rfl rfl (S' := fun _ => True) trivial (v_geq rfl rfl) ?_
        refine rs_done (g_le (xK (xS rfl (xS rfl (xS rfl (xS rfl (xS rfl (xS rfl (xS rfl (xS rfl (xS rfl (Fr.le_refl _))))))))))) ?_)
        refine g_cond rfl (fun h2 => ?_) (fun h2 => ?_)
        · try with_reducible exact ft_elim h2
          all_goals
            try replace h2 := of_decide_eq_true h2
            refine g_seq ?_
            refine g_region ?_
            refine xV rfl rfl rfl (v_move rfl) ?_
            refine xV rfl rfl rfl (v_nilCheck rfl) ?_
            refine xV rfl rfl rfl (v_fieldAddr0 T.fld_104_1_1 rfl) ?_
            refine rl_v rfl rfl rfl (by exact sat_cell hw (by (repeat first | with_reducible exact xH | apply xT); first | done | fail) rfl) (v_load T.scal_102 rfl) ?_
            refine rl_k rfl (k_callf Try.func53 rfl rfl rfl rfl ?_)
            refine Calls.mono (indexFunc_calls (fun h => decide (h.pins = 0)) hels' rfl hb (fun x ecs w hx hw => CallsV.mk Try.func54 rfl rfl rfl (putClo_calls hx hw)) (hw.xQ)) ?_
            rw [hqq]
            rintro _ w ⟨rfl, hw⟩
            refine ⟨_, rfl, ?_⟩
            refine xV rfl rfl rfl (v_assign rfl) ?_
            refine rl_nil (g_le (xK (xS rfl (xS rfl (xS rfl (xS rfl (xS rfl (Fr.le_refl _))))))) ?_)
            refine g_seq (g_seq ?_)
            refine g_region ?_
            refine xV rfl rfl rfl (v_move rfl) ?_
            refine xV rfl rfl rfl (v_lss rfl rfl) ?_
            refine rl_nil (g_le (xK (xS rfl (Fr.le_refl _))) ?_)
            refine g_cond rfl (fun h3 => ?_) (fun h3 => ?_)
            · try with_reducible exact ft_elim h3
              all_goals
                try replace h3 := of_decide_eq_true h3
                have hput : s.put r n = (150, s) := put_full (by omega) h2 (by omega)
                refine g_seq ?_
                refine g_region ?_
                refine xV rfl rfl rfl (v_assign rfl) ?_
                refine rl_nil (g_le (xK (Fr.le_refl _)) ?_)
                refine g_ret1 Try.func30 rfl rfl ?_
                refine ⟨g', .slice a s.l.length cc, cells, hg', ?_⟩
                rw [hput]
                exact ⟨rfl, hels', hw.xQ⟩
            · try with_reducible exact tf_elim h3
              all_goals
                try replace h3 := of_decide_eq_false h3
                obtain ⟨i, rfl⟩ : ∃ i : Nat, q = i := ⟨q.toNat, by omega⟩
                have hlt : i < s.l.length := by omega
                have hx : s.l[i]? = some s.l[i] := List.getElem?_eq_getElem hlt
                have hel : (s.l.eraseIdx i).length + 1 = s.l.length := by rw [List.length_eraseIdx_of_lt hlt]; omega
                have hput : s.put r n = (0, ⟨s.room, s.l.eraseIdx i ++ [⟨r, n, 0⟩], s.hits, s.misses⟩) := put_free (by omega) h2 hqq hlt
                refine g_skip ?_
                refine g_region ?_
                refine xV rfl rfl rfl (v_move rfl) ?_
                refine xV rfl rfl rfl (v_move rfl) ?_
                refine rl_k rfl (k_callf Try.func52 rfl rfl rfl rfl ?_)
                refine Calls.mono (wipe_calls i hels' hb hx (hw.xQ)) ?_
                rintro _ w ⟨lv', cells', ea, en, ec, ka, kn, kc, rfl, hrd, hels2, hw⟩
                dsimp only at hw hels2
                obtain ⟨a2, c2, rfl, _, _, _⟩ := (hw.pick .at1).own_shape
                refine ⟨_, rfl, ?_⟩
                refine rl_nil (g_le (xS rfl (xS rfl (xS rfl (Fr.le_refl _)))) ?_)
                refine g_seq ?_
                refine g_drawR ord_f30_r10_C15c (by kernel_rfl) T.mixed hw (fun w hw => ?_)
                refine rs_a 0 rfl rfl rfl rfl (v_move rfl) ?_
                refine rs_a 1 rfl rfl rfl rfl (v_move rfl) ?_
                refine rs_a 2 rfl rfl rfl rfl (v_nilCheck rfl) ?_
                refine rs_a 3 rfl rfl rfl rfl (v_fieldAddr0 T.fld_104_1_1 rfl) ?_
                refine rs_v 4 rfl rfl rfl rfl (OpV.mono (v_load T.scal_102 rfl) (fun w hw => by exact sat_cell hw (by (repeat first | with_reducible exact xH | apply xT); first | done | fail) rfl)) (by exact hw) ?_
                refine rs_kv 5 rfl rfl rfl rfl (by exact sat_cells hw (by (repeat first | with_reducible exact xH | apply xT); first | done | fail) ⟨rfl, rfl, rfl, rfl, rfl, rfl, rfl, rfl, trivial⟩) (v_loadAgg (vs := [_, _, _, _, _, _, _, _]) T.agg_119_8 rfl rfl) ?_
                refine rs_k 6 rfl rfl (k_buildSlice (cells := [_, _, _, _, _, _, _, _]) hw T.sl_102_119_8 T.zero_119 rfl rfl rfl rfl rfl rfl (fun bk10_6 w hw => ?_))
                refine ⟨fun _ => (by exact Sat.sub hw (by (repeat (first | with_reducible exact Sub.refl _ | exact Sub.nil _ | (apply Sub.cons; focus ((repeat (first | with_reducible exact Pick.here _ | apply Pick.there)); (first | done | fail))) | with_reducible apply Sub.drop)); first | done | fail)), ?_⟩
                refine rs_k 7 rfl rfl (k_append (news := [_, _, _, _, _, _, _, _]) hw T.sl_102_119_8 T.zero_119 T.bytes_119_96 rfl (by decide) rfl rfl (by (repeat first | with_reducible exact xH | apply xT); first | done | fail) rfl (by exact sat_cells hw (by (repeat first | with_reducible exact xH | apply xT); first | done | fail) ⟨rfl, rfl, rfl, rfl, rfl, rfl, rfl, rfl, trivial⟩) (by simp [Value.oneCell']) (by omega) (by simp only [maxLen]; omega) rfl (fun vv10_7 w hw hnil => ?_))
                refine ⟨fun hn => absurd (by decide) hn, ?_⟩
                obtain ⟨a3, c3, rfl, _, _, _⟩ := hw.own_shape
                refine rs_kv 8 rfl rfl rfl rfl (S' := fun _ => True) trivial (v_nilCheck rfl) ?_
                refine rs_kv 9 rfl rfl rfl rfl (S' := fun _ => True) trivial (v_fieldAddr0 T.fld_104_1_1 rfl) ?_
                refine rs_k 10 rfl rfl (k_store hw T.scal_102 rfl rfl rfl (by (repeat first | with_reducible exact xH | apply xT); first | done | fail) rfl (by simp only [List.set, Int.reduceToNat, Nat.reduceMul, Nat.reduceAdd]; rfl) (fun w hw => ?_))
                refine ⟨fun hn => absurd (by decide) hn, ?_⟩
                refine rs_done (g_le (xS rfl (xS rfl (xS rfl (xS rfl (xS rfl (xS rfl (xS rfl (xS rfl (xS rfl (xS rfl (Fr.le_refl _))))))))))) ?_)
                refine g_seq ?_
                refine g_region ?_
                refine xV rfl rfl rfl (v_assign rfl) ?_
                refine rl_nil (g_le (xK (Fr.le_refl _)) ?_)
                refine g_ret1 Try.func30 rfl rfl ?_
                have h0wf : (Lit.int .i64 0).wf = true := by decide
                rw [hput]
                refine ⟨g', .slice a3 ((s.l.eraseIdx i).length + 1) c3, _, hg', rfl, hels2.snoc rfl (x := ⟨r, n, 0⟩) ⟨_, _, _, _, _, _, _, _, rfl, ⟨rfl, hr⟩, hnd', rfl, h0wf⟩, ?_⟩
                simp only [List.length_append, List.length_cons, List.length_nil]
                exact hw.xQ
        · try with_reducible exact tf_elim h2
          all_goals
            try replace h2 := of_decide_eq_false h2
            have hput : s.put r n = (0, ⟨s.room, s.l ++ [⟨r, n, 0⟩], s.hits, s.misses⟩) := put_room (by omega) h2
            refine g_skip (g_seq ?_)
            refine g_drawR ord_f30_r10_C15c (by kernel_rfl) T.mixed hw (fun w hw => ?_)
            refine rs_a 0 rfl rfl rfl rfl (v_move rfl) ?_
            refine rs_a 1 rfl rfl rfl rfl (v_move rfl) ?_
            refine rs_a 2 rfl rfl rfl rfl (v_nilCheck rfl) ?_
            refine rs_a 3 rfl rfl rfl rfl (v_fieldAddr0 T.fld_104_1_1 rfl) ?_
            refine rs_v 4 rfl rfl rfl rfl (OpV.mono (v_load T.scal_102 rfl) (fun w hw => by exact sat_cell hw (by (repeat first | with_reducible exact xH | apply xT); first | done | fail) rfl)) (by exact hw) ?_
            refine rs_kv 5 rfl rfl rfl rfl (by exact sat_cells hw (by (repeat first | with_reducible exact xH | apply xT); first | done | fail) ⟨rfl, rfl, rfl, rfl, rfl, rfl, rfl, rfl, trivial⟩) (v_loadAgg (vs := [_, _, _, _, _, _, _, _]) T.agg_119_8 rfl rfl) ?_
            refine rs_k 6 rfl rfl (k_buildSlice (cells := [_, _, _, _, _, _, _, _]) hw T.sl_102_119_8 T.zero_119 rfl rfl rfl rfl rfl rfl (fun bk10_6 w hw => ?_))
            refine ⟨fun _ => (by exact Sat.sub hw (by (repeat (first | with_reducible exact Sub.refl _ | exact Sub.nil _ | (apply Sub.cons; focus ((repeat (first | with_reducible exact Pick.here _ | apply Pick.there)); (first | done | fail))) | with_reducible apply Sub.drop)); first | done | fail)), ?_⟩
            refine rs_k 7 rfl rfl (k_append (news := [_, _, _, _, _, _, _, _]) hw T.sl_102_119_8 T.zero_119 T.bytes_119_96 rfl (by decide) rfl rfl (by (repeat first | with_reducible exact xH | apply xT); first | done | fail) rfl (by exact sat_cells hw (by (repeat first | with_reducible exact xH | apply xT); first | done | fail) ⟨rfl, rfl, rfl, rfl, rfl, rfl, rfl, rfl, trivial⟩) (by simp [Value.oneCell']) (by omega) (by simp only [maxLen]; omega) rfl (fun vv10_7 w hw hnil => ?_))
            refine ⟨fun hn => absurd (by decide) hn, ?_⟩
            obtain ⟨a3, c3, rfl, _, _, _⟩ := hw.own_shape
            refine rs_kv 8 rfl rfl rfl rfl (S' := fun _ => True) trivial (v_nilCheck rfl) ?_
            refine rs_kv 9 rfl rfl rfl rfl (S' := fun _ => True) trivial (v_fieldAddr0 T.fld_104_1_1 rfl) ?_
            refine rs_k 10 rfl rfl (k_store hw T.scal_102 rfl rfl rfl (by (repeat first | with_reducible exact xH | apply xT); first | done | fail) rfl (by simp only [List.set, Int.reduceToNat, Nat.reduceMul, Nat.reduceAdd]; rfl) (fun w hw => ?_))
            refine ⟨fun hn => absurd (by decide) hn, ?_⟩
            refine rs_done (g_le (xS rfl (xS rfl (xS rfl (xS rfl (xS rfl (xS rfl (xS rfl (xS rfl (xS rfl (xS rfl (Fr.le_refl _))))))))))) ?_)
            refine g_seq ?_
            refine g_region ?_
            refine xV rfl rfl rfl (v_assign rfl) ?_
            refine rl_nil (g_le (xK (Fr.le_refl _)) ?_)
            refine g_ret1 Try.func30 rfl rfl ?_
            have h0wf : (Lit.int .i64 0).wf = true := by decide
            rw [hput]
            refine ⟨g', .slice a3 (s.l.length + 1) c3, _, hg', rfl, hels'.snoc rfl (x := ⟨r, n, 0⟩) ⟨_, _, _, _, _, _, _, _, rfl, ⟨rfl, hr⟩, hnd', rfl, h0wf⟩, ?_⟩
            simp only [List.length_append, List.length_cons, List.length_nil]
            exact hw.xQ
  · skip
    refine (k_alloc hw T.zero_119 rfl rfl (fun bk1_4 w hw => ?_))
    refine ⟨fun _ => (by exact Sat.sub hw (by (repeat (first | with_reducible exact Sub.refl _ | exact Sub.nil _ | (apply Sub.cons; focus ((repeat (first | with_reducible exact Pick.here _ | apply Pick.there)); (first | done | fail))) | with_reducible apply Sub.drop)); first | done | fail)), ?_⟩
    refine rs_k 2 rfl rfl (k_callf Try.func50 rfl rfl rfl rfl ?_)
    refine Calls.mono (cloneNd_calls hnn (hw.xQ)) ?_
    rintro _ w ⟨ev, kv, vs, rfl, hw⟩
    obtain ⟨a4, c4, rfl, _, _, _⟩ := hw.own_shape
    obtain ⟨a5, c5, rfl, _, _, _⟩ := (hw.pick .at2).own_shape
    refine ⟨_, rfl, ?_⟩
    refine ⟨fun _ => (by exact Sat.sub hw (by (repeat (first | with_reducible exact Sub.refl _ | exact Sub.nil _ | (apply Sub.cons; focus ((repeat (first | with_reducible exact Pick.here _ | apply Pick.there)); (first | done | fail))) | with_reducible apply Sub.drop)); first | done | fail)), ?_⟩
    refine rs_kv 3 rfl rfl rfl rfl (S' := fun _ => True) trivial (v_build rfl (T.build_119_0_1 ..)) ?_
    refine rs_k 5 rfl rfl (k_storeWhole hw T.agg_119_8 rfl rfl (by simp [Value.oneCell']) rfl (by (repeat first | with_reducible exact xH | apply xT); first | done | fail) rfl (fun w hw => ?_))
    refine ⟨fun hn => absurd (by decide) hn, ?_⟩
    refine rs_done (g_le (xS rfl (xS rfl (xK (xS rfl (xS rfl (Fr.le_refl _)))))) ?_)
    obtain ⟨g', hg', hnd', hw⟩ := nd_freeze (g := g) (Nd.fine_of hnn) (hw.xQ)
    have hels' := hels.mono mono_Hd hg'
    refine g_seq (g_seq ?_)
    refine g_region ?_
    refine xV rfl rfl rfl (v_move rfl) ?_
    refine rl_v rfl rfl rfl (by exact sat_cells hw (by (repeat first | with_reducible exact xH | apply xT); first | done | fail) ⟨rfl, rfl, rfl, rfl, trivial⟩) (v_loadAgg (vs := [_, _, _, _]) T.agg_51_4 rfl rfl) ?_
    refine rl_k rfl (k_callf Try.func51 rfl rfl rfl rfl ?_)
    refine Calls.mono (catm_calls r m hm hels' hb (hw.xQ)) ?_
    rintro _ w ⟨rfl, hw⟩
    refine ⟨_, rfl, ?_⟩
    refine xV rfl rfl rfl (v_assign rfl) ?_
    refine rl_nil (g_le (xK (xS rfl (xS rfl (xS rfl (Fr.le_refl _))))) ?_)
    refine g_seq ?_
    refine g_region ?_
    refine xV rfl rfl rfl (v_move rfl) ?_
    refine xV rfl rfl rfl (v_geq rfl rfl) ?_
    refine rl_nil (g_le (xK (xS rfl (Fr.le_refl _))) ?_)
    refine g_cond rfl (fun h1 => ?_) (fun h1 => ?_)
    · try with_reducible exact ft_elim h1
      all_goals
        try replace h1 := of_decide_eq_true h1
        obtain ⟨i, rfl⟩ : ∃ i : Nat, m = i := ⟨m.toNat, by omega⟩
        have hlt : i < s.l.length := by omega
        have hx : s.l[i]? = some s.l[i] := List.getElem?_eq_getElem hlt
        have hel : (s.l.eraseIdx i).length + 1 = s.l.length := by rw [List.length_eraseIdx_of_lt hlt]; omega
        have hput : s.put r n = (0, ⟨s.room, s.l.eraseIdx i ++ [⟨r, n, s.l[i].pins⟩], s.hits, s.misses⟩) := by unfold Ch.put; rw [hm, Int.toNat_natCast, hx]; exact if_pos h1
        refine g_region ?_
        refine xV rfl rfl rfl (v_move rfl) ?_
        refine xV rfl rfl rfl (v_move rfl) ?_
        refine rl_k rfl (k_callf Try.func52 rfl rfl rfl rfl ?_)
        refine Calls.mono (wipe_calls i hels' hb hx (hw.xQ)) ?_
        rintro _ w ⟨lv', cells', ea, en, ec, ka, kn, kc, rfl, hrd, hels2, hw⟩
        dsimp only at hw hels2
        obtain ⟨a2, c2, rfl, _, _, _⟩ := (hw.pick .at1).own_shape
        refine ⟨_, rfl, ?_⟩
        refine xV rfl rfl rfl (v_field T.fldv_119_2_7_1_false rfl rfl) ?_
        refine xV rfl rfl rfl (v_fieldAddr0 T.fld_119_2_7 rfl) ?_
        refine rl_k rfl (k_store hw T.scal_3 rfl rfl rfl (by (repeat first | with_reducible exact xH | apply xT); first | done | fail) rfl (by simp only [List.set, Int.reduceToNat, Nat.reduceMul, Nat.reduceAdd]; rfl) (fun w hw => ?_))
        refine rl_nil (g_le (xS rfl (xS rfl (xS rfl (xS rfl (xS rfl (Fr.le_refl _)))))) ?_)
        refine g_seq ?_
        refine g_drawR ord_f30_r10_C15c (by kernel_rfl) T.mixed hw (fun w hw => ?_)
        refine rs_a 0 rfl rfl rfl rfl (v_move rfl) ?_
        refine rs_a 1 rfl rfl rfl rfl (v_move rfl) ?_
        refine rs_a 2 rfl rfl rfl rfl (v_nilCheck rfl) ?_
        refine rs_a 3 rfl rfl rfl rfl (v_fieldAddr0 T.fld_104_1_1 rfl) ?_
        refine rs_v 4 rfl rfl rfl rfl (OpV.mono (v_load T.scal_102 rfl) (fun w hw => by exact sat_cell hw (by (repeat first | with_reducible exact xH | apply xT); first | done | fail) rfl)) (by exact hw) ?_
        refine rs_kv 5 rfl rfl rfl rfl (by exact sat_cells hw (by (repeat first | with_reducible exact xH | apply xT); first | done | fail) ⟨rfl, rfl, rfl, rfl, rfl, rfl, rfl, rfl, trivial⟩) (v_loadAgg (vs := [_, _, _, _, _, _, _, _]) T.agg_119_8 rfl rfl) ?_
        refine rs_k 6 rfl rfl (k_buildSlice (cells := [_, _, _, _, _, _, _, _]) hw T.sl_102_119_8 T.zero_119 rfl rfl rfl rfl rfl rfl (fun bk10_6 w hw => ?_))
        refine ⟨fun _ => (by exact Sat.sub hw (by (repeat (first | with_reducible exact Sub.refl _ | exact Sub.nil _ | (apply Sub.cons; focus ((repeat (first | with_reducible exact Pick.here _ | apply Pick.there)); (first | done | fail))) | with_reducible apply Sub.drop)); first | done | fail)), ?_⟩
        refine rs_k 7 rfl rfl (k_append (news := [_, _, _, _, _, _, _, _]) hw T.sl_102_119_8 T.zero_119 T.bytes_119_96 rfl (by decide) rfl rfl (by (repeat first | with_reducible exact xH | apply xT); first | done | fail) rfl (by exact sat_cells hw (by (repeat first | with_reducible exact xH | apply xT); first | done | fail) ⟨rfl, rfl, rfl, rfl, rfl, rfl, rfl, rfl, trivial⟩) (by simp [Value.oneCell']) (by omega) (by simp only [maxLen]; omega) rfl (fun vv10_7 w hw hnil => ?_))
        refine ⟨fun hn => absurd (by decide) hn, ?_⟩
        obtain ⟨a3, c3, rfl, _, _, _⟩ := hw.own_shape
        refine rs_kv 8 rfl rfl rfl rfl (S' := fun _ => True) trivial (v_nilCheck rfl) ?_
        refine rs_kv 9 rfl rfl rfl rfl (S' := fun _ => True) trivial (v_fieldAddr0 T.fld_104_1_1 rfl) ?_
        refine rs_k 10 rfl rfl (k_store hw T.scal_102 rfl rfl rfl (by (repeat first | with_reducible exact xH | apply xT); first | done | fail) rfl (by simp only [List.set, Int.reduceToNat, Nat.reduceMul, Nat.reduceAdd]; rfl) (fun w hw => ?_))
        refine ⟨fun hn => absurd (by decide) hn, ?_⟩
        refine rs_done (g_le (xS rfl (xS rfl (xS rfl (xS rfl (xS rfl (xS rfl (xS rfl (xS rfl (xS rfl (xS rfl (Fr.le_refl _))))))))))) ?_)
        refine g_seq ?_
        refine g_region ?_
        refine xV rfl rfl rfl (v_assign rfl) ?_
        refine rl_nil (g_le (xK (Fr.le_refl _)) ?_)
        refine g_ret1 Try.func30 rfl rfl ?_
        have hwf := rdHd_wf hrd
        rw [hput]
        refine ⟨g', .slice a3 ((s.l.eraseIdx i).length + 1) c3, _, hg', rfl, hels2.snoc rfl (x := ⟨r, n, s.l[i].pins⟩) ⟨_, _, _, _, _, _, _, _, rfl, ⟨rfl, hr⟩, hnd', rfl, hwf⟩, ?_⟩
        simp only [List.length_append, List.length_cons, List.length_nil]
        exact hw.xQ
    · try with_reducible exact tf_elim h1
      all_goals
        try replace h1 := of_decide_eq_false h1
        have hm1 : m = -1 := by omega
        refine g_seq ?_
        refine g_drawR ord_f30_r5_C15c (by kernel_rfl) T.mixed hw (fun w hw => ?_)
        refine rs_a 0 rfl rfl rfl rfl (v_move rfl) ?_
        refine rs_a 1 rfl rfl rfl rfl (v_nilCheck rfl) ?_
        refine rs_a 2 rfl rfl rfl rfl (v_fieldAddr0 T.fld_104_1_1 rfl) ?_
        refine rs_a 5 rfl rfl rfl rfl (v_move rfl) ?_
        refine rs_a 6 rfl rfl rfl rfl (v_nilCheck rfl) ?_
        refine rs_a 7 rfl rfl rfl rfl (v_fieldAddr0 T.fld_104_0_0 rfl) ?_
        refine rs_v 3 rfl rfl rfl rfl (OpV.mono (v_load T.scal_102 rfl) (fun w hw => by exact sat_cell hw (by (repeat first | with_reducible exact xH | apply xT); first | done | fail) rfl)) (by exact hw) ?_
        refine rs_a 4 rfl rfl rfl rfl (v_lenSlice T.sl_102_119_8 rfl) ?_
        refine rs_kv 8 rfl rfl rfl rfl (by exact sat_cell hw (by (repeat first | with_reducible exact xH | apply xT); first | done | fail) rfl) (v_load T.scal_3 rfl) ?_
        refine rs_kv 9 rfl rfl rfl rfl (S' := fun _ => True) trivial (v_geq rfl rfl) ?_
        refine rs_done (g_le (xK (xS rfl (xS rfl (xS rfl (xS rfl (xS rfl (xS rfl (xS rfl (xS rfl (xS rfl (Fr.le_refl _))))))))))) ?_)
        refine g_cond rfl (fun h2 => ?_) (fun h2 => ?_)
        · try with_reducible exact ft_elim h2
          all_goals
            try replace h2 := of_decide_eq_true h2
            refine g_seq ?_
            refine g_region ?_
            refine xV rfl rfl rfl (v_move rfl) ?_
            refine xV rfl rfl rfl (v_nilCheck rfl) ?_
            refine xV rfl rfl rfl (v_fieldAddr0 T.fld_104_1_1 rfl) ?_
            refine rl_v rfl rfl rfl (by exact sat_cell hw (by (repeat first | with_reducible exact xH | apply xT); first | done | fail) rfl) (v_load T.scal_102 rfl) ?_
            refine rl_k rfl (k_callf Try.func53 rfl rfl rfl rfl ?_)
            refine Calls.mono (indexFunc_calls (fun h => decide (h.pins = 0)) hels' rfl hb (fun x ecs w hx hw => CallsV.mk Try.func54 rfl rfl rfl (putClo_calls hx hw)) (hw.xQ)) ?_
            rw [hqq]
            rintro _ w ⟨rfl, hw⟩
            refine ⟨_, rfl, ?_⟩
            refine xV rfl rfl rfl (v_assign rfl) ?_
            refine rl_nil (g_le (xK (xS rfl (xS rfl (xS rfl (xS rfl (xS rfl (Fr.le_refl _))))))) ?_)
            refine g_seq (g_seq ?_)
            refine g_region ?_
            refine xV rfl rfl rfl (v_move rfl) ?_
            refine xV rfl rfl rfl (v_lss rfl rfl) ?_
            refine rl_nil (g_le (xK (xS rfl (Fr.le_refl _))) ?_)
            refine g_cond rfl (fun h3 => ?_) (fun h3 => ?_)
            · try with_reducible exact ft_elim h3
              all_goals
                try replace h3 := of_decide_eq_true h3
                have hput : s.put r n = (150, s) := put_full (by omega) h2 (by omega)
                refine g_seq ?_
                refine g_region ?_
                refine xV rfl rfl rfl (v_assign rfl) ?_
                refine rl_nil (g_le (xK (Fr.le_refl _)) ?_)
                refine g_ret1 Try.func30 rfl rfl ?_
                refine ⟨g', .slice a s.l.length cc, cells, hg', ?_⟩
                rw [hput]
                exact ⟨rfl, hels', hw.xQ⟩
            · try with_reducible exact tf_elim h3
              all_goals
                try replace h3 := of_decide_eq_false h3
                obtain ⟨i, rfl⟩ : ∃ i : Nat, q = i := ⟨q.toNat, by omega⟩
                have hlt : i < s.l.length := by omega
                have hx : s.l[i]? = some s.l[i] := List.getElem?_eq_getElem hlt
                have hel : (s.l.eraseIdx i).length + 1 = s.l.length := by rw [List.length_eraseIdx_of_lt hlt]; omega
                have hput : s.put r n = (0, ⟨s.room, s.l.eraseIdx i ++ [⟨r, n, 0⟩], s.hits, s.misses⟩) := put_free (by omega) h2 hqq hlt
                refine g_skip ?_
                refine g_region ?_
                refine xV rfl rfl rfl (v_move rfl) ?_
                refine xV rfl rfl rfl (v_move rfl) ?_
                refine rl_k rfl (k_callf Try.func52 rfl rfl rfl rfl ?_)
                refine Calls.mono (wipe_calls i hels' hb hx (hw.xQ)) ?_
                rintro _ w ⟨lv', cells', ea, en, ec, ka, kn, kc, rfl, hrd, hels2, hw⟩
                dsimp only at hw hels2
                obtain ⟨a2, c2, rfl, _, _, _⟩ := (hw.pick .at1).own_shape
                refine ⟨_, rfl, ?_⟩
                refine rl_nil (g_le (xS rfl (xS rfl (xS rfl (Fr.le_refl _)))) ?_)
                refine g_seq ?_
                refine g_drawR ord_f30_r10_C15c (by kernel_rfl) T.mixed hw (fun w hw => ?_)
                refine rs_a 0 rfl rfl rfl rfl (v_move rfl) ?_
                refine rs_a 1 rfl rfl rfl rfl (v_move rfl) ?_
                refine rs_a 2 rfl rfl rfl rfl (v_nilCheck rfl) ?_
                refine rs_a 3 rfl rfl rfl rfl (v_fieldAddr0 T.fld_104_1_1 rfl) ?_
                refine rs_v 4 rfl rfl rfl rfl (OpV.mono (v_load T.scal_102 rfl) (fun w hw => by exact sat_cell hw (by (repeat first | with_reducible exact xH | apply xT); first | done | fail) rfl)) (by exact hw) ?_
                refine rs_kv 5 rfl rfl rfl rfl (by exact sat_cells hw (by (repeat first | with_reducible exact xH | apply xT); first | done | fail) ⟨rfl, rfl, rfl, rfl, rfl, rfl, rfl, rfl, trivial⟩) (v_loadAgg (vs := [_, _, _, _, _, _, _, _]) T.agg_119_8 rfl rfl) ?_
                refine rs_k 6 rfl rfl (k_buildSlice (cells := [_, _, _, _, _, _, _, _]) hw T.sl_102_119_8 T.zero_119 rfl rfl rfl rfl rfl rfl (fun bk10_6 w hw => ?_))
                refine ⟨fun _ => (by exact Sat.sub hw (by (repeat (first | with_reducible exact Sub.refl _ | exact Sub.nil _ | (apply Sub.cons; focus ((repeat (first | with_reducible exact Pick.here _ | apply Pick.there)); (first | done | fail))) | with_reducible apply Sub.drop)); first | done | fail)), ?_⟩
                refine rs_k 7 rfl rfl (k_append (news := [_, _, _, _, _, _, _, _]) hw T.sl_102_119_8 T.zero_119 T.bytes_119_96 rfl (by decide) rfl rfl (by (repeat first | with_reducible exact xH | apply xT); first | done | fail) rfl (by exact sat_cells hw (by (repeat first | with_reducible exact xH | apply xT); first | done | fail) ⟨rfl, rfl, rfl, rfl, rfl, rfl, rfl, rfl, trivial⟩) (by simp [Value.oneCell']) (by omega) (by simp only [maxLen]; omega) rfl (fun vv10_7 w hw hnil => ?_))
                refine ⟨fun hn => absurd (by decide) hn, ?_⟩
                obtain ⟨a3, c3, rfl, _, _, _⟩ := hw.own_shape
                refine rs_kv 8 rfl rfl rfl rfl (S' := fun _ => True) trivial (v_nilCheck rfl) ?_
                refine rs_kv 9 rfl rfl rfl rfl (S' := fun _ => True) trivial (v_fieldAddr0 T.fld_104_1_1 rfl) ?_
                refine rs_k 10 rfl rfl (k_store hw T.scal_102 rfl rfl rfl (by (repeat first | with_reducible exact xH | apply xT); first | done | fail) rfl (by simp only [List.set, Int.reduceToNat, Nat.reduceMul, Nat.reduceAdd]; rfl) (fun w hw => ?_))
                refine ⟨fun hn => absurd (by decide) hn, ?_⟩
                refine rs_done (g_le (xS rfl (xS rfl (xS rfl (xS rfl (xS rfl (xS rfl (xS rfl (xS rfl (xS rfl (xS rfl (Fr.le_refl _))))))))))) ?_)
                refine g_seq ?_
                refine g_region ?_
                refine xV rfl rfl rfl (v_assign rfl) ?_
                refine rl_nil (g_le (xK (Fr.le_refl _)) ?_)
                refine g_ret1 Try.func30 rfl rfl ?_
                have h0wf : (Lit.int .i64 0).wf = true := by decide
                rw [hput]
                refine ⟨g', .slice a3 ((s.l.eraseIdx i).length + 1) c3, _, hg', rfl, hels2.snoc rfl (x := ⟨r, n, 0⟩) ⟨_, _, _, _, _, _, _, _, rfl, ⟨rfl, hr⟩, hnd', rfl, h0wf⟩, ?_⟩
                simp only [List.length_append, List.length_cons, List.length_nil]
                exact hw.xQ
        · try with_reducible exact tf_elim h2
          all_goals
            try replace h2 := of_decide_eq_false h2
            have hput : s.put r n = (0, ⟨s.room, s.l ++ [⟨r, n, 0⟩], s.hits, s.misses⟩) := put_room (by omega) h2
            refine g_skip (g_seq ?_)
            refine g_drawR ord_f30_r10_C15c (by kernel_rfl) T.mixed hw (fun w hw => ?_)
            refine rs_a 0 rfl rfl rfl rfl (v_move rfl) ?_
            refine rs_a 1 rfl rfl rfl rfl (v_move rfl) ?_
            refine rs_a 2 rfl rfl rfl rfl (v_nilCheck rfl) ?_
            refine rs_a 3 rfl rfl rfl rfl (v_fieldAddr0 T.fld_104_1_1 rfl) ?_
            refine rs_v 4 rfl rfl rfl rfl (OpV.mono (v_load T.scal_102 rfl) (fun w hw => by exact sat_cell hw (by (repeat first | with_reducible exact xH | apply xT); first | done | fail) rfl)) (by exact hw) ?_
            refine rs_kv 5 rfl rfl rfl rfl (by exact sat_cells hw (by (repeat first | with_reducible exact xH | apply xT); first | done | fail) ⟨rfl, rfl, rfl, rfl, rfl, rfl, rfl, rfl, trivial⟩) (v_loadAgg (vs := [_, _, _, _, _, _, _, _]) T.agg_119_8 rfl rfl) ?_
            refine rs_k 6 rfl rfl (k_buildSlice (cells := [_, _, _, _, _, _, _, _]) hw T.sl_102_119_8 T.zero_119 rfl rfl rfl rfl rfl rfl (fun bk10_6 w hw => ?_))
            refine ⟨fun _ => (by exact Sat.sub hw (by (repeat (first | with_reducible exact Sub.refl _ | exact Sub.nil _ | (apply Sub.cons; focus ((repeat (first | with_reducible exact Pick.here _ | apply Pick.there)); (first | done | fail))) | with_reducible apply Sub.drop)); first | done | fail)), ?_⟩
            refine rs_k 7 rfl rfl (k_append (news := [_, _, _, _, _, _, _, _]) hw T.sl_102_119_8 T.zero_119 T.bytes_119_96 rfl (by decide) rfl rfl (by (repeat first | with_reducible exact xH | apply xT); first | done | fail) rfl (by exact sat_cells hw (by (repeat first | with_reducible exact xH | apply xT); first | done | fail) ⟨rfl, rfl, rfl, rfl, rfl, rfl, rfl, rfl, trivial⟩) (by simp [Value.oneCell']) (by omega) (by simp only [maxLen]; omega) rfl (fun vv10_7 w hw hnil => ?_))
            refine ⟨fun hn => absurd (by decide) hn, ?_⟩
            obtain ⟨a3, c3, rfl, _, _, _⟩ := hw.own_shape
            refine rs_kv 8 rfl rfl rfl rfl (S' := fun _ => True) trivial (v_nilCheck rfl) ?_
            refine rs_kv 9 rfl rfl rfl rfl (S' := fun _ => True) trivial (v_fieldAddr0 T.fld_104_1_1 rfl) ?_
            refine rs_k 10 rfl rfl (k_store hw T.scal_102 rfl rfl rfl (by (repeat first | with_reducible exact xH | apply xT); first | done | fail) rfl (by simp only [List.set, Int.reduceToNat, Nat.reduceMul, Nat.reduceAdd]; rfl) (fun w hw => ?_))
            refine ⟨fun hn => absurd (by decide) hn, ?_⟩
            refine rs_done (g_le (xS rfl (xS rfl (xS rfl (xS rfl (xS rfl (xS rfl (xS rfl (xS rfl (xS rfl (xS rfl (Fr.le_refl _))))))))))) ?_)
            refine g_seq ?_
            refine g_region ?_
            refine xV rfl rfl rfl (v_assign rfl) ?_
            refine rl_nil (g_le (xK (Fr.le_refl _)) ?_)
            refine g_ret1 Try.func30 rfl rfl ?_
            have h0wf : (Lit.int .i64 0).wf = true := by decide
            rw [hput]
            refine ⟨g', .slice a3 (s.l.length + 1) c3, _, hg', rfl, hels'.snoc rfl (x := ⟨r, n, 0⟩) ⟨_, _, _, _, _, _, _, _, rfl, ⟨rfl, hr⟩, hnd', rfl, h0wf⟩, ?_⟩
            simp only [List.length_append, List.length_cons, List.length_nil]
            exact hw.xQ
theorem put_facts (s : Ch) (r : Rf) (n : Nd) : (s.put r n).2.l.length ≤ s.l.length + 1 ∧ (s.put r n).2.hits = s.hits ∧ (s.put r n).2.misses = s.misses ∧ (s.put r n).2.room = s.room := by
  unfold Ch.put
  have h (i : Nat) : (s.l.eraseIdx i).length ≤ s.l.length := List.length_eraseIdx_le ..
  have h1 := h (s.pl r).toNat
  have h2 := h (idx (fun h : Hd => decide (h.pins = 0)) s.l 0).toNat
  split
  · split
    · simp; omega
    · split
      · split
        · simp
        · simp; omega
      · simp
  · split <;> simp
end Go.Proofs.Ytlgpdglnfjndhaa
