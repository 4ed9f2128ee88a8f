/-
  The laws' own helpers: a script's beginning, a secret; pages that All showed, written no more.
-/
import Derived.Test.YtmbngahboaljpaaH08
import Derived.Test.YtmbngahboaljpaaT07f
namespace Go.Proofs.Ytmbngahboaljpaa
set_option maxRecDepth 8000
set_option linter.unusedSimpArgs false
set_option linter.unusedVariables false
open Go Xe
structure Op7 where
  do_ : Int
  name : ByteArray
  value : ByteArray
  segs : (List Int)
  back : Int
instance : DecidableEq Op7 := fun a b => decidable_of_iff (a.do_ = b.do_ ∧ a.name = b.name ∧ a.value = b.value ∧ a.segs = b.segs ∧ a.back = b.back) (by cases a; cases b; simp)
def rdOp7 : Rd Op7 := fun w cs x => ∃ c0 c1 c2 c3 c4, cs = [c0, c1, c2, c3, c4] ∧ (rdInt .i64) w [c0] x.do_ ∧ rdStr w [c1] x.name ∧ rdStr w [c2] x.value ∧ (rdSl 8 1 (rdInt .i64)) w [c3] x.segs ∧ (rdInt .i64) w [c4] x.back
theorem mono_Op7 : Rd.Mono rdOp7 := fun l cs x h => by
  obtain ⟨c0, c1, c2, c3, c4, rfl, h0, h1, h2, h3, h4⟩ := h
  exact ⟨_, _, _, _, _, rfl, mono_int l h0, mono_str l h1, mono_str l h2, (mono_sl mono_int) l h3, mono_int l h4⟩
theorem one_Op7 : Rd.One rdOp7 := fun h => by
  obtain ⟨c0, c1, c2, c3, c4, rfl, h0, h1, h2, h3, h4⟩ := h
  intro u hu
  simp only [List.mem_cons, List.not_mem_nil, or_false] at hu
  rcases hu with rfl | rfl | rfl | rfl | rfl
  · exact one_int h0 _ (by simp)
  · exact one_str h1 _ (by simp)
  · exact one_str h2 _ (by simp)
  · exact one_sl h3 _ (by simp)
  · exact one_int h4 _ (by simp)
theorem reads_Op7 {H : Type} {enc : TypeId × Value → H} : Reads enc Try.prog 46 rdOp7 := fun w fuel cs d ps h hz => by
  have hl := reads_length T.agg_46_5 (by kernel_rfl) h hz
  obtain ⟨c0, c1, c2, c3, c4, rfl⟩ : ∃ c0 c1 c2 c3 c4, cs = [c0, c1, c2, c3, c4] := by
    match cs, hl with
    | [c0, c1, c2, c3, c4], _ => exact ⟨_, _, _, _, _, rfl⟩
  obtain ⟨x0, h0⟩ := reads_field (i := 0) (off := 0) (k := 1) (ft := 3) (by kernel_rfl) h hz (reads_int T.int_3_i64)
  obtain ⟨x1, h1⟩ := reads_field (i := 1) (off := 1) (k := 1) (ft := 9) (by kernel_rfl) h hz (reads_str T.str_9)
  obtain ⟨x2, h2⟩ := reads_field (i := 2) (off := 2) (k := 1) (ft := 9) (by kernel_rfl) h hz (reads_str T.str_9)
  obtain ⟨x3, h3⟩ := reads_field (i := 3) (off := 3) (k := 1) (ft := 44) (by kernel_rfl) h hz (reads_sl T.sl_44_3_1 T.bytes_3_8 (by decide) (reads_int T.int_3_i64))
  obtain ⟨x4, h4⟩ := reads_field (i := 4) (off := 4) (k := 1) (ft := 3) (by kernel_rfl) h hz (reads_int T.int_3_i64)
  exact ⟨⟨x0, x1, x2, x3, x4⟩, _, _, _, _, _, rfl, h0, h1, h2, h3, h4⟩
theorem short7_calls {E : Env} {w : World} {L : List As} (a : Option Addr) (n c m : Nat) (hn : n ≤ c) (hc : c ≤ maxLen) (hw : Sat E w L) :
    Calls Try.prog 18 #[.slice a n c, .int .i64 m] w fun e w' => e = .returned (.slice a (min n m) c) ∧ Sat E w' L := by
  refine calls_of_g (n := 13) Try.func18 rfl rfl rfl ?_
  change G _ _ _ _ _ [(0, _), (1, _)] _
  refine g_seq ?_
  refine g_region ?_
  refine xV rfl rfl rfl (v_assign rfl) ?_
  refine rl_nil (g_le (xK (Fr.le_refl _)) ?_)
  refine g_seq (g_seq ?_)
  refine g_region ?_
  refine xV rfl rfl rfl (v_move rfl) ?_
  refine xV rfl rfl rfl (v_lenSlice T.sl_41_46_5 rfl) ?_
  refine xV rfl rfl rfl (v_move rfl) ?_
  refine xV rfl rfl rfl (v_gtr rfl rfl) ?_
  refine rl_nil (g_le (xK (xS rfl (xS rfl (xS rfl (Fr.le_refl _))))) ?_)
  refine g_cond rfl (fun h1 => ?_) (fun h1 => ?_)
  · try with_reducible exact ft_elim h1
    all_goals
      try replace h1 := of_decide_eq_true h1
      refine g_seq ?_
      refine g_region ?_
      refine xV rfl rfl rfl (v_move rfl) ?_
      refine xV rfl rfl rfl (v_move rfl) ?_
      refine xV rfl rfl rfl (v_sliceTo T.sl_41_46_5 rfl rfl (by omega) (by omega)) ?_
      refine xV rfl rfl rfl (v_assign rfl) ?_
      refine rl_nil (g_le (xK (xS rfl (xS rfl (xS rfl (Fr.le_refl _))))) ?_)
      refine g_ret1 Try.func18 rfl rfl ?_
      rw [show min n m = m by omega]
      exact ⟨rfl, hw.xQ⟩
  · try with_reducible exact tf_elim h1
    all_goals
      try replace h1 := of_decide_eq_false h1
      refine g_skip (g_seq ?_)
      refine g_region ?_
      refine xV rfl rfl rfl (v_move rfl) ?_
      refine xV rfl rfl rfl (v_assign rfl) ?_
      refine rl_nil (g_le (xK (xS rfl (Fr.le_refl _))) ?_)
      refine g_ret1 Try.func18 rfl rfl ?_
      rw [show min n m = n by omega]
      exact ⟨rfl, hw.xQ⟩
theorem sn_told {g : Hp} {ecs : List Value} {x : Sn} (h : rdSn g ecs x) : ∃ ea en ec ka kn kc, ecs = [.int .i64 x.deep, .int .u64 x.ref.key, .int .i64 x.ref.seg, .int .i64 x.ref.off, .int .i64 x.ref.len, .bool x.node.leaf, .slice ea en ec, .slice ka kn kc] ∧ rdNd g [.bool x.node.leaf, .slice ea en ec, .slice ka kn kc] x.node := by
  obtain ⟨c0, c1, c2, c3, c4, c5, c6, c7, rfl, ⟨h0, _⟩, ⟨h1, _⟩, h2⟩ := h
  obtain ⟨ea, en, ec, ka, kn, kc, he, hr⟩ := nd_told h2
  simp only [List.cons.injEq, and_true] at h0 h1 he
  obtain ⟨rfl, rfl, rfl, rfl⟩ := h1
  obtain ⟨rfl, rfl, rfl⟩ := he
  subst h0
  exact ⟨_, _, _, _, _, _, rfl, hr⟩
theorem sns_freeze0 {E : Env} {w : World} {L : List As} : ∀ {xs : List Sn} {ts : List (Value × Value × List Value)} {g : Hp}, (∀ x ∈ xs, x.good ∧ (Lit.int .i64 x.deep).wf = true) → Sat E w (RO g :: eachOf NdOf ts xs :: L) →
    ∃ g', g.le g' ∧ Els rdSn 8 g' (snCells xs ts) xs ∧ Sat E w (RO g' :: L)
  | [], [], g, _, h => ⟨g, Hp.le_refl g, .nil, h.sub (.cons .at0 (.drop (.refl _)))⟩
  | [], _ :: _, _, _, h => h.drop.fls.elim
  | _ :: _, [], _, _, h => h.drop.fls.elim
  | x :: xs, (ev, kv, vs) :: ts, g, hf, h => by
    have h1 : Sat E w (NdOf (ev, kv, vs) x :: eachOf NdOf ts xs :: RO g :: L) := Sat.each_cons.1 (h.pick .at1)
    have h1 : Sat E w ([OwnSl 49 2 ev x.node.entries.length (enCells x.node.entries vs), eachOf VnsOf vs x.node.entries, OwnSl 70 5 kv x.node.kids.length (x.node.kids.flatMap Kd.cells)] ++ (eachOf NdOf ts xs :: RO g :: L)) := Sat.flat h1
    obtain ⟨⟨hfi, hsm, hok⟩, hd⟩ := hf x (by simp)
    obtain ⟨g1, l1, r1, h2⟩ := nd_freeze hfi (h1.xQ : Sat E w (RO g :: OwnSl 49 2 ev x.node.entries.length (enCells x.node.entries vs) :: eachOf VnsOf vs x.node.entries :: KdsAt kv x.node.kids :: eachOf NdOf ts xs :: L))
    obtain ⟨g2, l2, e2, h3⟩ := sns_freeze0 (fun x hx => hf x (by simp [hx])) h2
    refine ⟨g2, l1.trans l2, ?_, h3⟩
    exact (Els.one (cs := [.int .i64 x.deep, .int .u64 x.ref.key, .int .i64 x.ref.seg, .int .i64 x.ref.off, .int .i64 x.ref.len, .bool x.node.leaf, ev, kv]) rfl ⟨_, _, _, _, _, _, _, _, rfl, ⟨rfl, hd⟩, ⟨rfl, hok⟩, mono_Nd l2 r1⟩).append e2
theorem sns_freeze {E : Env} {w : World} {L : List As} {xs : List Sn} {ts : List (Value × Value × List Value)} {lv : Value} {g : Hp} (hf : ∀ x ∈ xs, x.good ∧ (Lit.int .i64 x.deep).wf = true) (hn : xs.length ≤ 100000) (h : Sat E w (RO g :: OwnSl 61 8 lv xs.length (snCells xs ts) :: eachOf NdOf ts xs :: L)) :
    ∃ g', g.le g' ∧ (rdSl 96 8 rdSn) g' [lv] xs ∧ Sat E w (RO g' :: L) := by
  obtain ⟨g1, l1, e1, h1⟩ := sns_freeze0 hf (h.xQ : Sat E w (RO g :: eachOf NdOf ts xs :: OwnSl 61 8 lv xs.length (snCells xs ts) :: L))
  obtain ⟨g2, l2, r2, h2⟩ := h1.freeze_sl (bytes := 96) mono_Sn e1 rfl (by simp only [reachBytes]; omega)
  exact ⟨g2, l1.trans l2, r2, h2⟩
end Go.Proofs.Ytmbngahboaljpaa
