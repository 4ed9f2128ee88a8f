/-
  The search tree over any pages: All.
-/
import Derived.Test.YtdiocmjhencbpaaC07k
namespace Go.Proofs.Ytdiocmjhencbpaa
set_option maxRecDepth 8000
set_option linter.unusedSimpArgs false
set_option linter.unusedVariables false
open Go Xe
structure Sn where
  deep : Int
  ref : Rf
  node : Nd
instance : DecidableEq Sn := fun a b => decidable_of_iff (a.deep = b.deep ∧ a.ref = b.ref ∧ a.node = b.node) (by cases a; cases b; simp)
def rdSn : Rd Sn := fun w cs x => ∃ c0 c1 c2 c3 c4 c5 c6 c7, cs = [c0, c1, c2, c3, c4, c5, c6, c7] ∧ (rdInt .i64) w [c0] x.deep ∧ rdRf w [c1, c2, c3, c4] x.ref ∧ rdNd w [c5, c6, c7] x.node
theorem mono_Sn : Rd.Mono rdSn := fun l cs x h => by
  obtain ⟨c0, c1, c2, c3, c4, c5, c6, c7, rfl, h0, h1, h2⟩ := h
  exact ⟨_, _, _, _, _, _, _, _, rfl, mono_int l h0, mono_Rf l h1, mono_Nd l h2⟩
theorem one_Sn : Rd.One rdSn := fun h => by
  obtain ⟨c0, c1, c2, c3, c4, c5, c6, c7, rfl, h0, h1, h2⟩ := h
  intro u hu
  simp only [List.mem_cons, List.not_mem_nil, or_false] at hu
  rcases hu with rfl | rfl | rfl | rfl | rfl | rfl | rfl | rfl
  · exact one_int h0 _ (by simp)
  · exact one_Rf h1 _ (by simp)
  · exact one_Rf h1 _ (by simp)
  · exact one_Rf h1 _ (by simp)
  · exact one_Rf h1 _ (by simp)
  · exact one_Nd h2 _ (by simp)
  · exact one_Nd h2 _ (by simp)
  · exact one_Nd h2 _ (by simp)
theorem reads_Sn {H : Type} {enc : TypeId × Value → H} : Reads enc Try.prog 86 rdSn := fun w fuel cs d ps h hz => by
  have hl := reads_length T.agg_86_8 (by kernel_rfl) h hz
  obtain ⟨c0, c1, c2, c3, c4, c5, c6, c7, rfl⟩ : ∃ c0 c1 c2 c3 c4 c5 c6 c7, cs = [c0, c1, c2, c3, c4, c5, c6, c7] := by
    match cs, hl with
    | [c0, c1, c2, c3, c4, c5, c6, c7], _ => exact ⟨_, _, _, _, _, _, _, _, rfl⟩
  obtain ⟨x0, h0⟩ := reads_field (i := 0) (off := 0) (k := 1) (ft := 3) (by kernel_rfl) h hz (reads_int T.int_3_i64)
  obtain ⟨x1, h1⟩ := reads_field (i := 1) (off := 1) (k := 4) (ft := 26) (by kernel_rfl) h hz reads_Rf
  obtain ⟨x2, h2⟩ := reads_field (i := 2) (off := 5) (k := 3) (ft := 84) (by kernel_rfl) h hz reads_Nd
  exact ⟨⟨x0, x1, x2⟩, _, _, _, _, _, _, _, _, rfl, h0, h1, h2⟩
section
variable {τ : Type} (P : PgOps τ)
/-- What all kids have below them. -/
def allsO (f : τ → Rf → List Sn × Int × τ) : List Kd → τ → List Sn × Int × τ
  | [], s => ([], 0, s)
  | k :: ks, s => if (f s k.ref).2.1 ≠ 0 then ([], (f s k.ref).2.1, (f s k.ref).2.2) else ((f s k.ref).1 ++ (allsO f ks (f s k.ref).2.2).1, (allsO f ks (f s k.ref).2.2).2.1, (allsO f ks (f s k.ref).2.2).2.2)
def allO : Nat → Int → τ → Rf → List Sn × Int × τ
  | 0, _, s, _ => ([], 70, s)
  | k + 1, deep, s, r =>
    if (at1 P s r).2.1 ≠ 0 then ([], (at1 P s r).2.1, (at1 P s r).2.2) else
    if (allsO (allO k (deep + 1)) (at1 P s r).1.kids (at1 P s r).2.2).2.1 ≠ 0 then ([], (allsO (allO k (deep + 1)) (at1 P s r).1.kids (at1 P s r).2.2).2.1, (allsO (allO k (deep + 1)) (at1 P s r).1.kids (at1 P s r).2.2).2.2)
    else (⟨deep, r, (at1 P s r).1⟩ :: (allsO (allO k (deep + 1)) (at1 P s r).1.kids (at1 P s r).2.2).1, 0, (allsO (allO k (deep + 1)) (at1 P s r).1.kids (at1 P s r).2.2).2.2)
theorem allO_bad {k : Nat} {deep : Int} {s s1 : τ} {r : Rf} {x : Nd} {bad : Int} (h : atO P k s r = (x, bad, s1)) (hb : bad ≠ 0) : allO P k deep s r = ([], bad, s1) := by
  cases k with
  | zero => simp only [atO, Prod.mk.injEq] at h; obtain ⟨_, rfl, rfl⟩ := h; rfl
  | succ k => simp only [atO] at h; simp only [allO, h]; exact if_pos hb
theorem allO_ok {k : Nat} {deep : Int} {s s1 s2 : τ} {r : Rf} {x : Nd} {l : List Sn} {bad : Int} (h : at1 P s r = (x, 0, s1)) (hm : allsO (allO P k (deep + 1)) x.kids s1 = (l, bad, s2)) : allO P (k + 1) deep s r = if bad ≠ 0 then ([], bad, s2) else (⟨deep, r, x⟩ :: l, 0, s2) := by
  simp only [allO, h]; rw [if_neg (by simp)]; simp only [hm]
theorem allsO_cons {f : τ → Rf → List Sn × Int × τ} {k : Kd} {ks : List Kd} {s : τ} : allsO f (k :: ks) s = if (f s k.ref).2.1 ≠ 0 then ([], (f s k.ref).2.1, (f s k.ref).2.2) else ((f s k.ref).1 ++ (allsO f ks (f s k.ref).2.2).1, (allsO f ks (f s k.ref).2.2).2.1, (allsO f ks (f s k.ref).2.2).2.2) := rfl
end
/-- A page that was come to, in memory of the call's own. -/
@[reducible] def NdOf : Value × Value × List Value → Sn → As := fun t x => stars [OwnSl 40 2 t.1 x.node.entries.length (enCells x.node.entries t.2.2), eachOf VnsOf t.2.2 x.node.entries, OwnSl 104 5 t.2.1 x.node.kids.length (x.node.kids.flatMap Kd.cells)]
def snCells : List Sn → List (Value × Value × List Value) → List Value
  | x :: xs, t :: ts => .int .i64 x.deep :: (x.ref.cells ++ [.bool x.node.leaf, t.1, t.2.1]) ++ snCells xs ts
  | _, _ => []
theorem snCells_snoc : ∀ {xs : List Sn} {ts : List (Value × Value × List Value)} {x : Sn} {t : Value × Value × List Value}, xs.length = ts.length → snCells (xs ++ [x]) (ts ++ [t]) = snCells xs ts ++ (.int .i64 x.deep :: (x.ref.cells ++ [.bool x.node.leaf, t.1, t.2.1]))
  | [], [], _, _, _ => by simp [snCells]
  | x :: xs, t :: ts, y, u, h => by simp only [List.cons_append, snCells]; rw [snCells_snoc (by simpa using h)]; simp
  | [], _ :: _, _, _, h => by simp at h
  | _ :: _, [], _, _, h => by simp at h
theorem sn_snoc {E : Env} {w : World} {L : List As} {xs : List Sn} {ts : List (Value × Value × List Value)} {x : Sn} {ev kv : Value} {vs : List Value} (h : Sat E w (OwnSl 40 2 ev x.node.entries.length (enCells x.node.entries vs) :: eachOf VnsOf vs x.node.entries :: OwnSl 104 5 kv x.node.kids.length (x.node.kids.flatMap Kd.cells) :: eachOf NdOf ts xs :: L)) :
    Sat E w (eachOf NdOf (ts ++ [(ev, kv, vs)]) (xs ++ [x]) :: L) := Sat.each_snoc (A := NdOf) (Sat.unflat (X := [_, _, _]) h)
/-- What is known of a page that was come to. -/
def Sn.good (x : Sn) : Prop := x.node.fine ∧ x.node.small ∧ x.ref.ok
theorem ord_f54_r4_C07l : orderOfB Try.f54 4 [7, 8] (.a 0 (.a 1 (.a 3 (.v 2 (.k 4 (.k 5 (.k 6 (.k 7 (.k 8 (.k 9 .done)))))))))) = true := by kernel_rfl
set_option maxHeartbeats 4000000 in
theorem all_calls {τ : Type} (D : Pg τ) (k : Nat) : ∀ {E : Env} {w : World} {L : List As} {g : Hp} {s : τ} {A : As} {l : List Sn} {ts : List (Value × Value × List Value)} {lv : Value} (r : Rf) (_ : r.ok) (deep : Int) (_ : 0 ≤ deep) (_ : deep + k = 9) (_ : l.length + mvB k ≤ 1000000) (_ : D.I g s A) (_ : Sat E w (OwnSl 86 8 lv l.length (snCells l ts) :: eachOf NdOf ts l :: A :: RO g :: L)),
    Calls Try.prog 54 #[.agg #[.iface D.t D.u], lv, .agg r.cells.toArray, .int .i64 deep] w fun v w' =>
    ∃ g' A' lv', g.le g' ∧ D.I g' (allO D.ops k deep s r).2.2 A' ∧ v = .returned (.tuple #[lv', .int .i64 (allO D.ops k deep s r).2.1]) ∧ Sat E w' (A' :: RO g' :: L) ∧ ((allO D.ops k deep s r).2.1 ≠ 0 → lv' = .slice none 0 0) ∧
      ((allO D.ops k deep s r).2.1 = 0 → ∃ ts', ((allO D.ops k deep s r).1.length : Int) ≤ mvB k ∧ (∀ x ∈ (allO D.ops k deep s r).1, x.good) ∧ Sat E w' (OwnSl 86 8 lv' (l ++ (allO D.ops k deep s r).1).length (snCells (l ++ (allO D.ops k deep s r).1) ts') :: eachOf NdOf ts' (l ++ (allO D.ops k deep s r).1) :: A' :: RO g' :: L)) := by
  induction k using Nat.strongRecOn with
  | ind k ih =>
  intro E w L g s A l ts lv r hr deep hd0 hk hln hI hw
  obtain ⟨la, lc, rfl, _, _, _⟩ := hw.own_shape
  have htl := (hw.pick .at1).each_len
  have hmk := mvB_pos k
  refine calls_of_g (n := 56) Try.func54 rfl rfl rfl ?_
  change G _ _ _ _ _ [(0, _), (1, _), (2, _), (3, _)] _
  refine g_seq ?_
  refine g_region ?_
  refine rl_k rfl (k_box hw rfl rfl rfl (fun bk0_0 w hw => ?_))
  refine rl_k rfl (k_box hw rfl rfl rfl (fun bk0_1 w hw => ?_))
  refine xV rfl rfl rfl (v_assign rfl) ?_
  refine xV rfl rfl rfl (v_assign rfl) ?_
  refine rl_nil (g_le (xK (xK (xK (xK (Fr.le_refl _))))) ?_)
  refine g_seq ?_
  refine g_region ?_
  refine rl_v rfl rfl rfl (by exact sat_cells hw (by (repeat first | with_reducible exact xH | apply xT); first | done | fail) ⟨rfl, trivial⟩) (v_loadAgg (vs := [_]) T.agg_101_1 rfl rfl) ?_
  refine rl_v rfl rfl rfl (by exact sat_cells hw (by (repeat first | with_reducible exact xH | apply xT); first | done | fail) ⟨rfl, rfl, rfl, rfl, trivial⟩) (v_loadAgg (vs := [_, _, _, _]) T.agg_26_4 rfl rfl) ?_
  refine xV rfl rfl rfl (v_move rfl) ?_
  refine rl_k rfl (k_callf Try.func63 rfl rfl rfl rfl ?_)
  refine Calls.mono (at_calls D r hr k deep hk hI (hw.xQ)) ?_
  generalize hq : atO D.ops k s r = q
  obtain ⟨x, bad, s1⟩ := q
  dsimp only
  rintro _ w ⟨g1, A1, ea, ec, ka, kc, cells, hg1, hI1, rfl, hels, hfine, hsm, hw⟩
  refine ⟨_, rfl, ?_⟩
  refine xV rfl rfl rfl (v_move rfl) ?_
  refine xV rfl rfl rfl (v_extract rfl rfl) ?_
  refine xV rfl rfl rfl (v_extract rfl rfl) ?_
  refine rl_k rfl (k_alloc hw T.zero_117 rfl rfl (fun bk1_7 w hw => ?_))
  refine rl_k rfl (k_storeWhole hw T.agg_117_3 rfl rfl (by simp [Value.oneCell']) rfl (by (repeat first | with_reducible exact xH | apply xT); first | done | fail) rfl (fun w hw => ?_))
  refine xV rfl rfl rfl (v_assign rfl) ?_
  refine rl_nil (g_le (xK (xK (xS rfl (xS rfl (xS rfl (xS rfl (xS rfl (xS rfl (xS rfl (Fr.le_refl _)))))))))) ?_)
  refine g_seq (g_seq ?_)
  refine g_region ?_
  refine xV rfl rfl rfl (v_move rfl) ?_
  refine xV rfl rfl rfl (v_neq rfl rfl) ?_
  refine rl_nil (g_le (xK (xS rfl (Fr.le_refl _))) ?_)
  refine g_cond rfl (fun h1 => ?_) (fun h1 => ?_)
  · try with_reducible exact ft_elim h1
    all_goals
      try replace h1 := of_decide_eq_true h1
      refine g_seq ?_
      refine g_region ?_
      refine xV rfl rfl rfl (v_move rfl) ?_
      refine xV rfl rfl rfl (v_assign rfl) ?_
      refine xV rfl rfl rfl (v_assign rfl) ?_
      refine rl_nil (g_le (xK (xK (xS rfl (Fr.le_refl _)))) ?_)
      refine g_ret2 Try.func54 rfl rfl rfl ?_
      rw [allO_bad D.ops hq h1]
      exact ⟨g1, A1, .slice none 0 0, hg1, hI1, rfl, hw.xQ, fun _ => rfl, fun h => absurd h h1⟩
  · try with_reducible exact tf_elim h1
    all_goals
      try replace h1 := of_decide_eq_false h1
      obtain rfl : bad = 0 := by omega
      obtain ⟨q, rfl, hat⟩ := atO_zero D.ops hq
      have hsm1 := hsm.1
      have hsm2 := hsm.2.1
      have hmq := mvB_pos q
      have hmq2 := mvB_le (k := q) (by omega)
      simp only [mvB] at hmk hln ⊢
      obtain ⟨B, hB⟩ : ∃ B, mvB q = B := ⟨_, rfl⟩
      rw [hB] at hmq hmq2 hmk hln ⊢
      obtain ⟨g2, hg2, hnd, hw⟩ := nd_stands hels hfine.2.2.1 hsm.mid (hw.xQ : Sat E w (RO g1 :: OwnSl 40 2 (.slice ea x.entries.length ec) x.entries.length cells :: OwnSl 104 5 (.slice ka x.kids.length kc) x.kids.length (x.kids.flatMap Kd.cells) :: OwnSl 86 8 (.slice la l.length lc) l.length (snCells l ts) :: eachOf NdOf ts l :: A1 :: pt bk1_7 (.cells [.bool x.leaf, .slice ea x.entries.length ec, .slice ka x.kids.length kc].toArray 117 (0, 0)) :: pt bk0_0 (.cells [Value.iface D.t D.u].toArray 101 (0, 0)) :: pt bk0_1 (.cells r.cells.toArray 26 (0, 0)) :: L))
      obtain ⟨n0, n1, n2, hq9, _, hqe, hqk⟩ := id hnd
      simp only [List.cons.injEq, and_true] at hq9
      obtain ⟨_, rfl, rfl⟩ := hq9
      have hao := allO_ok D.ops (k := q) (deep := deep) hat (l := (allsO (allO D.ops q (deep + 1)) x.kids s1).1) (bad := (allsO (allO D.ops q (deep + 1)) x.kids s1).2.1) (s2 := (allsO (allO D.ops q (deep + 1)) x.kids s1).2.2) rfl
      refine g_skip (g_seq ?_)
      refine g_drawR ord_f54_r4_C07l (by kernel_rfl) T.mixed hw (fun w hw => ?_)
      refine rs_a 0 rfl rfl rfl rfl (v_move rfl) ?_
      refine rs_a 1 rfl rfl rfl rfl (v_move rfl) ?_
      refine rs_a 3 rfl rfl rfl rfl (v_fieldAddr0 T.fld_117_0_0 rfl) ?_
      refine rs_v 2 rfl rfl rfl rfl (OpV.mono (v_loadAgg (vs := [_, _, _, _]) T.agg_26_4 rfl rfl) (fun w hw => by exact sat_cells hw (by (repeat first | with_reducible exact xH | apply xT); first | done | fail) ⟨rfl, rfl, rfl, rfl, trivial⟩)) (by exact hw) ?_
      refine rs_kv 4 rfl rfl rfl rfl (by exact sat_cells hw (by (repeat first | with_reducible exact xH | apply xT); first | done | fail) ⟨rfl, rfl, rfl, trivial⟩) (v_loadAgg (vs := [_, _, _]) T.agg_84_3 rfl rfl) ?_
      refine rs_k 5 rfl rfl (k_callf Try.func64 rfl rfl rfl rfl ?_)
      refine Calls.mono (cloneNdT_calls hnd (hw.xQ)) ?_
      rintro _ w ⟨ev, kv, vs, rfl, hw⟩
      obtain ⟨b1, d1, rfl, _, _, _⟩ := hw.own_shape
      obtain ⟨b2, d2, rfl, _, _, _⟩ := (hw.pick .at2).own_shape
      refine ⟨_, rfl, ?_⟩
      refine ⟨fun _ => (by exact Sat.sub hw (by (repeat (first | with_reducible exact Sub.refl _ | exact Sub.nil _ | (apply Sub.cons; focus ((repeat (first | with_reducible exact Pick.here _ | apply Pick.there)); (first | done | fail))) | with_reducible apply Sub.drop)); first | done | fail)), ?_⟩
      refine rs_kv 6 rfl rfl rfl rfl (S' := fun _ => True) trivial (v_build rfl (T.build_86_0_1_2 ..)) ?_
      refine rs_k 7 rfl rfl (k_buildSlice (cells := [_, _, _, _, _, _, _, _]) hw T.sl_79_86_8 T.zero_86 rfl rfl rfl rfl rfl rfl (fun bk4_7 w hw => ?_))
      refine ⟨fun hn => absurd (by decide) hn, ?_⟩
      refine rs_k 8 rfl rfl (k_append (news := [_, _, _, _, _, _, _, _]) hw T.sl_79_86_8 T.zero_86 T.bytes_86_96 rfl (by decide) rfl rfl (by (repeat first | with_reducible exact xH | apply xT); first | done | fail) rfl (by exact sat_cells hw (by (repeat first | with_reducible exact xH | apply xT); first | done | fail) ⟨rfl, rfl, rfl, rfl, rfl, rfl, rfl, rfl, trivial⟩) (by simp [Value.oneCell']) (by omega) (by simp only [maxLen]; omega) rfl (fun vv4_8 w hw hnil => ?_))
      refine ⟨fun hn => absurd (by decide) hn, ?_⟩
      refine rs_kv 9 rfl rfl rfl rfl (S' := fun _ => True) trivial (v_assign rfl) ?_
      refine rs_done (g_le (xK (xS rfl (xS rfl (xS rfl (xS rfl (xS rfl (xS rfl (xS rfl (xS rfl (xS rfl (Fr.le_refl _))))))))))) ?_)
      obtain ⟨b3, d3, rfl, _, _, _⟩ := hw.own_shape
      have hw9 := sn_snoc (x := ⟨deep, r, x⟩) (hw.xQ : Sat E w (OwnSl 40 2 (.slice b1 x.entries.length d1) x.entries.length (enCells x.entries vs) :: eachOf VnsOf vs x.entries :: OwnSl 104 5 (.slice b2 x.kids.length d2) x.kids.length (x.kids.flatMap Kd.cells) :: eachOf NdOf ts l :: OwnSl 86 8 (.slice b3 (l.length + 1) d3) (l.length + 1) (snCells l ts ++ [Value.int .i64 deep, .int .u64 r.key, .int .i64 r.seg, .int .i64 r.off, .int .i64 r.len, .bool x.leaf, .slice b1 x.entries.length d1, .slice b2 x.kids.length d2]) :: A1 :: pt bk1_7 (.cells [.bool x.leaf, .slice ea x.entries.length ec, .slice ka x.kids.length kc].toArray 117 (0, 0)) :: pt bk0_0 (.cells [Value.iface D.t D.u].toArray 101 (0, 0)) :: RO g2 :: L))
      have hw : Sat E w (OwnSl 86 8 (.slice b3 (l.length + 1) d3) (l ++ [(⟨deep, r, x⟩ : Sn)] ++ []).length (snCells (l ++ [(⟨deep, r, x⟩ : Sn)] ++ []) (ts ++ [(.slice b1 x.entries.length d1, .slice b2 x.kids.length d2, vs)])) :: eachOf NdOf (ts ++ [(.slice b1 x.entries.length d1, .slice b2 x.kids.length d2, vs)]) (l ++ [(⟨deep, r, x⟩ : Sn)] ++ []) :: A1 :: pt bk1_7 (.cells [.bool x.leaf, .slice ea x.entries.length ec, .slice ka x.kids.length kc].toArray 117 (0, 0)) :: pt bk0_0 (.cells [Value.iface D.t D.u].toArray 101 (0, 0)) :: RO g2 :: L) := by rw [List.append_nil, List.length_append, snCells_snoc htl.symm]; simp only [Rf.cells, List.cons_append, List.nil_append, List.length_cons, List.length_nil, Nat.zero_add]; exact hw9.xQ
      refine g_seq (g_seq ?_)
      refine g_region ?_
      refine xV rfl rfl rfl (v_fieldAddr0 T.fld_117_0_0 rfl) ?_
      refine xV rfl rfl rfl (v_fieldAddr0 T.fld_84_2_2 rfl) ?_
      refine rl_v rfl rfl rfl (by exact sat_cell hw (by (repeat first | with_reducible exact xH | apply xT); first | done | fail) rfl) (v_load T.scal_82 rfl) ?_
      refine xV rfl rfl rfl (v_lenSlice T.sl_82_104_5 rfl) ?_
      refine xV rfl rfl rfl (v_move rfl) ?_
      refine rl_nil (g_le (xK (xK (xK (xS rfl (xS rfl (Fr.le_refl _)))))) ?_)
      refine g_block ?_
      refine g_loop (σ := Int × Hp × τ × As × List Sn × List (Value × Value × List Value) × Value) (fun x => [(37, .int .i64 x.1), (1, x.2.2.2.2.2.2), (3, _), (4, _), (8, _), (9, _), (11, _), (35, _), (36, _)]) (fun z w => 0 ≤ z.1 ∧ z.1 ≤ x.kids.length ∧ g2.le z.2.1 ∧ D.I z.2.1 z.2.2.1 z.2.2.2.1 ∧ (z.2.2.2.2.1.length : Int) ≤ z.1 * B ∧ (∀ x ∈ z.2.2.2.2.1, x.good) ∧ (allsO (allO D.ops q (deep + 1)) x.kids s1).2 = (allsO (allO D.ops q (deep + 1)) (x.kids.drop z.1.toNat) z.2.2.1).2 ∧ ((allsO (allO D.ops q (deep + 1)) (x.kids.drop z.1.toNat) z.2.2.1).2.1 = 0 → (allsO (allO D.ops q (deep + 1)) x.kids s1).1 = z.2.2.2.2.1 ++ (allsO (allO D.ops q (deep + 1)) (x.kids.drop z.1.toNat) z.2.2.1).1) ∧
        Sat E w (OwnSl 86 8 z.2.2.2.2.2.2 (l ++ [(⟨deep, r, x⟩ : Sn)] ++ z.2.2.2.2.1).length (snCells (l ++ [(⟨deep, r, x⟩ : Sn)] ++ z.2.2.2.2.1) z.2.2.2.2.2.1) :: eachOf NdOf z.2.2.2.2.2.1 (l ++ [(⟨deep, r, x⟩ : Sn)] ++ z.2.2.2.2.1) :: z.2.2.2.1 :: pt bk0_0 (.cells [Value.iface D.t D.u].toArray 101 (0, 0)) :: RO z.2.1 :: L)) (fun z => (x.kids.length - z.1).toNat) ?_ (0, g2, s1, A1, [], ts ++ [(.slice b1 x.entries.length d1, .slice b2 x.kids.length d2, vs)], .slice b3 (l.length + 1) d3) (by repeat (first | exact Fr.le_nil _ | refine Fr.le_cons rfl ?_)) ⟨by simp, by simp, Hp.le_refl _, D.mono hg2 hI1, by simp, by simp, by simp, fun _ => by simp, hw.xQ⟩
      rintro ⟨i, g3, s2, A2, acc, ts2, lv2⟩ w ⟨hi0, hi1, hg3, hI2, hal, hag, hm1, hm2, hw⟩ ih2
      dsimp only at hi0 hi1 hg3 hI2 hal hag hm1 hm2 hw ⊢
      refine g_seq ?_
      refine g_region ?_
      refine xV rfl rfl rfl (v_lss rfl rfl) ?_
      refine rl_nil (g_le (xK (Fr.le_refl _)) ?_)
      refine g_seq ?_
      refine g_cond rfl (fun h2 => ?_) (fun h2 => ?_)
      · try with_reducible exact ft_elim h2
        all_goals
          try replace h2 := of_decide_eq_true h2
          refine g_skip (g_seq (g_block (g_seq ?_)))
          have hz := hw
          clear hw
          obtain ⟨_, _, _, _, gk⟩ := rdSl_get (mono_sl mono_Kd hg3 hqk)
          obtain ⟨b4, o1, y, ecs, rfl, hy, hat1, hl1, rfl, hyok⟩ := gk i hi0 (by omega)
          have hdr : x.kids.drop i.toNat = y :: x.kids.drop (i.toNat + 1) := by obtain ⟨h9, h8⟩ := List.getElem?_eq_some_iff.1 hy; rw [List.drop_eq_getElem_cons h9, h8]
          rw [hdr, allsO_cons] at hm1 hm2
          have hw := hz
          have hb9 : (i + 1) * B = i * B + B := by rw [Int.add_mul, Int.one_mul]
          have hb8 : (i + 1) * B ≤ 4 * B := Int.mul_le_mul_of_nonneg_right (by omega) hmq
          refine g_region ?_
          refine xV rfl rfl rfl (v_indexAddr T.sl_82_104_5 rfl rfl (by omega) (by omega)) ?_
          refine rl_v rfl rfl rfl (by exact ro_ats hw (by (repeat first | with_reducible exact xH | apply xT); first | done | fail) (by assumption)) (v_loadAgg (vs := [_, _, _, _, _]) T.agg_104_5 rfl rfl) ?_
          refine rl_k rfl (k_alloc hw T.zero_104 rfl rfl (fun bk7_2 w hw => ?_))
          refine rl_k rfl (k_storeWhole hw T.agg_104_5 rfl rfl (by simp [Value.oneCell']) rfl (by (repeat first | with_reducible exact xH | apply xT); first | done | fail) rfl (fun w hw => ?_))
          refine rl_nil (g_le (xK (xK (xK (Fr.le_refl _)))) ?_)
          refine g_seq ?_
          refine g_region ?_
          refine rl_v rfl rfl rfl (by exact sat_cells hw (by (repeat first | with_reducible exact xH | apply xT); first | done | fail) ⟨rfl, trivial⟩) (v_loadAgg (vs := [_]) T.agg_101_1 rfl rfl) ?_
          refine xV rfl rfl rfl (v_move rfl) ?_
          refine xV rfl rfl rfl (v_fieldAddr0 T.fld_104_1_1 rfl) ?_
          refine rl_v rfl rfl rfl (by exact sat_cells hw (by (repeat first | with_reducible exact xH | apply xT); first | done | fail) ⟨rfl, rfl, rfl, rfl, trivial⟩) (v_loadAgg (vs := [_, _, _, _]) T.agg_26_4 rfl rfl) ?_
          refine xV rfl rfl rfl (v_move rfl) ?_
          refine xV rfl rfl rfl (v_add rfl rfl (by omega)) ?_
          refine rl_k rfl (k_callf Try.func54 rfl rfl rfl rfl ?_)
          refine Calls.mono (ih q (by omega) (l := l ++ [(⟨deep, r, x⟩ : Sn)] ++ acc) (ts := ts2) y.ref hyok.2 (deep + 1) (by omega) (by omega) (by rw [hB, List.length_append, List.length_append, List.length_cons, List.length_nil]; omega) hI2 (hw.xQ)) ?_
          rw [hB]
          generalize hp : allO D.ops q (deep + 1) s2 y.ref = pq at hm1 hm2 ⊢
          obtain ⟨items, b3', s3⟩ := pq
          dsimp only at hm1 hm2 ⊢
          rintro _ w ⟨g4, A4, lv4, hg4, hI4, rfl, hw, hbd, hgd⟩
          refine ⟨_, rfl, ?_⟩
          refine xV rfl rfl rfl (v_move rfl) ?_
          refine xV rfl rfl rfl (v_extract rfl rfl) ?_
          refine xV rfl rfl rfl (v_extract rfl rfl) ?_
          refine xV rfl rfl rfl (v_assign rfl) ?_
          refine xV rfl rfl rfl (v_assign rfl) ?_
          refine rl_nil (g_le (xK (xK (xK (xK (xK (xK (xK (xK (xK (xK (xK (xK (Fr.le_refl _))))))))))))) ?_)
          refine g_seq ?_
          refine g_region ?_
          refine xV rfl rfl rfl (v_move rfl) ?_
          refine xV rfl rfl rfl (v_neq rfl rfl) ?_
          refine rl_nil (g_le (xK (xK (Fr.le_refl _))) ?_)
          refine g_cond rfl (fun h3 => ?_) (fun h3 => ?_)
          · try with_reducible exact ft_elim h3
            all_goals
              try replace h3 := of_decide_eq_true h3
              refine g_seq ?_
              refine g_region ?_
              refine xV rfl rfl rfl (v_move rfl) ?_
              refine xV rfl rfl rfl (v_assign rfl) ?_
              refine xV rfl rfl rfl (v_assign rfl) ?_
              refine rl_nil (g_le (xK (xK (xK (Fr.le_refl _)))) ?_)
              refine g_ret2 Try.func54 rfl rfl rfl ?_
              rw [if_pos h3] at hm1
              rw [hm1] at hao
              rw [if_pos h3] at hao
              rw [hao]
              exact ⟨g4, A4, .slice none 0 0, (hg1.trans hg2).trans (hg3.trans hg4), hI4, rfl, hw.xQ, fun _ => rfl, fun h => absurd h h3⟩
          · try with_reducible exact tf_elim h3
            all_goals
              try replace h3 := of_decide_eq_false h3
              obtain rfl : b3' = 0 := by omega
              rw [if_neg h3] at hm1 hm2
              obtain ⟨ts4, hil, hig, hw⟩ := hgd rfl
              rw [List.append_assoc _ acc] at hw
              refine g_skip (g_inBlock ?_)
              refine g_region ?_
              refine xV rfl rfl rfl (v_add rfl rfl (by omega)) ?_
              refine xV rfl rfl rfl (v_move rfl) ?_
              refine rl_nil (g_le (xK (xK (Fr.le_refl _))) ?_)
              exact g_le (by repeat (first | exact Fr.le_nil _ | refine Fr.le_cons rfl ?_)) (ih2 (i + 1, g4, s3, A4, acc ++ items, ts4, lv4) w ⟨by simp only; omega, by simp only; omega, hg3.trans hg4, hI4, by simp only [List.length_append]; omega, fun z hz => (List.mem_append.1 hz).elim (hag z) (hig z), by simp only; rw [show (i + 1).toNat = i.toNat + 1 by omega]; exact hm1, fun hh => by simp only at hh ⊢; rw [show (i + 1).toNat = i.toNat + 1 by omega] at hh ⊢; rw [hm2 hh, List.append_assoc], hw.xQ⟩ (by simp only; omega))
      · try with_reducible exact tf_elim h2
        all_goals
          try replace h2 := of_decide_eq_false h2
          refine g_exit rfl (g_seq ?_)
          refine g_region ?_
          refine xV rfl rfl rfl (v_move rfl) ?_
          refine xV rfl rfl rfl (v_assign rfl) ?_
          refine xV rfl rfl rfl (v_assign rfl) ?_
          refine rl_nil (g_le (xK (xK (xS rfl (Fr.le_refl _)))) ?_)
          refine g_ret2 Try.func54 rfl rfl rfl ?_
          rw [List.drop_eq_nil_of_le (by omega)] at hm1 hm2
          have hm2 := hm2 rfl
          simp only [allsO, List.append_nil] at hm1 hm2
          rw [hm1, hm2, if_neg (by simp)] at hao
          have hb8 : i * B ≤ 4 * B := Int.mul_le_mul_of_nonneg_right (by omega) hmq
          rw [List.append_assoc, List.singleton_append] at hw
          rw [hao]
          exact ⟨g3, A2, lv2, (hg1.trans hg2).trans hg3, hI2, rfl, hw.xQ, fun h => absurd rfl h, fun _ => ⟨ts2, by simp only [List.length_cons]; omega, fun z hz => by rcases List.mem_cons.1 hz with rfl | hz; exact ⟨hfine, hsm, hr⟩; exact hag z hz, hw.xQ⟩⟩
theorem All_calls {τ : Type} (D : Pg τ) {E : Env} {w : World} {L : List As} {g : Hp} {s : τ} {A : As} (r : Rf) (hr : r.ok) (hI : D.I g s A) (hw : Sat E w (A :: RO g :: L)) :
    Calls Try.prog 38 #[.iface D.t D.u, .agg r.cells.toArray] w fun v w' =>
    ∃ g' A' lv', g.le g' ∧ D.I g' (allO D.ops 8 1 s r).2.2 A' ∧ v = .returned (.tuple #[lv', .int .i64 (allO D.ops 8 1 s r).2.1]) ∧ Sat E w' (A' :: RO g' :: L) ∧ ((allO D.ops 8 1 s r).2.1 ≠ 0 → lv' = .slice none 0 0) ∧
      ((allO D.ops 8 1 s r).2.1 = 0 → ∃ ts', (allO D.ops 8 1 s r).1.length ≤ 100000 ∧ (∀ x ∈ (allO D.ops 8 1 s r).1, x.good) ∧ Sat E w' (OwnSl 86 8 lv' (allO D.ops 8 1 s r).1.length (snCells (allO D.ops 8 1 s r).1 ts') :: eachOf NdOf ts' (allO D.ops 8 1 s r).1 :: A' :: RO g' :: L)) := by
  refine calls_of_g (n := 12) Try.func38 rfl rfl rfl ?_
  change G _ _ _ _ _ [(0, _), (1, _)] _
  refine g_seq ?_
  refine g_region ?_
  refine rl_k rfl (k_box hw rfl rfl rfl (fun bk0_0 w hw => ?_))
  refine xV rfl rfl rfl (v_assign rfl) ?_
  refine xV rfl rfl rfl (v_assign rfl) ?_
  refine rl_nil (g_le (xK (xK (xK (Fr.le_refl _)))) ?_)
  refine g_seq ?_
  refine g_region ?_
  refine xV rfl rfl rfl (v_move rfl) ?_
  refine xV rfl rfl rfl (v_build rfl (T.build_101_0 ..)) ?_
  refine rl_v rfl rfl rfl (by exact sat_cells hw (by (repeat first | with_reducible exact xH | apply xT); first | done | fail) ⟨rfl, rfl, rfl, rfl, trivial⟩) (v_loadAgg (vs := [_, _, _, _]) T.agg_26_4 rfl rfl) ?_
  refine rl_k rfl (k_callf Try.func54 rfl rfl rfl rfl ?_)
  refine Calls.mono (all_calls D 8 (l := []) (ts := []) (lv := .slice none 0 0) r hr 1 (by omega) (by omega) (by have := mvB_le (k := 8) (by omega); simp; omega) hI (((hw.xQ : Sat E w (A :: RO g :: L)).each_nil (A := NdOf)).own_nil 86 8)) ?_
  rintro _ w ⟨g1, A1, lv1, hg1, hI1, rfl, hw, hb, hgd⟩
  refine ⟨_, rfl, ?_⟩
  refine xV rfl rfl rfl (v_extract rfl rfl) ?_
  refine xV rfl rfl rfl (v_extract rfl rfl) ?_
  refine xV rfl rfl rfl (v_assign rfl) ?_
  refine xV rfl rfl rfl (v_assign rfl) ?_
  refine rl_nil (g_le (xK (xK (xS rfl (xS rfl (xS rfl (xS rfl (xS rfl (xS rfl (Fr.le_refl _))))))))) ?_)
  refine g_ret2 Try.func38 rfl rfl rfl ?_
  exact ⟨g1, A1, lv1, hg1, hI1, rfl, hw, hb, fun h => by obtain ⟨ts, h1, h2, h3⟩ := hgd h; have := mvB_le (k := 8) (by omega); exact ⟨ts, by omega, h2, by simpa using h3⟩⟩
end Go.Proofs.Ytdiocmjhencbpaa
