/-
  The cache: Holds, with what is told as its caller's own.
-/
import Derived.Test.YtnkddbbcfolcdaaC15p
namespace Go.Proofs.Ytnkddbbcfolcdaa
set_option linter.unusedSimpArgs false
set_option linter.unusedVariables false
open Go Xe
/-- One that is told, with where its node lies. -/
abbrev Ho := Hd × Value × Value × List Value
def rdHo : Rd Ho := fun _ cs p => cs = [.int .u64 p.1.ref.key, .int .i64 p.1.ref.seg, .int .i64 p.1.ref.off, .int .i64 p.1.ref.len, .bool p.1.node.leaf, p.2.1, p.2.2.1, .int .i64 p.1.pins]
theorem mono_Ho : Rd.Mono rdHo := fun _ _ _ h => h
def HdOf : Ho → Ho → As := fun p _ => stars (OwnSl 73 2 p.2.1 (p.1.node).entries.length (enCells (p.1.node).entries p.2.2.2) :: eachOf VnsOf p.2.2.2 (p.1.node).entries :: KdsAt p.2.2.1 (p.1.node).kids :: [])
theorem _root_.Go.Proofs.Ytnkddbbcfolcdaa.Xe.Sat.ro_nil {E : Env} {w : World} {L : List As} (h : Sat E w L) : Sat E w (RO (fun _ => none) :: L) := by
  obtain ⟨e, k, hk, hs⟩ := h
  exact ⟨e, k, ⟨fun _ => none, k, fun b => .inl rfl, by funext b; simp [Hp.un], rfl, hk⟩, hs⟩
theorem ho_snoc {E : Env} {w : World} {L : List As} {ps : List Ho} {ev kv : Value} {vs : List Value} {x : Hd} (h : Sat E w (OwnSl 73 2 ev (x.node).entries.length (enCells (x.node).entries vs) :: eachOf VnsOf vs (x.node).entries :: KdsAt kv (x.node).kids :: eachOf HdOf ps ps :: L)) : Sat E w (eachOf HdOf (ps ++ [(x, ev, kv, vs)]) (ps ++ [(x, ev, kv, vs)]) :: L) :=
  Sat.each_snoc (A := HdOf) (x := (x, ev, kv, vs)) (y := (x, ev, kv, vs)) (Sat.unflat (X := OwnSl 73 2 ev (x.node).entries.length (enCells (x.node).entries vs) :: eachOf VnsOf vs (x.node).entries :: KdsAt kv (x.node).kids :: []) h)
theorem choldsO_calls {E : Env} {w : World} {L : List As} {g : Hp} {c : Nat} {s : Ch} {lv : Value} {cells : List Value} (hels : Els rdHd 8 g cells s.l) (hb : s.l.length ≤ 100000) (hw : Sat E w (pt c (.cells [Value.int .i64 (s : Ch).room, lv, .int .i64 (s : Ch).hits, .int .i64 (s : Ch).misses].toArray 70 (0, 0)) :: OwnSl 42 8 lv (s : Ch).l.length cells :: RO g :: L)) :
    Calls Try.prog 14 #[.pointer (some ⟨c, 0, none⟩)] w fun e w' => ∃ h a n k ps, e = .returned (.slice a n k) ∧ rdSl 96 8 rdHo h [.slice a n k] ps ∧ ps.map (·.1) = s.l ∧ Sat E w' (RO h :: eachOf HdOf ps ps :: pt c (.cells [Value.int .i64 (s : Ch).room, lv, .int .i64 (s : Ch).hits, .int .i64 (s : Ch).misses].toArray 70 (0, 0)) :: OwnSl 42 8 lv (s : Ch).l.length cells :: RO g :: L) := by
  obtain ⟨a, cc, rfl, _, _, ha⟩ := (hw.pick .at1).own_shape
  have hclen := hels.len
  refine calls_of_g (n := 26) Try.func14 rfl rfl rfl ?_
  change G _ _ _ _ _ [(0, _)] _
  refine g_seq ?_
  refine g_region ?_
  refine rl_v rfl rfl rfl (S := fun _ => True) trivial (v_assign rfl) ?_
  refine rl_nil (g_le (Fr.le_keep (Fr.le_refl _)) ?_)
  refine g_seq ?_
  refine g_region ?_
  refine rl_v rfl rfl rfl (S := fun _ => True) trivial (v_assign rfl) ?_
  refine rl_nil (g_le (Fr.le_keep (Fr.le_refl _)) ?_)
  refine g_seq (g_seq ?_)
  refine g_region ?_
  refine rl_v rfl rfl rfl (S := fun _ => True) trivial (v_move rfl) ?_
  refine rl_v rfl rfl rfl (S := fun _ => True) trivial (v_nilCheck rfl) ?_
  first | (refine rl_v rfl rfl rfl (S := fun _ => True) trivial (v_fieldAddr0 T.fld_70_1_1 rfl) ?_) | (refine rl_v rfl rfl rfl (S := fun _ => True) trivial (v_fieldAddr T.fld_70_1_1 rfl) ?_)
  refine rl_v rfl rfl rfl (by first | exact sat_cell hw (by (repeat (first | with_reducible exact Pick.here _ | apply Pick.there)); first | done | fail) rfl | exact own_cell hw (by (repeat (first | with_reducible exact Pick.here _ | apply Pick.there)); first | done | fail) (by first | rfl | assumption) | exact ro_at0 hw (by (repeat (first | with_reducible exact Pick.here _ | apply Pick.there)); first | done | fail) (by assumption) rfl | exact ro_at hw (by (repeat (first | with_reducible exact Pick.here _ | apply Pick.there)); first | done | fail) (by assumption) rfl | exact own_at0 hw (by (repeat (first | with_reducible exact Pick.here _ | apply Pick.there)); first | done | fail) (by assumption) rfl | exact own_at hw (by (repeat (first | with_reducible exact Pick.here _ | apply Pick.there)); first | done | fail) (by assumption) rfl | exact old_cell hw (by (repeat (first | with_reducible exact Pick.here _ | apply Pick.there)); first | done | fail) (by assumption) | assumption) (v_load T.scal_39 rfl) ?_
  refine rl_v rfl rfl rfl (S := fun _ => True) trivial (v_lenSlice T.sl_39_42_8 rfl) ?_
  refine rl_v rfl rfl rfl (S := fun _ => True) trivial (v_move rfl) ?_
  refine rl_nil (g_le (Fr.le_keep (Fr.le_keep (Fr.le_keep (Fr.le_skip rfl (Fr.le_skip rfl (Fr.le_skip rfl (Fr.le_refl _))))))) ?_)
  refine g_block ?_
  refine g_loopC (σ := Int × List Ho × Value × List Value) (fun C x => (11, .int .i64 x.1) :: (3, x.2.2.1) :: C) [(2, _), (9, _), (10, _)] (by repeat (first | exact Fr.le_nil _ | refine Fr.le_cons rfl ?_)) (fun z w => 0 ≤ z.1 ∧ z.1 ≤ s.l.length ∧ z.2.1.map (·.1) = s.l.take z.1.toNat ∧ Els rdHo 8 (fun _ => none) z.2.2.2 z.2.1 ∧ Sat E w (OwnSl 42 8 z.2.2.1 z.1.toNat z.2.2.2 :: eachOf HdOf z.2.1 z.2.1 :: pt c (.cells [Value.int .i64 (s : Ch).room, (.slice a s.l.length cc), .int .i64 (s : Ch).hits, .int .i64 (s : Ch).misses].toArray 70 (0, 0)) :: OwnSl 42 8 (.slice a s.l.length cc) (s : Ch).l.length cells :: RO g :: L)) (fun z => (s.l.length - z.1).toNat) ?_ (0, [], .slice none 0 0, []) (by repeat (first | exact Fr.le_nil _ | refine Fr.le_cons rfl ?_)) ⟨by simp, by simp, by simp, Els.nil, (Sat.each_nil (hw.sub (by (repeat (first | with_reducible exact Sub.refl _ | exact Sub.nil _ | (apply Sub.cons; focus ((repeat (first | with_reducible exact Pick.here _ | apply Pick.there)); (first | done | fail))) | with_reducible apply Sub.drop)); first | done | fail))).own_nil _ _⟩
  rintro ⟨i, ps, v, cs2⟩ w ⟨hi0, hi1, hps, hels2, hw⟩ ih
  dsimp only at hi0 hi1 hps hels2 hw ⊢
  refine g_seq ?_
  refine g_region ?_
  first | (refine rl_v rfl rfl rfl (S := fun _ => True) trivial (v_lssT rfl rfl (by omega)) ?_) | (refine rl_v rfl rfl rfl (S := fun _ => True) trivial (v_lssF rfl rfl (by omega)) ?_) | (refine rl_v rfl rfl rfl (S := fun _ => True) trivial (v_lss rfl rfl) ?_)
  refine rl_nil (g_le (Fr.le_keep (Fr.le_refl _)) ?_)
  refine g_seq ?_
  refine g_cond rfl (fun h1 => ?_) (fun h1 => ?_)
  · try with_reducible exact ft_elim h1
    all_goals
      try replace h1 := of_decide_eq_true h1
      refine g_skip (g_seq (g_block (g_seq ?_)))
      have hz := hw
      clear hw
      obtain ⟨gb, rfl⟩ := ha (by omega)
      have hlt : i.toNat < s.l.length := by omega
      have hx : s.l[i.toNat]? = some s.l[i.toNat] := List.getElem?_eq_getElem hlt
      obtain ⟨ea, en, ec, ka, kn, kc, hsub, hrd, hnd, hok, hle⟩ := hd_cells hels hx
      have hw := hz
      obtain ⟨va, vc, rfl, _, _, _⟩ := hw.own_shape
      have htk : s.l.take (i + 1).toNat = s.l.take i.toNat ++ [s.l[i.toNat]] := by rw [show (i + 1).toNat = i.toNat + 1 by omega, List.take_add_one, hx]; rfl
      refine g_region ?_
      refine rl_v rfl rfl rfl (S := fun _ => True) trivial (v_indexAddr T.sl_39_42_8 rfl rfl (by omega) (by omega)) ?_
      refine rl_v rfl rfl rfl (by first | exact sat_cells hw (by (repeat (first | with_reducible exact Pick.here _ | apply Pick.there)); first | done | fail) ⟨rfl, rfl, rfl, rfl, rfl, rfl, rfl, rfl, trivial⟩ | exact ro_ats hw (by (repeat (first | with_reducible exact Pick.here _ | apply Pick.there)); first | done | fail) (by assumption) | exact own_cells hw (by (repeat (first | with_reducible exact Pick.here _ | apply Pick.there)); first | done | fail) (by assumption) | exact old_cells hw (by (repeat (first | with_reducible exact Pick.here _ | apply Pick.there)); first | done | fail) (by assumption)) (v_loadAgg (vs := [_, _, _, _, _, _, _, _]) T.agg_42_8 rfl rfl) ?_
      refine rl_k rfl (k_alloc hw T.zero_42 rfl rfl (fun bk4_2 w hw => ?_))
      first | (refine rl_k rfl (k_storeWhole hw T.agg_42_8 rfl rfl (by simp [Value.oneCell']) rfl (by (repeat (first | with_reducible exact Pick.here _ | apply Pick.there)); first | done | fail) rfl (fun w hw => ?_))) | (refine rl_k rfl (k_storeAgg hw T.agg_42_8 rfl rfl (by simp [Value.oneCell']) rfl (by (repeat (first | with_reducible exact Pick.here _ | apply Pick.there)); first | done | fail) rfl rfl (fun w hw => ?_))) | (refine rl_k rfl (k_storeOwnAgg hw T.agg_42_8 rfl rfl (by simp [Value.oneCell']) rfl (by (repeat (first | with_reducible exact Pick.here _ | apply Pick.there)); first | done | fail) (by assumption) (by omega) (fun w hw => ?_)))
      refine rl_nil (g_le (Fr.le_keep (Fr.le_keep (Fr.le_keep (Fr.le_refl _)))) ?_)
      refine g_seq ?_
      refine g_region ?_
      first | (refine rl_v rfl rfl rfl (S := fun _ => True) trivial (v_fieldAddr0 T.fld_42_1_4 rfl) ?_) | (refine rl_v rfl rfl rfl (S := fun _ => True) trivial (v_fieldAddr T.fld_42_1_4 rfl) ?_)
      refine rl_v rfl rfl rfl (by first | exact sat_cells hw (by (repeat (first | with_reducible exact Pick.here _ | apply Pick.there)); first | done | fail) ⟨rfl, rfl, rfl, trivial⟩ | exact ro_ats hw (by (repeat (first | with_reducible exact Pick.here _ | apply Pick.there)); first | done | fail) (by assumption) | exact own_cells hw (by (repeat (first | with_reducible exact Pick.here _ | apply Pick.there)); first | done | fail) (by assumption) | exact old_cells hw (by (repeat (first | with_reducible exact Pick.here _ | apply Pick.there)); first | done | fail) (by assumption)) (v_loadAgg (vs := [_, _, _]) T.agg_25_3 rfl rfl) ?_
      refine rl_k rfl (k_callf Try.func34 rfl rfl rfl rfl ?_)
      refine Calls.mono (cloneNd_calls (rdHd_nd hrd) (hw.sub (by (repeat (first | with_reducible exact Sub.refl _ | exact Sub.nil _ | (apply Sub.cons; focus ((repeat (first | with_reducible exact Pick.here _ | apply Pick.there)); (first | done | fail))) | with_reducible apply Sub.drop)); first | done | fail))) ?_
      rintro _ w ⟨ev, kv, vs, rfl, hw⟩
      obtain ⟨a4, c4, rfl, _, _, _⟩ := hw.own_shape
      obtain ⟨a5, c5, rfl, _, _, _⟩ := (hw.pick .at2).own_shape
      refine ⟨_, rfl, ?_⟩
      first | (refine rl_v rfl rfl rfl (S := fun _ => True) trivial (v_fieldAddr0 T.fld_42_1_4 rfl) ?_) | (refine rl_v rfl rfl rfl (S := fun _ => True) trivial (v_fieldAddr T.fld_42_1_4 rfl) ?_)
      first | (refine rl_k rfl (k_storeWhole hw T.agg_25_3 rfl rfl (by simp [Value.oneCell']) rfl (by (repeat (first | with_reducible exact Pick.here _ | apply Pick.there)); first | done | fail) rfl (fun w hw => ?_))) | (refine rl_k rfl (k_storeAgg hw T.agg_25_3 rfl rfl (by simp [Value.oneCell']) rfl (by (repeat (first | with_reducible exact Pick.here _ | apply Pick.there)); first | done | fail) rfl rfl (fun w hw => ?_))) | (refine rl_k rfl (k_storeOwnAgg hw T.agg_25_3 rfl rfl (by simp [Value.oneCell']) rfl (by (repeat (first | with_reducible exact Pick.here _ | apply Pick.there)); first | done | fail) (by assumption) (by omega) (fun w hw => ?_)))
      refine rl_nil (g_le (Fr.le_keep (Fr.le_keep (Fr.le_keep (Fr.le_keep (Fr.le_refl _))))) ?_)
      have hw := ho_snoc (ps := ps) (x := s.l[i.toNat]) (hw.sub (by (repeat (first | with_reducible exact Sub.refl _ | exact Sub.nil _ | (apply Sub.cons; focus ((repeat (first | with_reducible exact Pick.here _ | apply Pick.there)); (first | done | fail))) | with_reducible apply Sub.drop)); first | done | fail))
      refine g_region ?_
      refine rl_v rfl rfl rfl (S := fun _ => True) trivial (v_move rfl) ?_
      refine rl_v rfl rfl rfl (by first | exact sat_cells hw (by (repeat (first | with_reducible exact Pick.here _ | apply Pick.there)); first | done | fail) ⟨rfl, rfl, rfl, rfl, rfl, rfl, rfl, rfl, trivial⟩ | exact ro_ats hw (by (repeat (first | with_reducible exact Pick.here _ | apply Pick.there)); first | done | fail) (by assumption) | exact own_cells hw (by (repeat (first | with_reducible exact Pick.here _ | apply Pick.there)); first | done | fail) (by assumption) | exact old_cells hw (by (repeat (first | with_reducible exact Pick.here _ | apply Pick.there)); first | done | fail) (by assumption)) (v_loadAgg (vs := [_, _, _, _, _, _, _, _]) T.agg_42_8 rfl rfl) ?_
      refine rl_k rfl (k_buildSlice (cells := [_, _, _, _, _, _, _, _]) hw T.sl_39_42_8 T.zero_42 rfl rfl rfl rfl rfl rfl (fun bk6_2 w hw => ?_))
      refine rl_k rfl (k_append (news := [_, _, _, _, _, _, _, _]) hw T.sl_39_42_8 T.zero_42 T.bytes_42_96 rfl (by decide) rfl rfl (by (repeat (first | with_reducible exact Pick.here _ | apply Pick.there)); first | done | fail) rfl (by first | exact sat_cells hw (by (repeat (first | with_reducible exact Pick.here _ | apply Pick.there)); first | done | fail) ⟨rfl, rfl, rfl, rfl, rfl, rfl, rfl, rfl, trivial⟩ | exact old_cells hw (by (repeat (first | with_reducible exact Pick.here _ | apply Pick.there)); first | done | fail) (by assumption)) (by simp [Value.oneCell']) (by omega) (by simp only [maxLen]; omega) rfl (fun vv6_3 w hw hnil => ?_))
      refine rl_v rfl rfl rfl (S := fun _ => True) trivial (v_assign rfl) ?_
      refine rl_nil (g_le (Fr.le_keep (Fr.le_keep (Fr.le_keep (Fr.le_keep (Fr.le_keep (Fr.le_refl _)))))) ?_)
      refine g_inBlock ?_
      refine g_region ?_
      first | (refine rl_v rfl rfl rfl (S := fun _ => True) trivial (v_add rfl rfl (by omega)) ?_) | (refine rl_v rfl rfl rfl (S := fun _ => True) trivial (v_addW rfl rfl) ?_)
      refine rl_v rfl rfl rfl (S := fun _ => True) trivial (v_move rfl) ?_
      refine rl_nil (g_le (Fr.le_keep (Fr.le_keep (Fr.le_refl _))) ?_)
      exact g_le (by repeat (first | exact Fr.le_nil _ | refine Fr.le_cons rfl ?_)) (ih (i + 1, ps ++ [(s.l[i.toNat], .slice a4 s.l[i.toNat].node.entries.length c4, .slice a5 s.l[i.toNat].node.kids.length c5, vs)], vv6_3, cs2 ++ [.int .u64 (s.l[i.toNat] : Hd).ref.key, .int .i64 (s.l[i.toNat] : Hd).ref.seg, .int .i64 (s.l[i.toNat] : Hd).ref.off, .int .i64 (s.l[i.toNat] : Hd).ref.len, .bool (s.l[i.toNat] : Hd).node.leaf, .slice a4 s.l[i.toNat].node.entries.length c4, .slice a5 s.l[i.toNat].node.kids.length c5, .int .i64 (s.l[i.toNat] : Hd).pins]) w ⟨by simp only; omega, by simp only; omega, by simp only [List.map_append, List.map_cons, List.map_nil]; rw [htk, hps], hels2.snoc rfl (by unfold rdHo; rfl), by dsimp only; rw [show (i + 1).toNat = i.toNat + 1 by omega]; exact hw.sub (by (repeat (first | with_reducible exact Sub.refl _ | exact Sub.nil _ | (apply Sub.cons; focus ((repeat (first | with_reducible exact Pick.here _ | apply Pick.there)); (first | done | fail))) | with_reducible apply Sub.drop)); first | done | fail)⟩ (by simp only; omega))
  · try with_reducible exact tf_elim h1
    all_goals
      try replace h1 := of_decide_eq_false h1
      refine g_exit rfl (g_seq ?_)
      have hfin : i = s.l.length := by omega
      rw [show i.toNat = s.l.length by omega] at hw hps
      rw [List.take_length] at hps
      have hpl : s.l.length = ps.length := by rw [← hps, List.length_map]
      obtain ⟨va, vc, rfl, hvc, _, _⟩ := hw.own_shape
      obtain ⟨g3, hg3, hrd3, hw⟩ := ((hw.ro_nil).sub (by (repeat (first | with_reducible exact Sub.refl _ | exact Sub.nil _ | (apply Sub.cons; focus ((repeat (first | with_reducible exact Pick.here _ | apply Pick.there)); (first | done | fail))) | with_reducible apply Sub.drop)); first | done | fail) : Sat E w (RO (fun _ => none) :: OwnSl 42 8 (.slice va s.l.length vc) s.l.length cs2 :: eachOf HdOf ps ps :: pt c (.cells [Value.int .i64 (s : Ch).room, (.slice a s.l.length cc), .int .i64 (s : Ch).hits, .int .i64 (s : Ch).misses].toArray 70 (0, 0)) :: OwnSl 42 8 (.slice a s.l.length cc) (s : Ch).l.length cells :: RO g :: L)).freeze_sl (bytes := 96) mono_Ho hels2 hpl (by simp only [reachBytes]; omega)
      refine g_region ?_
      refine rl_v rfl rfl rfl (S := fun _ => True) trivial (v_move rfl) ?_
      refine rl_k rfl (k_callf Try.func39 rfl rfl rfl rfl ?_)
      refine Calls.mono (clip_calls va _ vc hvc hw) ?_
      rintro _ w ⟨rfl, hw⟩
      refine ⟨_, rfl, ?_⟩
      refine rl_v rfl rfl rfl (S := fun _ => True) trivial (v_assign rfl) ?_
      refine rl_nil (g_le (Fr.le_keep (Fr.le_skip rfl (Fr.le_skip rfl (Fr.le_refl _)))) ?_)
      refine g_ret1 Try.func14 rfl rfl ?_
      exact ⟨g3, _, _, _, ps, rfl, rdSl_clip hrd3, hps, hw.sub (by (repeat (first | with_reducible exact Sub.refl _ | exact Sub.nil _ | (apply Sub.cons; focus ((repeat (first | with_reducible exact Pick.here _ | apply Pick.there)); (first | done | fail))) | with_reducible apply Sub.drop)); first | done | fail)⟩
end Go.Proofs.Ytnkddbbcfolcdaa
