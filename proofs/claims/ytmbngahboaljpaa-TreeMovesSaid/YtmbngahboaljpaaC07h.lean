/-
  The search tree over any pages: what comes of a page with a secret taken out.
-/
import Derived.Test.YtmbngahboaljpaaC07g
namespace Go.Proofs.Ytmbngahboaljpaa
set_option maxRecDepth 8000
set_option linter.unusedSimpArgs false
set_option linter.unusedVariables false
open Go Xe
theorem halves_len (x : Nd) : (halvesN x).length = 2 := by unfold halvesN; split <;> rfl
theorem with_mid {x y : Nd} (hx : x.small) (hy : y.small) : (withN x y).mid := ⟨by simp only [withN, List.length_append]; have := hx.1; have := hy.1; omega, by simp only [withN, List.length_append]; have := hx.2.1; have := hy.2.1; omega⟩
/-- What two neighbours become. -/
def evenN (all : Nd) : List Nd := if sizeN all < 4 then [all] else halvesN all
theorem evenN_len (x : Nd) : 1 ≤ (evenN x).length ∧ (evenN x).length ≤ 2 := by
  unfold evenN; split
  · simp
  · rw [halves_len]; omega
theorem even_small {x : Nd} (h : x.mid) (h2 : x.leaf = true → x.kids = []) (h3 : x.leaf = false → x.entries = []) : ∀ y ∈ evenN x, y.small := by
  intro y hy
  unfold evenN at hy
  split at hy
  · rename_i hs
    simp only [List.mem_singleton] at hy
    subst hy
    exact few_small (by omega) h2 h3
  · exact halves_small h y hy
theorem with_proper {x y : Nd} (hx : x.small) (hy : y.small) (hl : y.leaf = x.leaf) : ((withN x y).leaf = true → (withN x y).kids = []) ∧ ((withN x y).leaf = false → (withN x y).entries = []) := by
  obtain ⟨_, _, h1, h2⟩ := hx
  obtain ⟨_, _, h3, h4⟩ := hy
  exact ⟨fun h => by simp only [withN] at h ⊢; rw [h1 h, h3 (hl.trans h)]; rfl, fun h => by simp only [withN] at h ⊢; rw [h2 h, h4 (hl.trans h)]; rfl⟩
theorem levelO_bad {τ : Type} (P : PgOps τ) {k : Nat} {s s1 : τ} {x y z : Nd} {i f : Nat} {bad : Int} (h : atO P k s (x.kids.getD (2 * f + 1 - i) kd0).ref = (z, bad, s1)) (hb : bad ≠ 0) : levelO P k s x i f y = ([], bad, s1) := by
  simp only [levelO, h]; exact if_pos hb
theorem levelO_leaf {τ : Type} (P : PgOps τ) {k : Nat} {s s1 : τ} {x y z : Nd} {i f : Nat} (h : atO P k s (x.kids.getD (2 * f + 1 - i) kd0).ref = (z, 0, s1)) (hl : z.leaf ≠ y.leaf) : levelO P k s x i f y = ([], 70, s1) := by
  simp only [levelO, h]; rw [if_neg (by simp), if_pos hl]
theorem levelO_ok {τ : Type} (P : PgOps τ) {k : Nat} {s s1 : τ} {x y z : Nd} {i f : Nat} (h : atO P k s (x.kids.getD (2 * f + 1 - i) kd0).ref = (z, 0, s1)) (hl : z.leaf = y.leaf) : levelO P k s x i f y = (evenN (if 2 * f + 1 - i < i then withN z y else withN y z), 0, s1) := by
  simp only [levelO, h]; rw [if_neg (by simp), if_neg (by simp [hl])]; rfl
theorem ord_f72_r2_C07h : orderOfB Try.f72 2 [10, 15] (.a 1 (.a 2 (.a 4 (.a 8 (.a 9 (.v 0 (.v 3 (.a 5 (.a 6 (.v 7 (.b2 10 14 (.a 11 (.a 12 (.a 13 (.k 14 (.k 15 (.k 16 .done)))))) (.k 10 (.k 11 (.a 12 (.a 13 (.k 15 (.k 16 .done))))))))))))))))) = true := by kernel_rfl
set_option maxHeartbeats 2000000 in
theorem level_calls {τ : Type} (D : Pg τ) {E : Env} {w : World} {L : List As} {g : Hp} {s : τ} {A : As} {x y : Nd} {ea ka : Option Addr} {en ec kc i f k : Nat} {ycs : List Value} (hy : rdNd g ycs y) (hys : y.small) (hkids : ∀ z ∈ x.kids, z.ok) (hkn : x.kids.length ≤ 1000) (hf1 : f ≤ i) (hf2 : i ≤ f + 1) (hf3 : f + 1 < x.kids.length) (deep : Int) (hd0 : 0 ≤ deep) (hk : deep + 1 + k = 9) (hI : D.I g s A)
    (hw : Sat E w (A :: OwnSl 70 5 (.slice ka x.kids.length kc) x.kids.length (x.kids.flatMap Kd.cells) :: RO g :: L)) :
    Calls Try.prog 72 #[.agg #[.iface D.t D.u], .agg #[.bool x.leaf, .slice ea en ec, .slice ka x.kids.length kc], .int .i64 i, .int .i64 f, .agg ycs.toArray, .int .i64 deep] w fun v w' =>
    ∃ g' A' a c, g.le g' ∧ D.I g' (levelO D.ops k s x i f y).2.2 A' ∧ v = .returned (.tuple #[.slice a (levelO D.ops k s x i f y).1.length c, .int .i64 (levelO D.ops k s x i f y).2.1]) ∧ (rdSl 56 3 rdNd) g' [.slice a (levelO D.ops k s x i f y).1.length c] (levelO D.ops k s x i f y).1 ∧ (∀ z ∈ (levelO D.ops k s x i f y).1, z.small) ∧
      Sat E w' (A' :: OwnSl 70 5 (.slice ka x.kids.length kc) x.kids.length (x.kids.flatMap Kd.cells) :: RO g' :: L) := by
  obtain ⟨ya, yn, yc, za, zn, zc, rfl, hynd⟩ := nd_told hy
  obtain ⟨a9, c9, hv9, _, _, ha9⟩ := (hw.pick .at1).own_shape
  simp only [Value.slice.injEq] at hv9
  obtain ⟨rfl, _, rfl⟩ := hv9
  obtain ⟨gb, rfl⟩ := ha9 (by omega)
  obtain ⟨o, ho⟩ : ∃ o : Nat, o = 2 * f + 1 - i := ⟨_, rfl⟩
  obtain ⟨kd, hkd⟩ : ∃ kd, x.kids[o]? = some kd := ⟨_, List.getElem?_eq_getElem (by omega)⟩
  have hkok := hkids kd (List.mem_of_getElem? hkd)
  have hsub := subAt_flat (f := Kd.cells) (sz := 5) (fun _ => rfl) hkd
  have hsubr : SubAt (x.kids.flatMap Kd.cells) (0 + (o : Int).toNat * 5 + 1) kd.ref.cells := hsub.2
  have hgk : x.kids.getD (2 * f + 1 - i) kd0 = kd := by rw [← ho, List.getD_eq_getElem?_getD, hkd]; rfl
  refine calls_of_g (n := 62) Try.func72 rfl rfl rfl ?_
  change G _ _ _ _ _ [(0, _), (1, _), (2, _), (3, _), (4, _), (5, _)] _
  refine g_seq ?_
  refine g_region ?_
  refine rl_k rfl (k_box hw rfl rfl rfl (fun bk0_0 w hw => ?_))
  refine rl_k rfl (k_box hw rfl rfl rfl (fun bk0_1 w hw => ?_))
  refine rl_k rfl (k_box hw rfl rfl rfl (fun bk0_2 w hw => ?_))
  refine xV rfl rfl rfl (v_assign rfl) ?_
  refine xV rfl rfl rfl (v_assign rfl) ?_
  refine rl_nil (g_le (xK (xK (xK (xK (xK (Fr.le_refl _)))))) ?_)
  refine g_seq ?_
  refine g_region ?_
  refine xV rfl rfl rfl (v_move rfl) ?_
  refine xV rfl rfl rfl (v_mul rfl rfl (by omega)) ?_
  refine xV rfl rfl rfl (v_add rfl rfl (by omega)) ?_
  refine xV rfl rfl rfl (v_move rfl) ?_
  refine xV rfl rfl rfl (v_sub rfl rfl (by omega)) ?_
  refine xV rfl rfl rfl (v_assign rfl) ?_
  refine rl_nil (g_le (xK (xS rfl (xS rfl (xS rfl (xS rfl (xS rfl (Fr.le_refl _))))))) ?_)
  rw [show (2 : Int) * f + 1 - i = (o : Nat) by omega]
  refine g_seq ?_
  have hw := hw.xP (A := A)
  refine g_drawB ord_f72_r2_C07h (by kernel_rfl) T.mixed (fun w hw => (hw.pick .at0).drop) hw (fun w hw => ?_)
  refine rs_a 1 rfl rfl rfl rfl (v_fieldAddr0 T.fld_110_0_0 rfl) ?_
  refine rs_a 2 rfl rfl rfl rfl (v_fieldAddr0 T.fld_32_2_2 rfl) ?_
  refine rs_a 4 rfl rfl rfl rfl (v_move rfl) ?_
  refine rs_a 8 rfl rfl rfl rfl (v_move rfl) ?_
  refine rs_a 9 rfl rfl rfl rfl (v_add rfl rfl (by omega)) ?_
  refine rs_v 0 rfl rfl rfl rfl (OpV.mono (v_loadAgg (vs := [_]) T.agg_102_1 rfl rfl) (fun w hw => by exact sat_cells hw (by (repeat first | with_reducible exact xH | apply xT); first | done | fail) ⟨rfl, trivial⟩)) (by exact Sat.sub hw (by (repeat (first | with_reducible exact Sub.refl _ | exact Sub.nil _ | (apply Sub.cons; focus ((repeat (first | with_reducible exact Pick.here _ | apply Pick.there)); (first | done | fail))) | with_reducible apply Sub.drop)); first | done | fail)) ?_
  refine rs_v 3 rfl rfl rfl rfl (OpV.mono (v_load T.scal_30 rfl) (fun w hw => by exact sat_cell hw (by (repeat first | with_reducible exact xH | apply xT); first | done | fail) rfl)) (by exact Sat.sub hw (by (repeat (first | with_reducible exact Sub.refl _ | exact Sub.nil _ | (apply Sub.cons; focus ((repeat (first | with_reducible exact Pick.here _ | apply Pick.there)); (first | done | fail))) | with_reducible apply Sub.drop)); first | done | fail)) ?_
  refine rs_a 5 rfl rfl rfl rfl (v_indexAddr T.sl_30_70_5 rfl rfl (by omega) (by omega)) ?_
  refine rs_a 6 rfl rfl rfl rfl (v_fieldAddr T.fld_70_1_1 rfl) ?_
  refine rs_v 7 rfl rfl rfl rfl (OpV.mono (v_loadAgg (vs := [_, _, _, _]) T.agg_25_4 rfl rfl) (fun w hw => by exact own_cells hw (by (repeat first | with_reducible exact xH | apply xT); first | done | fail) (by assumption))) (by exact Sat.sub hw (by (repeat (first | with_reducible exact Sub.refl _ | exact Sub.nil _ | (apply Sub.cons; focus ((repeat (first | with_reducible exact Pick.here _ | apply Pick.there)); (first | done | fail))) | with_reducible apply Sub.drop)); first | done | fail)) ?_
  refine rs_b2 10 14 rfl rfl rfl rfl ?_ ?_ 
  · skip
    refine (k_callf Try.func46 rfl rfl rfl rfl ?_)
    refine Calls.mono (at_calls D kd.ref hkok.2 k (deep + 1) (by omega) hI (hw.xQ)) ?_
    generalize hq : atO D.ops k s kd.ref = q
    obtain ⟨z, bad, s1⟩ := q
    dsimp only
    rintro _ w ⟨g1, A1, ua, uc, va, vc, cells, hg1, hI1, rfl, hels, hfine, hsm, hw⟩
    refine ⟨_, rfl, ?_⟩
    refine ⟨fun hn => absurd (by decide) hn, ?_⟩
    refine rs_a 11 rfl rfl rfl rfl (v_move rfl) ?_
    refine rs_a 12 rfl rfl rfl rfl (v_extract rfl rfl) ?_
    refine rs_a 13 rfl rfl rfl rfl (v_extract rfl rfl) ?_
    refine rs_k 14 rfl rfl (k_alloc hw T.zero_110 rfl rfl (fun bk2_14 w hw => ?_))
    refine ⟨fun _ => (by exact Sat.sub (Sat.shrink (Sat.pick hw (by (repeat first | with_reducible exact xH | apply xT); first | done | fail)) (by assumption)) (by (repeat (first | with_reducible exact Sub.refl _ | exact Sub.nil _ | (apply Sub.cons; focus ((repeat (first | with_reducible exact Pick.here _ | apply Pick.there)); (first | done | fail))) | with_reducible apply Sub.drop)); first | done | fail)), ?_⟩
    refine rs_k 15 rfl rfl (k_storeWhole hw T.agg_110_3 rfl rfl (by simp [Value.oneCell']) rfl (by (repeat first | with_reducible exact xH | apply xT); first | done | fail) rfl (fun w hw => ?_))
    refine ⟨fun hn => absurd (by decide) hn, ?_⟩
    refine rs_kv 16 rfl rfl rfl rfl (S' := fun _ => True) trivial (v_assign rfl) ?_
    refine rs_done (g_le (xK (xK (xS rfl (xS rfl (xS rfl (xS rfl (xS rfl (xS rfl (xS rfl (xS rfl (xS rfl (xS rfl (xS rfl (xS rfl (xS rfl (xS rfl (Fr.le_refl _))))))))))))))))) ?_)
    refine g_seq (g_seq ?_)
    refine g_region ?_
    refine xV rfl rfl rfl (v_move rfl) ?_
    refine xV rfl rfl rfl (v_neq rfl rfl) ?_
    refine rl_nil (g_le (xK (xS rfl (Fr.le_refl _))) ?_)
    refine g_cond rfl (fun h1 => ?_) (fun h1 => ?_)
    · try with_reducible exact ft_elim h1
      all_goals
        try replace h1 := of_decide_eq_true h1
        refine g_seq ?_
        refine g_region ?_
        refine xV rfl rfl rfl (v_move rfl) ?_
        refine xV rfl rfl rfl (v_assign rfl) ?_
        refine xV rfl rfl rfl (v_assign rfl) ?_
        refine rl_nil (g_le (xK (xK (xS rfl (Fr.le_refl _)))) ?_)
        refine g_ret2 Try.func72 rfl rfl rfl ?_
        rw [levelO_bad D.ops (hgk ▸ hq) h1]
        exact ⟨g1, A1, none, 0, hg1, hI1, rfl, rdSl_nil _, by simp, hw.xQ⟩
    · try with_reducible exact tf_elim h1
      all_goals
        try replace h1 := of_decide_eq_false h1
        obtain rfl : bad = 0 := by omega
        refine g_skip (g_seq (g_seq ?_))
        refine g_region ?_
        refine xV rfl rfl rfl (v_fieldAddr0 T.fld_110_0_0 rfl) ?_
        refine xV rfl rfl rfl (v_fieldAddr0 T.fld_32_0_0 rfl) ?_
        refine rl_v rfl rfl rfl (by exact sat_cell hw (by (repeat first | with_reducible exact xH | apply xT); first | done | fail) rfl) (v_load T.scal_4 rfl) ?_
        refine xV rfl rfl rfl (v_fieldAddr0 T.fld_110_0_0 rfl) ?_
        refine xV rfl rfl rfl (v_fieldAddr0 T.fld_32_0_0 rfl) ?_
        refine rl_v rfl rfl rfl (by exact sat_cell hw (by (repeat first | with_reducible exact xH | apply xT); first | done | fail) rfl) (v_load T.scal_4 rfl) ?_
        refine xV rfl rfl rfl (v_neqBool T.bool_4 rfl rfl) ?_
        refine rl_nil (g_le (xK (xS rfl (xS rfl (xS rfl (xS rfl (xS rfl (xS rfl (Fr.le_refl _)))))))) ?_)
        refine g_cond rfl (fun h2 => ?_) (fun h2 => ?_)
        · try with_reducible exact ft_elim h2
          all_goals
            try replace h2 := of_decide_eq_true h2
            refine g_seq ?_
            refine g_region ?_
            refine xV rfl rfl rfl (v_assign rfl) ?_
            refine xV rfl rfl rfl (v_assign rfl) ?_
            refine rl_nil (g_le (xK (xK (Fr.le_refl _))) ?_)
            refine g_ret2 Try.func72 rfl rfl rfl ?_
            rw [levelO_leaf D.ops (hgk ▸ hq) (by simpa using h2)]
            exact ⟨g1, A1, none, 0, hg1, hI1, rfl, rdSl_nil _, by simp, hw.xQ⟩
        · try with_reducible exact tf_elim h2
          all_goals
            try replace h2 := of_decide_eq_false h2
            have hzl : z.leaf = y.leaf := by simpa using h2
            have hle := levelO_ok D.ops (i := i) (hgk ▸ hq) hzl
            rw [← ho] at hle
            obtain ⟨g2, hg2, hznd, hw⟩ := nd_stands hels hfine.2.2.1 hsm.mid (hw.xQ : Sat E w (RO g1 :: OwnSl 49 2 (.slice ua z.entries.length uc) z.entries.length cells :: OwnSl 70 5 (.slice va z.kids.length vc) z.kids.length (z.kids.flatMap Kd.cells) :: A1 :: pt bk2_14 (.cells [.bool z.leaf, .slice ua z.entries.length uc, .slice va z.kids.length vc].toArray 110 (0, 0)) :: pt bk0_2 (.cells [.bool y.leaf, .slice ya yn yc, .slice za zn zc].toArray 110 (0, 0)) :: OwnSl 70 5 (.slice (some ⟨gb, 0, none⟩) x.kids.length kc) x.kids.length (x.kids.flatMap Kd.cells) :: L))
            have hynd2 := mono_Nd (hg1.trans hg2) hynd
            refine g_skip (g_seq (g_seq ?_))
            refine g_region ?_
            refine xV rfl rfl rfl (v_move rfl) ?_
            refine xV rfl rfl rfl (v_move rfl) ?_
            refine xV rfl rfl rfl (v_lss rfl rfl) ?_
            refine rl_nil (g_le (xK (xS rfl (xS rfl (Fr.le_refl _)))) ?_)
            refine g_cond rfl (fun h3 => ?_) (fun h3 => ?_)
            · try with_reducible exact ft_elim h3
              all_goals
                try replace h3 := of_decide_eq_true h3
                rw [if_pos (by omega)] at hle
                obtain ⟨all, hall⟩ : ∃ all, all = withN z y := ⟨_, rfl⟩
                have hwc := fun {E : Env} {w : World} {L : List As} (hw : Sat E w (RO g2 :: L)) => with_calls hznd hynd2 hsm hys hw
                have hwm : all.mid := hall ▸ with_mid hsm hys
                have hwp : (all.leaf = true → all.kids = []) ∧ (all.leaf = false → all.entries = []) := hall ▸ with_proper hsm hys hzl.symm
                rw [← hall] at hle
                refine g_region ?_
                refine rl_v rfl rfl rfl (by exact sat_cells hw (by (repeat first | with_reducible exact xH | apply xT); first | done | fail) ⟨rfl, rfl, rfl, trivial⟩) (v_loadAgg (vs := [_, _, _]) T.agg_110_3 rfl rfl) ?_
                refine rl_v rfl rfl rfl (by exact sat_cells hw (by (repeat first | with_reducible exact xH | apply xT); first | done | fail) ⟨rfl, rfl, rfl, trivial⟩) (v_loadAgg (vs := [_, _, _]) T.agg_110_3 rfl rfl) ?_
                refine rl_k rfl (k_storeWhole hw T.agg_110_3 rfl rfl (by simp [Value.oneCell']) rfl (by (repeat first | with_reducible exact xH | apply xT); first | done | fail) rfl (fun w hw => ?_))
                refine rl_k rfl (k_storeWhole hw T.agg_110_3 rfl rfl (by simp [Value.oneCell']) rfl (by (repeat first | with_reducible exact xH | apply xT); first | done | fail) rfl (fun w hw => ?_))
                refine rl_nil (g_le (xS rfl (xS rfl (Fr.le_refl _))) ?_)
                refine g_seq ?_
                refine g_region ?_
                refine rl_v rfl rfl rfl (by exact sat_cells hw (by (repeat first | with_reducible exact xH | apply xT); first | done | fail) ⟨rfl, rfl, rfl, trivial⟩) (v_loadAgg (vs := [_, _, _]) T.agg_110_3 rfl rfl) ?_
                refine rl_v rfl rfl rfl (by exact sat_cells hw (by (repeat first | with_reducible exact xH | apply xT); first | done | fail) ⟨rfl, rfl, rfl, trivial⟩) (v_loadAgg (vs := [_, _, _]) T.agg_110_3 rfl rfl) ?_
                refine rl_k rfl (k_callf Try.func89 rfl rfl rfl rfl ?_)
                refine Calls.mono (hwc (hw.xQ)) ?_
                rw [← hall]
                rintro _ w ⟨ev, kv, wcells, rfl, wels, wkok, hw⟩
                obtain ⟨wa, wc, rfl, _, _, _⟩ := hw.own_shape
                obtain ⟨xa, xc, rfl, _, _, _⟩ := (hw.pick .at1).own_shape
                refine ⟨_, rfl, ?_⟩
                refine rl_k rfl (k_alloc hw T.zero_110 rfl rfl (fun bk9_3 w hw => ?_))
                refine rl_k rfl (k_storeWhole hw T.agg_110_3 rfl rfl (by simp [Value.oneCell']) rfl (by (repeat first | with_reducible exact xH | apply xT); first | done | fail) rfl (fun w hw => ?_))
                refine rl_nil (g_le (xK (xS rfl (xS rfl (xS rfl (Fr.le_refl _))))) ?_)
                refine g_seq (g_seq ?_)
                obtain ⟨g4, hg4, hnd4, hw⟩ := nd_stands wels wkok hwm (hw.xQ : Sat E w (RO g2 :: OwnSl 49 2 (.slice wa all.entries.length wc) all.entries.length wcells :: OwnSl 70 5 (.slice xa all.kids.length xc) all.kids.length (all.kids.flatMap Kd.cells) :: A1 :: pt bk9_3 (.cells [.bool all.leaf, .slice wa all.entries.length wc, .slice xa all.kids.length xc].toArray 110 (0, 0)) :: OwnSl 70 5 (.slice (some ⟨gb, 0, none⟩) x.kids.length kc) x.kids.length (x.kids.flatMap Kd.cells) :: L))
                have hss := even_small hwm hwp.1 hwp.2
                refine g_region ?_
                refine rl_v rfl rfl rfl (by exact sat_cells hw (by (repeat first | with_reducible exact xH | apply xT); first | done | fail) ⟨rfl, rfl, rfl, trivial⟩) (v_loadAgg (vs := [_, _, _]) T.agg_110_3 rfl rfl) ?_
                refine rl_k rfl (k_callf Try.func65 rfl rfl rfl rfl ?_)
                refine Calls.mono (size_calls all.leaf wa xa _ wc _ xc hw) ?_
                rw [show (if all.leaf = true then all.entries.length else all.kids.length) = sizeN all from rfl]
                rintro _ w ⟨rfl, hw⟩
                refine ⟨_, rfl, ?_⟩
                refine xV rfl rfl rfl (v_lss rfl rfl) ?_
                refine rl_nil (g_le (xK (xS rfl (xS rfl (Fr.le_refl _)))) ?_)
                refine g_cond rfl (fun h4 => ?_) (fun h4 => ?_)
                · try with_reducible exact ft_elim h4
                  all_goals
                    try replace h4 := of_decide_eq_true h4
                    refine g_seq ?_
                    refine g_region ?_
                    refine rl_v rfl rfl rfl (by exact sat_cells hw (by (repeat first | with_reducible exact xH | apply xT); first | done | fail) ⟨rfl, rfl, rfl, trivial⟩) (v_loadAgg (vs := [_, _, _]) T.agg_110_3 rfl rfl) ?_
                    refine rl_k rfl (k_buildSlice (cells := [_, _, _]) hw T.sl_103_110_3 T.zero_110 rfl rfl rfl rfl rfl rfl (fun bk11_1 w hw => ?_))
                    refine xV rfl rfl rfl (v_assign rfl) ?_
                    refine xV rfl rfl rfl (v_assign rfl) ?_
                    refine rl_nil (g_le (xK (xK (xS rfl (xS rfl (Fr.le_refl _))))) ?_)
                    refine g_ret2 Try.func72 rfl rfl rfl ?_
                    have e9 : evenN (all) = [all] := if_pos (by omega)
                    obtain ⟨g5, hg5, hrd, hw⟩ := (hw.xQ : Sat E w (RO g4 :: pt bk11_1 (.cells [.bool (all).leaf, .slice wa (all).entries.length wc, .slice xa (all).kids.length xc].toArray 110 (0, 0)) :: A1 :: OwnSl 70 5 (.slice (some ⟨gb, 0, none⟩) x.kids.length kc) x.kids.length (x.kids.flatMap Kd.cells) :: L)).freeze_lit (R := rdNd) (sz := 3) (bytes := 56) mono_Nd (Els.one rfl hnd4) rfl (by simp [maxLen]) (by simp [reachBytes])
                    rw [e9] at hle hss
                    rw [hle]
                    exact ⟨g5, A1, _, _, ((hg1.trans hg2).trans hg4).trans hg5, D.mono ((hg2.trans hg4).trans hg5) hI1, rfl, hrd, hss, hw.xQ⟩
                · try with_reducible exact tf_elim h4
                  all_goals
                    try replace h4 := of_decide_eq_false h4
                    refine g_skip (g_seq ?_)
                    refine g_region ?_
                    refine rl_v rfl rfl rfl (by exact sat_cells hw (by (repeat first | with_reducible exact xH | apply xT); first | done | fail) ⟨rfl, rfl, rfl, trivial⟩) (v_loadAgg (vs := [_, _, _]) T.agg_110_3 rfl rfl) ?_
                    refine rl_k rfl (k_callf Try.func66 rfl rfl rfl rfl ?_)
                    refine Calls.mono (halves_calls hnd4 hwm (hw.xQ)) ?_
                    rintro _ w ⟨g5, ha, hc, hg5, rfl, hrd, hw⟩
                    refine ⟨_, rfl, ?_⟩
                    refine xV rfl rfl rfl (v_assign rfl) ?_
                    refine xV rfl rfl rfl (v_assign rfl) ?_
                    refine rl_nil (g_le (xK (xK (xS rfl (xS rfl (Fr.le_refl _))))) ?_)
                    refine g_ret2 Try.func72 rfl rfl rfl ?_
                    have e9 : evenN all = halvesN all := if_neg (by omega)
                    have e8 := halves_len all
                    rw [e9] at hle hss
                    rw [hle]
                    dsimp only
                    rw [e8]
                    exact ⟨g5, A1, ha, hc, ((hg1.trans hg2).trans hg4).trans hg5, D.mono ((hg2.trans hg4).trans hg5) hI1, rfl, hrd, hss, hw.xQ⟩
            · try with_reducible exact tf_elim h3
              all_goals
                try replace h3 := of_decide_eq_false h3
                rw [if_neg (by omega)] at hle
                obtain ⟨all, hall⟩ : ∃ all, all = withN y z := ⟨_, rfl⟩
                have hwc := fun {E : Env} {w : World} {L : List As} (hw : Sat E w (RO g2 :: L)) => with_calls hynd2 hznd hys hsm hw
                have hwm : all.mid := hall ▸ with_mid hys hsm
                have hwp : (all.leaf = true → all.kids = []) ∧ (all.leaf = false → all.entries = []) := hall ▸ with_proper hys hsm hzl
                rw [← hall] at hle
                refine g_skip (g_seq ?_)
                refine g_region ?_
                refine rl_v rfl rfl rfl (by exact sat_cells hw (by (repeat first | with_reducible exact xH | apply xT); first | done | fail) ⟨rfl, rfl, rfl, trivial⟩) (v_loadAgg (vs := [_, _, _]) T.agg_110_3 rfl rfl) ?_
                refine rl_v rfl rfl rfl (by exact sat_cells hw (by (repeat first | with_reducible exact xH | apply xT); first | done | fail) ⟨rfl, rfl, rfl, trivial⟩) (v_loadAgg (vs := [_, _, _]) T.agg_110_3 rfl rfl) ?_
                refine rl_k rfl (k_callf Try.func89 rfl rfl rfl rfl ?_)
                refine Calls.mono (hwc (hw.xQ)) ?_
                rw [← hall]
                rintro _ w ⟨ev, kv, wcells, rfl, wels, wkok, hw⟩
                obtain ⟨wa, wc, rfl, _, _, _⟩ := hw.own_shape
                obtain ⟨xa, xc, rfl, _, _, _⟩ := (hw.pick .at1).own_shape
                refine ⟨_, rfl, ?_⟩
                refine rl_k rfl (k_alloc hw T.zero_110 rfl rfl (fun bk9_3 w hw => ?_))
                refine rl_k rfl (k_storeWhole hw T.agg_110_3 rfl rfl (by simp [Value.oneCell']) rfl (by (repeat first | with_reducible exact xH | apply xT); first | done | fail) rfl (fun w hw => ?_))
                refine rl_nil (g_le (xK (xS rfl (xS rfl (xS rfl (Fr.le_refl _))))) ?_)
                refine g_seq (g_seq ?_)
                obtain ⟨g4, hg4, hnd4, hw⟩ := nd_stands wels wkok hwm (hw.xQ : Sat E w (RO g2 :: OwnSl 49 2 (.slice wa all.entries.length wc) all.entries.length wcells :: OwnSl 70 5 (.slice xa all.kids.length xc) all.kids.length (all.kids.flatMap Kd.cells) :: A1 :: pt bk9_3 (.cells [.bool all.leaf, .slice wa all.entries.length wc, .slice xa all.kids.length xc].toArray 110 (0, 0)) :: OwnSl 70 5 (.slice (some ⟨gb, 0, none⟩) x.kids.length kc) x.kids.length (x.kids.flatMap Kd.cells) :: L))
                have hss := even_small hwm hwp.1 hwp.2
                refine g_region ?_
                refine rl_v rfl rfl rfl (by exact sat_cells hw (by (repeat first | with_reducible exact xH | apply xT); first | done | fail) ⟨rfl, rfl, rfl, trivial⟩) (v_loadAgg (vs := [_, _, _]) T.agg_110_3 rfl rfl) ?_
                refine rl_k rfl (k_callf Try.func65 rfl rfl rfl rfl ?_)
                refine Calls.mono (size_calls all.leaf wa xa _ wc _ xc hw) ?_
                rw [show (if all.leaf = true then all.entries.length else all.kids.length) = sizeN all from rfl]
                rintro _ w ⟨rfl, hw⟩
                refine ⟨_, rfl, ?_⟩
                refine xV rfl rfl rfl (v_lss rfl rfl) ?_
                refine rl_nil (g_le (xK (xS rfl (xS rfl (Fr.le_refl _)))) ?_)
                refine g_cond rfl (fun h4 => ?_) (fun h4 => ?_)
                · try with_reducible exact ft_elim h4
                  all_goals
                    try replace h4 := of_decide_eq_true h4
                    refine g_seq ?_
                    refine g_region ?_
                    refine rl_v rfl rfl rfl (by exact sat_cells hw (by (repeat first | with_reducible exact xH | apply xT); first | done | fail) ⟨rfl, rfl, rfl, trivial⟩) (v_loadAgg (vs := [_, _, _]) T.agg_110_3 rfl rfl) ?_
                    refine rl_k rfl (k_buildSlice (cells := [_, _, _]) hw T.sl_103_110_3 T.zero_110 rfl rfl rfl rfl rfl rfl (fun bk11_1 w hw => ?_))
                    refine xV rfl rfl rfl (v_assign rfl) ?_
                    refine xV rfl rfl rfl (v_assign rfl) ?_
                    refine rl_nil (g_le (xK (xK (xS rfl (xS rfl (Fr.le_refl _))))) ?_)
                    refine g_ret2 Try.func72 rfl rfl rfl ?_
                    have e9 : evenN (all) = [all] := if_pos (by omega)
                    obtain ⟨g5, hg5, hrd, hw⟩ := (hw.xQ : Sat E w (RO g4 :: pt bk11_1 (.cells [.bool (all).leaf, .slice wa (all).entries.length wc, .slice xa (all).kids.length xc].toArray 110 (0, 0)) :: A1 :: OwnSl 70 5 (.slice (some ⟨gb, 0, none⟩) x.kids.length kc) x.kids.length (x.kids.flatMap Kd.cells) :: L)).freeze_lit (R := rdNd) (sz := 3) (bytes := 56) mono_Nd (Els.one rfl hnd4) rfl (by simp [maxLen]) (by simp [reachBytes])
                    rw [e9] at hle hss
                    rw [hle]
                    exact ⟨g5, A1, _, _, ((hg1.trans hg2).trans hg4).trans hg5, D.mono ((hg2.trans hg4).trans hg5) hI1, rfl, hrd, hss, hw.xQ⟩
                · try with_reducible exact tf_elim h4
                  all_goals
                    try replace h4 := of_decide_eq_false h4
                    refine g_skip (g_seq ?_)
                    refine g_region ?_
                    refine rl_v rfl rfl rfl (by exact sat_cells hw (by (repeat first | with_reducible exact xH | apply xT); first | done | fail) ⟨rfl, rfl, rfl, trivial⟩) (v_loadAgg (vs := [_, _, _]) T.agg_110_3 rfl rfl) ?_
                    refine rl_k rfl (k_callf Try.func66 rfl rfl rfl rfl ?_)
                    refine Calls.mono (halves_calls hnd4 hwm (hw.xQ)) ?_
                    rintro _ w ⟨g5, ha, hc, hg5, rfl, hrd, hw⟩
                    refine ⟨_, rfl, ?_⟩
                    refine xV rfl rfl rfl (v_assign rfl) ?_
                    refine xV rfl rfl rfl (v_assign rfl) ?_
                    refine rl_nil (g_le (xK (xK (xS rfl (xS rfl (Fr.le_refl _))))) ?_)
                    refine g_ret2 Try.func72 rfl rfl rfl ?_
                    have e9 : evenN all = halvesN all := if_neg (by omega)
                    have e8 := halves_len all
                    rw [e9] at hle hss
                    rw [hle]
                    dsimp only
                    rw [e8]
                    exact ⟨g5, A1, ha, hc, ((hg1.trans hg2).trans hg4).trans hg5, D.mono ((hg2.trans hg4).trans hg5) hI1, rfl, hrd, hss, hw.xQ⟩
  · skip
    refine (k_alloc hw T.zero_110 rfl rfl (fun bk2_14 w hw => ?_))
    refine ⟨fun _ => (by exact Sat.sub hw (by (repeat (first | with_reducible exact Sub.refl _ | exact Sub.nil _ | (apply Sub.cons; focus ((repeat (first | with_reducible exact Pick.here _ | apply Pick.there)); (first | done | fail))) | with_reducible apply Sub.drop)); first | done | fail)), ?_⟩
    refine rs_k 10 rfl rfl (k_callf Try.func46 rfl rfl rfl rfl ?_)
    refine Calls.mono (at_calls D kd.ref hkok.2 k (deep + 1) (by omega) hI (hw.xQ)) ?_
    generalize hq : atO D.ops k s kd.ref = q
    obtain ⟨z, bad, s1⟩ := q
    dsimp only
    rintro _ w ⟨g1, A1, ua, uc, va, vc, cells, hg1, hI1, rfl, hels, hfine, hsm, hw⟩
    refine ⟨_, rfl, ?_⟩
    refine ⟨fun hn => absurd (by decide) hn, ?_⟩
    refine rs_kv 11 rfl rfl rfl rfl (S' := fun _ => True) trivial (v_move rfl) ?_
    refine rs_a 12 rfl rfl rfl rfl (v_extract rfl rfl) ?_
    refine rs_a 13 rfl rfl rfl rfl (v_extract rfl rfl) ?_
    refine rs_k 15 rfl rfl (k_storeWhole hw T.agg_110_3 rfl rfl (by simp [Value.oneCell']) rfl (by (repeat first | with_reducible exact xH | apply xT); first | done | fail) rfl (fun w hw => ?_))
    refine ⟨fun hn => absurd (by decide) hn, ?_⟩
    refine rs_kv 16 rfl rfl rfl rfl (S' := fun _ => True) trivial (v_assign rfl) ?_
    refine rs_done (g_le (xK (xS rfl (xS rfl (xS rfl (xS rfl (xK (xS rfl (xS rfl (xS rfl (xS rfl (xS rfl (xS rfl (xS rfl (xS rfl (xS rfl (xS rfl (Fr.le_refl _))))))))))))))))) ?_)
    refine g_seq (g_seq ?_)
    refine g_region ?_
    refine xV rfl rfl rfl (v_move rfl) ?_
    refine xV rfl rfl rfl (v_neq rfl rfl) ?_
    refine rl_nil (g_le (xK (xS rfl (Fr.le_refl _))) ?_)
    refine g_cond rfl (fun h1 => ?_) (fun h1 => ?_)
    · try with_reducible exact ft_elim h1
      all_goals
        try replace h1 := of_decide_eq_true h1
        refine g_seq ?_
        refine g_region ?_
        refine xV rfl rfl rfl (v_move rfl) ?_
        refine xV rfl rfl rfl (v_assign rfl) ?_
        refine xV rfl rfl rfl (v_assign rfl) ?_
        refine rl_nil (g_le (xK (xK (xS rfl (Fr.le_refl _)))) ?_)
        refine g_ret2 Try.func72 rfl rfl rfl ?_
        rw [levelO_bad D.ops (hgk ▸ hq) h1]
        exact ⟨g1, A1, none, 0, hg1, hI1, rfl, rdSl_nil _, by simp, hw.xQ⟩
    · try with_reducible exact tf_elim h1
      all_goals
        try replace h1 := of_decide_eq_false h1
        obtain rfl : bad = 0 := by omega
        refine g_skip (g_seq (g_seq ?_))
        refine g_region ?_
        refine xV rfl rfl rfl (v_fieldAddr0 T.fld_110_0_0 rfl) ?_
        refine xV rfl rfl rfl (v_fieldAddr0 T.fld_32_0_0 rfl) ?_
        refine rl_v rfl rfl rfl (by exact sat_cell hw (by (repeat first | with_reducible exact xH | apply xT); first | done | fail) rfl) (v_load T.scal_4 rfl) ?_
        refine xV rfl rfl rfl (v_fieldAddr0 T.fld_110_0_0 rfl) ?_
        refine xV rfl rfl rfl (v_fieldAddr0 T.fld_32_0_0 rfl) ?_
        refine rl_v rfl rfl rfl (by exact sat_cell hw (by (repeat first | with_reducible exact xH | apply xT); first | done | fail) rfl) (v_load T.scal_4 rfl) ?_
        refine xV rfl rfl rfl (v_neqBool T.bool_4 rfl rfl) ?_
        refine rl_nil (g_le (xK (xS rfl (xS rfl (xS rfl (xS rfl (xS rfl (xS rfl (Fr.le_refl _)))))))) ?_)
        refine g_cond rfl (fun h2 => ?_) (fun h2 => ?_)
        · try with_reducible exact ft_elim h2
          all_goals
            try replace h2 := of_decide_eq_true h2
            refine g_seq ?_
            refine g_region ?_
            refine xV rfl rfl rfl (v_assign rfl) ?_
            refine xV rfl rfl rfl (v_assign rfl) ?_
            refine rl_nil (g_le (xK (xK (Fr.le_refl _))) ?_)
            refine g_ret2 Try.func72 rfl rfl rfl ?_
            rw [levelO_leaf D.ops (hgk ▸ hq) (by simpa using h2)]
            exact ⟨g1, A1, none, 0, hg1, hI1, rfl, rdSl_nil _, by simp, hw.xQ⟩
        · try with_reducible exact tf_elim h2
          all_goals
            try replace h2 := of_decide_eq_false h2
            have hzl : z.leaf = y.leaf := by simpa using h2
            have hle := levelO_ok D.ops (i := i) (hgk ▸ hq) hzl
            rw [← ho] at hle
            obtain ⟨g2, hg2, hznd, hw⟩ := nd_stands hels hfine.2.2.1 hsm.mid (hw.xQ : Sat E w (RO g1 :: OwnSl 49 2 (.slice ua z.entries.length uc) z.entries.length cells :: OwnSl 70 5 (.slice va z.kids.length vc) z.kids.length (z.kids.flatMap Kd.cells) :: A1 :: pt bk2_14 (.cells [.bool z.leaf, .slice ua z.entries.length uc, .slice va z.kids.length vc].toArray 110 (0, 0)) :: pt bk0_2 (.cells [.bool y.leaf, .slice ya yn yc, .slice za zn zc].toArray 110 (0, 0)) :: OwnSl 70 5 (.slice (some ⟨gb, 0, none⟩) x.kids.length kc) x.kids.length (x.kids.flatMap Kd.cells) :: L))
            have hynd2 := mono_Nd (hg1.trans hg2) hynd
            refine g_skip (g_seq (g_seq ?_))
            refine g_region ?_
            refine xV rfl rfl rfl (v_move rfl) ?_
            refine xV rfl rfl rfl (v_move rfl) ?_
            refine xV rfl rfl rfl (v_lss rfl rfl) ?_
            refine rl_nil (g_le (xK (xS rfl (xS rfl (Fr.le_refl _)))) ?_)
            refine g_cond rfl (fun h3 => ?_) (fun h3 => ?_)
            · try with_reducible exact ft_elim h3
              all_goals
                try replace h3 := of_decide_eq_true h3
                rw [if_pos (by omega)] at hle
                obtain ⟨all, hall⟩ : ∃ all, all = withN z y := ⟨_, rfl⟩
                have hwc := fun {E : Env} {w : World} {L : List As} (hw : Sat E w (RO g2 :: L)) => with_calls hznd hynd2 hsm hys hw
                have hwm : all.mid := hall ▸ with_mid hsm hys
                have hwp : (all.leaf = true → all.kids = []) ∧ (all.leaf = false → all.entries = []) := hall ▸ with_proper hsm hys hzl.symm
                rw [← hall] at hle
                refine g_region ?_
                refine rl_v rfl rfl rfl (by exact sat_cells hw (by (repeat first | with_reducible exact xH | apply xT); first | done | fail) ⟨rfl, rfl, rfl, trivial⟩) (v_loadAgg (vs := [_, _, _]) T.agg_110_3 rfl rfl) ?_
                refine rl_v rfl rfl rfl (by exact sat_cells hw (by (repeat first | with_reducible exact xH | apply xT); first | done | fail) ⟨rfl, rfl, rfl, trivial⟩) (v_loadAgg (vs := [_, _, _]) T.agg_110_3 rfl rfl) ?_
                refine rl_k rfl (k_storeWhole hw T.agg_110_3 rfl rfl (by simp [Value.oneCell']) rfl (by (repeat first | with_reducible exact xH | apply xT); first | done | fail) rfl (fun w hw => ?_))
                refine rl_k rfl (k_storeWhole hw T.agg_110_3 rfl rfl (by simp [Value.oneCell']) rfl (by (repeat first | with_reducible exact xH | apply xT); first | done | fail) rfl (fun w hw => ?_))
                refine rl_nil (g_le (xS rfl (xS rfl (Fr.le_refl _))) ?_)
                refine g_seq ?_
                refine g_region ?_
                refine rl_v rfl rfl rfl (by exact sat_cells hw (by (repeat first | with_reducible exact xH | apply xT); first | done | fail) ⟨rfl, rfl, rfl, trivial⟩) (v_loadAgg (vs := [_, _, _]) T.agg_110_3 rfl rfl) ?_
                refine rl_v rfl rfl rfl (by exact sat_cells hw (by (repeat first | with_reducible exact xH | apply xT); first | done | fail) ⟨rfl, rfl, rfl, trivial⟩) (v_loadAgg (vs := [_, _, _]) T.agg_110_3 rfl rfl) ?_
                refine rl_k rfl (k_callf Try.func89 rfl rfl rfl rfl ?_)
                refine Calls.mono (hwc (hw.xQ)) ?_
                rw [← hall]
                rintro _ w ⟨ev, kv, wcells, rfl, wels, wkok, hw⟩
                obtain ⟨wa, wc, rfl, _, _, _⟩ := hw.own_shape
                obtain ⟨xa, xc, rfl, _, _, _⟩ := (hw.pick .at1).own_shape
                refine ⟨_, rfl, ?_⟩
                refine rl_k rfl (k_alloc hw T.zero_110 rfl rfl (fun bk9_3 w hw => ?_))
                refine rl_k rfl (k_storeWhole hw T.agg_110_3 rfl rfl (by simp [Value.oneCell']) rfl (by (repeat first | with_reducible exact xH | apply xT); first | done | fail) rfl (fun w hw => ?_))
                refine rl_nil (g_le (xK (xS rfl (xS rfl (xS rfl (Fr.le_refl _))))) ?_)
                refine g_seq (g_seq ?_)
                obtain ⟨g4, hg4, hnd4, hw⟩ := nd_stands wels wkok hwm (hw.xQ : Sat E w (RO g2 :: OwnSl 49 2 (.slice wa all.entries.length wc) all.entries.length wcells :: OwnSl 70 5 (.slice xa all.kids.length xc) all.kids.length (all.kids.flatMap Kd.cells) :: A1 :: pt bk9_3 (.cells [.bool all.leaf, .slice wa all.entries.length wc, .slice xa all.kids.length xc].toArray 110 (0, 0)) :: OwnSl 70 5 (.slice (some ⟨gb, 0, none⟩) x.kids.length kc) x.kids.length (x.kids.flatMap Kd.cells) :: L))
                have hss := even_small hwm hwp.1 hwp.2
                refine g_region ?_
                refine rl_v rfl rfl rfl (by exact sat_cells hw (by (repeat first | with_reducible exact xH | apply xT); first | done | fail) ⟨rfl, rfl, rfl, trivial⟩) (v_loadAgg (vs := [_, _, _]) T.agg_110_3 rfl rfl) ?_
                refine rl_k rfl (k_callf Try.func65 rfl rfl rfl rfl ?_)
                refine Calls.mono (size_calls all.leaf wa xa _ wc _ xc hw) ?_
                rw [show (if all.leaf = true then all.entries.length else all.kids.length) = sizeN all from rfl]
                rintro _ w ⟨rfl, hw⟩
                refine ⟨_, rfl, ?_⟩
                refine xV rfl rfl rfl (v_lss rfl rfl) ?_
                refine rl_nil (g_le (xK (xS rfl (xS rfl (Fr.le_refl _)))) ?_)
                refine g_cond rfl (fun h4 => ?_) (fun h4 => ?_)
                · try with_reducible exact ft_elim h4
                  all_goals
                    try replace h4 := of_decide_eq_true h4
                    refine g_seq ?_
                    refine g_region ?_
                    refine rl_v rfl rfl rfl (by exact sat_cells hw (by (repeat first | with_reducible exact xH | apply xT); first | done | fail) ⟨rfl, rfl, rfl, trivial⟩) (v_loadAgg (vs := [_, _, _]) T.agg_110_3 rfl rfl) ?_
                    refine rl_k rfl (k_buildSlice (cells := [_, _, _]) hw T.sl_103_110_3 T.zero_110 rfl rfl rfl rfl rfl rfl (fun bk11_1 w hw => ?_))
                    refine xV rfl rfl rfl (v_assign rfl) ?_
                    refine xV rfl rfl rfl (v_assign rfl) ?_
                    refine rl_nil (g_le (xK (xK (xS rfl (xS rfl (Fr.le_refl _))))) ?_)
                    refine g_ret2 Try.func72 rfl rfl rfl ?_
                    have e9 : evenN (all) = [all] := if_pos (by omega)
                    obtain ⟨g5, hg5, hrd, hw⟩ := (hw.xQ : Sat E w (RO g4 :: pt bk11_1 (.cells [.bool (all).leaf, .slice wa (all).entries.length wc, .slice xa (all).kids.length xc].toArray 110 (0, 0)) :: A1 :: OwnSl 70 5 (.slice (some ⟨gb, 0, none⟩) x.kids.length kc) x.kids.length (x.kids.flatMap Kd.cells) :: L)).freeze_lit (R := rdNd) (sz := 3) (bytes := 56) mono_Nd (Els.one rfl hnd4) rfl (by simp [maxLen]) (by simp [reachBytes])
                    rw [e9] at hle hss
                    rw [hle]
                    exact ⟨g5, A1, _, _, ((hg1.trans hg2).trans hg4).trans hg5, D.mono ((hg2.trans hg4).trans hg5) hI1, rfl, hrd, hss, hw.xQ⟩
                · try with_reducible exact tf_elim h4
                  all_goals
                    try replace h4 := of_decide_eq_false h4
                    refine g_skip (g_seq ?_)
                    refine g_region ?_
                    refine rl_v rfl rfl rfl (by exact sat_cells hw (by (repeat first | with_reducible exact xH | apply xT); first | done | fail) ⟨rfl, rfl, rfl, trivial⟩) (v_loadAgg (vs := [_, _, _]) T.agg_110_3 rfl rfl) ?_
                    refine rl_k rfl (k_callf Try.func66 rfl rfl rfl rfl ?_)
                    refine Calls.mono (halves_calls hnd4 hwm (hw.xQ)) ?_
                    rintro _ w ⟨g5, ha, hc, hg5, rfl, hrd, hw⟩
                    refine ⟨_, rfl, ?_⟩
                    refine xV rfl rfl rfl (v_assign rfl) ?_
                    refine xV rfl rfl rfl (v_assign rfl) ?_
                    refine rl_nil (g_le (xK (xK (xS rfl (xS rfl (Fr.le_refl _))))) ?_)
                    refine g_ret2 Try.func72 rfl rfl rfl ?_
                    have e9 : evenN all = halvesN all := if_neg (by omega)
                    have e8 := halves_len all
                    rw [e9] at hle hss
                    rw [hle]
                    dsimp only
                    rw [e8]
                    exact ⟨g5, A1, ha, hc, ((hg1.trans hg2).trans hg4).trans hg5, D.mono ((hg2.trans hg4).trans hg5) hI1, rfl, hrd, hss, hw.xQ⟩
            · try with_reducible exact tf_elim h3
              all_goals
                try replace h3 := of_decide_eq_false h3
                rw [if_neg (by omega)] at hle
                obtain ⟨all, hall⟩ : ∃ all, all = withN y z := ⟨_, rfl⟩
                have hwc := fun {E : Env} {w : World} {L : List As} (hw : Sat E w (RO g2 :: L)) => with_calls hynd2 hznd hys hsm hw
                have hwm : all.mid := hall ▸ with_mid hys hsm
                have hwp : (all.leaf = true → all.kids = []) ∧ (all.leaf = false → all.entries = []) := hall ▸ with_proper hys hsm hzl
                rw [← hall] at hle
                refine g_skip (g_seq ?_)
                refine g_region ?_
                refine rl_v rfl rfl rfl (by exact sat_cells hw (by (repeat first | with_reducible exact xH | apply xT); first | done | fail) ⟨rfl, rfl, rfl, trivial⟩) (v_loadAgg (vs := [_, _, _]) T.agg_110_3 rfl rfl) ?_
                refine rl_v rfl rfl rfl (by exact sat_cells hw (by (repeat first | with_reducible exact xH | apply xT); first | done | fail) ⟨rfl, rfl, rfl, trivial⟩) (v_loadAgg (vs := [_, _, _]) T.agg_110_3 rfl rfl) ?_
                refine rl_k rfl (k_callf Try.func89 rfl rfl rfl rfl ?_)
                refine Calls.mono (hwc (hw.xQ)) ?_
                rw [← hall]
                rintro _ w ⟨ev, kv, wcells, rfl, wels, wkok, hw⟩
                obtain ⟨wa, wc, rfl, _, _, _⟩ := hw.own_shape
                obtain ⟨xa, xc, rfl, _, _, _⟩ := (hw.pick .at1).own_shape
                refine ⟨_, rfl, ?_⟩
                refine rl_k rfl (k_alloc hw T.zero_110 rfl rfl (fun bk9_3 w hw => ?_))
                refine rl_k rfl (k_storeWhole hw T.agg_110_3 rfl rfl (by simp [Value.oneCell']) rfl (by (repeat first | with_reducible exact xH | apply xT); first | done | fail) rfl (fun w hw => ?_))
                refine rl_nil (g_le (xK (xS rfl (xS rfl (xS rfl (Fr.le_refl _))))) ?_)
                refine g_seq (g_seq ?_)
                obtain ⟨g4, hg4, hnd4, hw⟩ := nd_stands wels wkok hwm (hw.xQ : Sat E w (RO g2 :: OwnSl 49 2 (.slice wa all.entries.length wc) all.entries.length wcells :: OwnSl 70 5 (.slice xa all.kids.length xc) all.kids.length (all.kids.flatMap Kd.cells) :: A1 :: pt bk9_3 (.cells [.bool all.leaf, .slice wa all.entries.length wc, .slice xa all.kids.length xc].toArray 110 (0, 0)) :: OwnSl 70 5 (.slice (some ⟨gb, 0, none⟩) x.kids.length kc) x.kids.length (x.kids.flatMap Kd.cells) :: L))
                have hss := even_small hwm hwp.1 hwp.2
                refine g_region ?_
                refine rl_v rfl rfl rfl (by exact sat_cells hw (by (repeat first | with_reducible exact xH | apply xT); first | done | fail) ⟨rfl, rfl, rfl, trivial⟩) (v_loadAgg (vs := [_, _, _]) T.agg_110_3 rfl rfl) ?_
                refine rl_k rfl (k_callf Try.func65 rfl rfl rfl rfl ?_)
                refine Calls.mono (size_calls all.leaf wa xa _ wc _ xc hw) ?_
                rw [show (if all.leaf = true then all.entries.length else all.kids.length) = sizeN all from rfl]
                rintro _ w ⟨rfl, hw⟩
                refine ⟨_, rfl, ?_⟩
                refine xV rfl rfl rfl (v_lss rfl rfl) ?_
                refine rl_nil (g_le (xK (xS rfl (xS rfl (Fr.le_refl _)))) ?_)
                refine g_cond rfl (fun h4 => ?_) (fun h4 => ?_)
                · try with_reducible exact ft_elim h4
                  all_goals
                    try replace h4 := of_decide_eq_true h4
                    refine g_seq ?_
                    refine g_region ?_
                    refine rl_v rfl rfl rfl (by exact sat_cells hw (by (repeat first | with_reducible exact xH | apply xT); first | done | fail) ⟨rfl, rfl, rfl, trivial⟩) (v_loadAgg (vs := [_, _, _]) T.agg_110_3 rfl rfl) ?_
                    refine rl_k rfl (k_buildSlice (cells := [_, _, _]) hw T.sl_103_110_3 T.zero_110 rfl rfl rfl rfl rfl rfl (fun bk11_1 w hw => ?_))
                    refine xV rfl rfl rfl (v_assign rfl) ?_
                    refine xV rfl rfl rfl (v_assign rfl) ?_
                    refine rl_nil (g_le (xK (xK (xS rfl (xS rfl (Fr.le_refl _))))) ?_)
                    refine g_ret2 Try.func72 rfl rfl rfl ?_
                    have e9 : evenN (all) = [all] := if_pos (by omega)
                    obtain ⟨g5, hg5, hrd, hw⟩ := (hw.xQ : Sat E w (RO g4 :: pt bk11_1 (.cells [.bool (all).leaf, .slice wa (all).entries.length wc, .slice xa (all).kids.length xc].toArray 110 (0, 0)) :: A1 :: OwnSl 70 5 (.slice (some ⟨gb, 0, none⟩) x.kids.length kc) x.kids.length (x.kids.flatMap Kd.cells) :: L)).freeze_lit (R := rdNd) (sz := 3) (bytes := 56) mono_Nd (Els.one rfl hnd4) rfl (by simp [maxLen]) (by simp [reachBytes])
                    rw [e9] at hle hss
                    rw [hle]
                    exact ⟨g5, A1, _, _, ((hg1.trans hg2).trans hg4).trans hg5, D.mono ((hg2.trans hg4).trans hg5) hI1, rfl, hrd, hss, hw.xQ⟩
                · try with_reducible exact tf_elim h4
                  all_goals
                    try replace h4 := of_decide_eq_false h4
                    refine g_skip (g_seq ?_)
                    refine g_region ?_
                    refine rl_v rfl rfl rfl (by exact sat_cells hw (by (repeat first | with_reducible exact xH | apply xT); first | done | fail) ⟨rfl, rfl, rfl, trivial⟩) (v_loadAgg (vs := [_, _, _]) T.agg_110_3 rfl rfl) ?_
                    refine rl_k rfl (k_callf Try.func66 rfl rfl rfl rfl ?_)
                    refine Calls.mono (halves_calls hnd4 hwm (hw.xQ)) ?_
                    rintro _ w ⟨g5, ha, hc, hg5, rfl, hrd, hw⟩
                    refine ⟨_, rfl, ?_⟩
                    refine xV rfl rfl rfl (v_assign rfl) ?_
                    refine xV rfl rfl rfl (v_assign rfl) ?_
                    refine rl_nil (g_le (xK (xK (xS rfl (xS rfl (Fr.le_refl _))))) ?_)
                    refine g_ret2 Try.func72 rfl rfl rfl ?_
                    have e9 : evenN all = halvesN all := if_neg (by omega)
                    have e8 := halves_len all
                    rw [e9] at hle hss
                    rw [hle]
                    dsimp only
                    rw [e8]
                    exact ⟨g5, A1, ha, hc, ((hg1.trans hg2).trans hg4).trans hg5, D.mono ((hg2.trans hg4).trans hg5) hI1, rfl, hrd, hss, hw.xQ⟩
end Go.Proofs.Ytmbngahboaljpaa
