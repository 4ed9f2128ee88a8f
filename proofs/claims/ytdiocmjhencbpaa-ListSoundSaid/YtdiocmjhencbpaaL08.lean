/-
  What a tree is asked (layer 8): secrets that are so, over any pages.
-/
import Derived.Test.YtdiocmjhencbpaaH09
import Derived.Test.YtdiocmjhencbpaaC07f
namespace Go.Proofs.Ytdiocmjhencbpaa
set_option maxRecDepth 8000
set_option linter.unusedSimpArgs false
set_option linter.unusedVariables false
open Go Xe
theorem allO_deep {τ : Type} (P : PgOps τ) : ∀ (k : Nat) (deep : Int) (s : τ) (r : Rf), ∀ x ∈ (allO P k deep s r).1, deep ≤ x.deep ∧ x.deep < deep + k
  | 0, _, _, _, x, hx => by simp [allO] at hx
  | k + 1, deep, s, r, x, hx => by
    have key : ∀ (ks : List Kd) (s : τ), ∀ x ∈ (allsO (allO P k (deep + 1)) ks s).1, deep + 1 ≤ x.deep ∧ x.deep < deep + 1 + k := by
      intro ks
      induction ks with
      | nil => intro s x hx; simp [allsO] at hx
      | cons y ks ih =>
        intro s x hx
        rw [allsO_cons] at hx
        split at hx
        · simp at hx
        · rcases List.mem_append.1 hx with hx | hx
          · exact allO_deep P k (deep + 1) _ _ x hx
          · exact ih _ x hx
    simp only [allO] at hx
    split at hx
    · simp at hx
    · split at hx
      · simp at hx
      · rcases List.mem_cons.1 hx with rfl | hx
        · simp only; omega
        · have := key _ _ x hx; omega
/-- All pages, told. -/
theorem allR_calls {τ : Type} (D : Pg τ) {E : Env} {w : World} {L : List As} {g : Hp} {s : τ} {A : As} (r : Rf) (hr : r.ok) (hI : D.I g s A) (hw : Sat E w (A :: RO g :: L)) :
    Calls Try.prog 38 #[.iface D.t D.u, .agg r.cells.toArray] w fun v w' =>
    ∃ g' A' la ln lc, g.le g' ∧ D.I g' (allO D.ops 8 1 s r).2.2 A' ∧ v = .returned (.tuple #[.slice la ln lc, .int .i64 (allO D.ops 8 1 s r).2.1]) ∧
      ((allO D.ops 8 1 s r).2.1 ≠ 0 → ln = 0) ∧ ((allO D.ops 8 1 s r).2.1 = 0 → (rdSl 96 8 rdSn) g' [.slice la ln lc] (allO D.ops 8 1 s r).1 ∧ (allO D.ops 8 1 s r).1.length ≤ 100000 ∧ ∀ x ∈ (allO D.ops 8 1 s r).1, x.good) ∧ Sat E w' (A' :: RO g' :: L) := by
  refine Calls.mono (All_calls D r hr hI hw) ?_
  have hdp := allO_deep D.ops 8 1 s r
  generalize allO D.ops 8 1 s r = q at hdp ⊢
  rintro _ w ⟨g1, A1, lv, hg1, hI1, rfl, hw, hbad, hgd⟩
  by_cases h0 : q.2.1 = 0
  · obtain ⟨ts, hln, hgood, hw⟩ := hgd h0
    obtain ⟨la, lc, rfl, _, _, _⟩ := hw.own_shape
    obtain ⟨g2, hg2, hsn, hw⟩ := sns_freeze (fun x hx => ⟨hgood x hx, by have := hdp x hx; exact wf_i64 (by omega)⟩) hln (hw.xQ : Sat E w (RO g1 :: OwnSl 86 8 (.slice la q.1.length lc) q.1.length (snCells q.1 ts) :: eachOf NdOf ts q.1 :: A1 :: L))
    exact ⟨g2, A1, la, _, lc, hg1.trans hg2, D.mono hg2 hI1, rfl, fun h => absurd h0 h, fun _ => ⟨hsn, hln, hgood⟩, hw.xQ⟩
  · obtain rfl := hbad h0
    exact ⟨g1, A1, none, 0, 0, hg1, hI1, rfl, fun _ => rfl, fun h => absurd h h0, hw⟩
/-- The secrets of a page; of pages, those that are so. -/
def secE (x : Sn) : List En := if x.node.leaf = true then x.node.entries else []
def secF (p : En → Bool) (l : List Sn) : List En := l.flatMap fun x => (secE x).filter p
theorem secF_snoc (p : En → Bool) (l : List Sn) (x : Sn) : secF p (l ++ [x]) = secF p l ++ (secE x).filter p := by simp [secF]
theorem secF_len {p : En → Bool} : ∀ {l : List Sn}, (∀ x ∈ l, x.good) → (secF p l).length ≤ 4 * l.length
  | [], _ => by simp [secF]
  | x :: l, h => by
    have h1 := secF_len (p := p) (l := l) fun y hy => h y (by simp [hy])
    have h2 := (h x (by simp)).2.1.1
    have h3 : (secE x).length ≤ x.node.entries.length := by unfold secE; split <;> simp
    have h4 := List.length_filter_le p (secE x)
    have e : secF p (x :: l) = (secE x).filter p ++ secF p l := by simp [secF]
    rw [e, List.length_append, List.length_cons]; omega
def secsO {τ : Type} (P : PgOps τ) (s : τ) (r : Rf) (p : En → Bool) : List En × Int × τ := (if (allO P 8 1 s r).2.1 = 0 then secF p (allO P 8 1 s r).1 else [], (allO P 8 1 s r).2.1, (allO P 8 1 s r).2.2)
theorem clipEn_calls {E : Env} {w : World} {L : List As} (a : Option Addr) (n c : Nat) (hc : n ≤ c) (hw : Sat E w L) :
    Calls Try.prog 51 #[.slice a n c] w fun e w' => e = .returned (.slice a n n) ∧ Sat E w' L := by
  refine calls_of_g (n := 9) Try.func51 rfl rfl rfl ?_
  change G _ _ _ _ _ [(0, _)] _
  refine g_seq ?_
  refine g_region ?_
  refine xV rfl rfl rfl (v_assign rfl) ?_
  refine rl_nil (g_le (xK (Fr.le_refl _)) ?_)
  refine g_seq ?_
  refine g_region ?_
  refine xV rfl rfl rfl (v_move rfl) ?_
  refine xV rfl rfl rfl (v_move rfl) ?_
  refine xV rfl rfl rfl (v_lenSlice T.sl_33_40_2 rfl) ?_
  refine xV rfl rfl rfl (v_move rfl) ?_
  refine xV rfl rfl rfl (v_lenSlice T.sl_33_40_2 rfl) ?_
  refine xV rfl rfl rfl (v_slice3 T.sl_33_40_2 rfl rfl rfl (by omega) (by omega) (by omega)) ?_
  refine xV rfl rfl rfl (v_assign rfl) ?_
  refine rl_nil (g_le (xK (xS rfl (xS rfl (xS rfl (xS rfl (xS rfl (xS rfl (Fr.le_refl _)))))))) ?_)
  refine g_ret1 Try.func51 rfl rfl ?_
  exact ⟨by simp, hw⟩
theorem rdSl_clip {α : Type} {bytes sz : Nat} {R : Rd α} {g : Hp} {a : Option Addr} {n c : Nat} {xs : List α} (h : rdSl bytes sz R g [.slice a n c] xs) : rdSl bytes sz R g [.slice a n n] xs := by
  rcases h with ⟨a', h, rfl⟩ | ⟨b, o, cap, h, h2, h3, h4, h5⟩
  · simp only [List.cons.injEq, and_true, Value.slice.injEq] at h
    obtain ⟨rfl, rfl, rfl⟩ := h
    exact .inl ⟨_, rfl, rfl⟩
  · simp only [List.cons.injEq, and_true, Value.slice.injEq] at h
    obtain ⟨rfl, rfl, rfl⟩ := h
    exact .inr ⟨b, o, _, rfl, Nat.le_refl _, h3, by omega, h5⟩
/-- What a function value says of a secret: it leaves what it captured as it was. -/
def Asks (E : Env) (g : Hp) (C : As) (fv : Value) (p : En → Bool) : Prop :=
  ∀ {g' : Hp} {M : List As} {w : World} {x : En} {ecs : List Value}, g.le g' → rdEn g' ecs x → Sat E w (RO g' :: C :: M) → CallsV Try.prog fv #[.agg ecs.toArray] w fun e w' => e = .returned (.bool (p x)) ∧ Sat E w' (RO g' :: C :: M)
set_option maxHeartbeats 4000000 in
theorem secrets_calls {τ : Type} (D : Pg τ) {E : Env} {w : World} {L : List As} {g : Hp} {s : τ} {A C : As} {fv : Value} {p : En → Bool} (r : Rf) (hr : r.ok) (hI : D.I g s A) (hf : Asks E g C fv p) (hw : Sat E w (A :: RO g :: C :: L)) :
    Calls Try.prog 29 #[.iface D.t D.u, .agg r.cells.toArray, fv] w fun v w' =>
    ∃ g' A' la ln lc, g.le g' ∧ D.I g' (secsO D.ops s r p).2.2 A' ∧ v = .returned (.tuple #[.slice la ln lc, .int .i64 (secsO D.ops s r p).2.1]) ∧ (rdSl 40 2 rdEn) g' [.slice la ln lc] (secsO D.ops s r p).1 ∧ (secsO D.ops s r p).1.length ≤ 400000 ∧ Sat E w' (A' :: RO g' :: C :: L) := by
  unfold secsO
  refine calls_of_g (n := 54) Try.func29 rfl rfl rfl ?_
  change G _ _ _ _ _ [(0, _), (1, _), (2, _)] _
  refine g_seq ?_
  refine g_region ?_
  refine rl_k rfl (k_box hw rfl rfl rfl (fun bk0_0 w hw => ?_))
  refine xV rfl rfl rfl (v_assign rfl) ?_
  refine xV rfl rfl rfl (v_assign rfl) ?_
  refine rl_nil (g_le (xK (xK (xK (Fr.le_refl _)))) ?_)
  refine g_seq ?_
  refine g_region ?_
  refine xV rfl rfl rfl (v_move rfl) ?_
  refine rl_v rfl rfl rfl (by exact sat_cells hw (by (repeat first | with_reducible exact xH | apply xT); first | done | fail) ⟨rfl, rfl, rfl, rfl, trivial⟩) (v_loadAgg (vs := [_, _, _, _]) T.agg_26_4 rfl rfl) ?_
  refine rl_k rfl (k_callf Try.func38 rfl rfl rfl rfl ?_)
  refine Calls.mono (allR_calls D r hr hI (hw.xQ)) ?_
  generalize hq : allO D.ops 8 1 s r = q
  rintro _ w ⟨g1, A1, la, ln, lc, hg1, hI1, rfl, hbad, hgd, hw⟩
  refine ⟨_, rfl, ?_⟩
  refine xV rfl rfl rfl (v_move rfl) ?_
  refine xV rfl rfl rfl (v_extract rfl rfl) ?_
  refine xV rfl rfl rfl (v_extract rfl rfl) ?_
  refine xV rfl rfl rfl (v_assign rfl) ?_
  refine xV rfl rfl rfl (v_assign rfl) ?_
  refine rl_nil (g_le (xK (xK (xS rfl (xS rfl (xS rfl (xS rfl (xS rfl (xS rfl (Fr.le_refl _))))))))) ?_)
  refine g_seq (g_seq ?_)
  refine g_region ?_
  refine xV rfl rfl rfl (v_move rfl) ?_
  refine xV rfl rfl rfl (v_neq rfl rfl) ?_
  refine rl_nil (g_le (xK (xS rfl (Fr.le_refl _))) ?_)
  refine g_cond rfl (fun h1 => ?_) (fun h1 => ?_)
  · try with_reducible exact ft_elim h1
    all_goals
      try replace h1 := of_decide_eq_true h1
      refine g_seq ?_
      refine g_region ?_
      refine xV rfl rfl rfl (v_move rfl) ?_
      refine xV rfl rfl rfl (v_assign rfl) ?_
      refine xV rfl rfl rfl (v_assign rfl) ?_
      refine rl_nil (g_le (xK (xK (xS rfl (Fr.le_refl _)))) ?_)
      refine g_ret2 Try.func29 rfl rfl rfl ?_
      rw [if_neg h1]
      exact ⟨g1, A1, _, _, _, hg1, hI1, rfl, rdSl_nil _, by simp, hw.xQ⟩
  · try with_reducible exact tf_elim h1
    all_goals
      try replace h1 := of_decide_eq_false h1
      obtain h0 : q.2.1 = 0 := by omega
      obtain ⟨hnow, hln5, hgood⟩ := hgd h0
      generalize hnw : q.1 = now at hnow hln5 hgood
      rw [if_pos h0]
      obtain ⟨rfl, _, _, _, gn⟩ := rdSl_get hnow
      refine g_skip (g_seq ?_)
      refine g_region ?_
      refine xV rfl rfl rfl (v_assign rfl) ?_
      refine rl_nil (g_le (xK (Fr.le_refl _)) ?_)
      refine g_seq (g_seq ?_)
      refine g_region ?_
      refine xV rfl rfl rfl (v_move rfl) ?_
      refine xV rfl rfl rfl (v_lenSlice T.sl_79_86_8 rfl) ?_
      refine xV rfl rfl rfl (v_move rfl) ?_
      refine rl_nil (g_le (xK (xK (xK (Fr.le_refl _)))) ?_)
      refine g_block ?_
      refine g_loopC (σ := Nat × Value × List Value) (fun C x => (26, .int .i64 (x.1 : Nat)) :: (10, x.2.1) :: C) [(2, _), (6, _), (7, _), (24, _), (25, _)] (by repeat (first | exact Fr.le_nil _ | refine Fr.le_cons rfl ?_)) (fun z w => z.1 ≤ now.length ∧ Els rdEn 2 g1 z.2.2 (secF p (now.take z.1)) ∧ Sat E w (OwnSl 40 2 z.2.1 (secF p (now.take z.1)).length z.2.2 :: A1 :: RO g1 :: C :: L)) (fun z => now.length - z.1) ?_ (0, .slice none 0 0, []) (by repeat (first | exact Fr.le_nil _ | refine Fr.le_cons rfl ?_)) ⟨by simp, Els.nil, by simp only [List.take_zero]; exact (hw.xQ : Sat E w (A1 :: RO g1 :: C :: L)).own_nil 40 2⟩
      rintro ⟨k, ov, ocs⟩ w ⟨hk1, hels, hw⟩ ih
      dsimp only at hk1 hels hw ih ⊢
      refine g_seq ?_
      refine g_region ?_
      refine xV rfl rfl rfl (v_lss rfl rfl) ?_
      refine rl_nil (g_le (xK (Fr.le_refl _)) ?_)
      refine g_seq ?_
      refine g_cond rfl (fun h2 => ?_) (fun h2 => ?_)
      · try with_reducible exact ft_elim h2
        all_goals
          try replace h2 := of_decide_eq_true h2
          refine g_skip (g_seq (g_block (g_seq ?_)))
          have hz := hw
          clear hw
          obtain ⟨b5, o5, x, xcs, rfl, hx, hat5, hl5, hrdx⟩ := gn (k : Nat) (by omega) (by omega)
          rw [Int.toNat_natCast] at hx hat5
          obtain ⟨xa, xn, xc, xk, xkn, xkc, rfl, hndx⟩ := sn_told hrdx
          obtain ⟨n0, n1, n2, hq9, _, hqe, hqk⟩ := id hndx
          simp only [List.cons.injEq, and_true] at hq9
          obtain ⟨_, rfl, rfl⟩ := hq9
          obtain ⟨rfl, _, _, _, ge⟩ := rdSl_get hqe
          have hgx := hgood x (List.mem_of_getElem? hx)
          have hx4 := hgx.2.1.1
          have hFl := secF_len (p := p) (l := now.take k) (fun y hy => hgood y (List.mem_of_mem_take hy))
          have htl : (now.take k).length ≤ 100000 := by rw [List.length_take]; omega
          have hw := hz
          refine g_region ?_
          refine xV rfl rfl rfl (v_indexAddr T.sl_79_86_8 rfl rfl (by omega) (by omega)) ?_
          refine rl_v rfl rfl rfl (by exact ro_ats hw (by (repeat first | with_reducible exact xH | apply xT); first | done | fail) (by assumption)) (v_loadAgg (vs := [_, _, _, _, _, _, _, _]) T.agg_86_8 rfl rfl) ?_
          refine rl_k rfl (k_alloc hw T.zero_86 rfl rfl (fun bk7_2 w hw => ?_))
          refine rl_k rfl (k_storeWhole hw T.agg_86_8 rfl rfl (by simp [Value.oneCell']) rfl (by (repeat first | with_reducible exact xH | apply xT); first | done | fail) rfl (fun w hw => ?_))
          refine rl_nil (g_le (xK (xK (xK (Fr.le_refl _)))) ?_)
          refine g_seq ?_
          refine g_region ?_
          refine xV rfl rfl rfl (v_fieldAddr0 T.fld_86_2_5 rfl) ?_
          refine xV rfl rfl rfl (v_fieldAddr T.fld_84_1_1 rfl) ?_
          refine rl_v rfl rfl rfl (by exact sat_cell hw (by (repeat first | with_reducible exact xH | apply xT); first | done | fail) rfl) (v_load T.scal_33 rfl) ?_
          refine xV rfl rfl rfl (v_lenSlice T.sl_33_40_2 rfl) ?_
          refine xV rfl rfl rfl (v_move rfl) ?_
          refine rl_nil (g_le (xK (xK (xK (xK (xK (Fr.le_refl _)))))) ?_)
          refine g_block ?_
          refine g_loopC (σ := Nat × Value × List Value) (fun C x => (34, .int .i64 (x.1 : Nat)) :: (10, x.2.1) :: C) [(2, _), (6, _), (7, _), (12, _), (24, _), (25, _), (26, _), (27, _), (28, _), (29, _), (30, _), (31, _), (32, _), (33, _)] (by repeat (first | exact Fr.le_nil _ | refine Fr.le_cons rfl ?_)) (fun z w => z.1 ≤ x.node.entries.length ∧ Els rdEn 2 g1 z.2.2 (secF p (now.take k) ++ if x.node.leaf = true then (x.node.entries.take z.1).filter p else []) ∧ Sat E w (OwnSl 40 2 z.2.1 (secF p (now.take k) ++ if x.node.leaf = true then (x.node.entries.take z.1).filter p else []).length z.2.2 :: A1 :: RO g1 :: C :: pt bk7_2 (.cells [.int .i64 x.deep, .int .u64 x.ref.key, .int .i64 x.ref.seg, .int .i64 x.ref.off, .int .i64 x.ref.len, .bool x.node.leaf, .slice xa x.node.entries.length xc, .slice xk xkn xkc].toArray 86 (0, 0)) :: L)) (fun z => x.node.entries.length - z.1) ?_ (0, ov, ocs) (by repeat (first | exact Fr.le_nil _ | refine Fr.le_cons rfl ?_)) ⟨by simp, by simpa using hels, by simp only [List.take_zero, List.filter_nil, ite_self, List.append_nil]; exact hw.xQ⟩
          rintro ⟨j, ov2, ocs2⟩ w ⟨hj1, hels2, hw⟩ ih2
          dsimp only at hj1 hels2 hw ih2 ⊢
          have hfl2 : (if x.node.leaf = true then (x.node.entries.take j).filter p else []).length ≤ 4 := by split; (have := List.length_filter_le p (x.node.entries.take j); rw [List.length_take] at this; omega); simp
          obtain ⟨oa, oc, rfl, _, _, _⟩ := hw.own_shape
          have hlen := hels2.len
          have hone := hels2.ones one_En
          have hnb : (secF p (now.take k) ++ if x.node.leaf = true then (x.node.entries.take j).filter p else []).length ≤ 400010 := by rw [List.length_append]; omega
          refine g_seq ?_
          refine g_region ?_
          refine xV rfl rfl rfl (v_lss rfl rfl) ?_
          refine rl_nil (g_le (xK (Fr.le_refl _)) ?_)
          refine g_seq ?_
          refine g_cond rfl (fun h3 => ?_) (fun h3 => ?_)
          · try with_reducible exact ft_elim h3
            all_goals
              try replace h3 := of_decide_eq_true h3
              refine g_skip (g_seq (g_block (g_seq ?_)))
              have hz := hw
              clear hw
              obtain ⟨b6, o6, e, ecs, rfl, he, hat6, hl6, hrde⟩ := ge (j : Nat) (by omega) (by omega)
              rw [Int.toNat_natCast] at he hat6
              obtain ⟨va, vn, vc, rfl, hrde⟩ := en_told hrde
              have hte : x.node.entries.take (j + 1) = x.node.entries.take j ++ [e] := by rw [List.take_add_one, he]; rfl
              have hw := hz
              refine g_region ?_
              refine xV rfl rfl rfl (v_indexAddr T.sl_33_40_2 rfl rfl (by omega) (by omega)) ?_
              refine rl_v rfl rfl rfl (by exact ro_ats hw (by (repeat first | with_reducible exact xH | apply xT); first | done | fail) (by assumption)) (v_loadAgg (vs := [_, _]) T.agg_40_2 rfl rfl) ?_
              refine rl_k rfl (k_alloc hw T.zero_40 rfl rfl (fun bk10_2 w hw => ?_))
              refine rl_k rfl (k_storeWhole hw T.agg_40_2 rfl rfl (by simp [Value.oneCell']) rfl (by (repeat first | with_reducible exact xH | apply xT); first | done | fail) rfl (fun w hw => ?_))
              refine rl_nil (g_le (xK (xK (xK (Fr.le_refl _)))) ?_)
              refine g_seq ?_
              refine g_region ?_
              refine xV rfl rfl rfl (v_fieldAddr0 T.fld_86_2_5 rfl) ?_
              refine xV rfl rfl rfl (v_fieldAddr T.fld_84_0_0 rfl) ?_
              refine rl_v rfl rfl rfl (by exact sat_cell hw (by (repeat first | with_reducible exact xH | apply xT); first | done | fail) rfl) (v_load T.scal_4 rfl) ?_
              refine xV rfl rfl rfl (v_move rfl) ?_
              refine rl_split (s := 41) rfl (fun g11_3 => ?_) (fun g11_3 => ?_)
              · try with_reducible exact ft_elim g11_3
                all_goals
                  try replace g11_3 := of_decide_eq_true g11_3
                  refine rl_vg (met_on rfl rfl rfl rfl) rfl rfl (S := fun _ => True) trivial (v_move rfl) ?_
                  refine rl_vg (met_on rfl rfl rfl rfl) rfl rfl (by exact sat_cells hw (by (repeat first | with_reducible exact xH | apply xT); first | done | fail) ⟨rfl, rfl, trivial⟩) (v_loadAgg (vs := [_, _]) T.agg_40_2 rfl rfl) ?_
                  refine rl_kg (met_on rfl rfl rfl rfl) (k_callv rfl rfl rfl ?_)
                  refine CallsV.mono (hf hg1 hrde (hw.xQ)) ?_
                  rintro _ w ⟨rfl, hw⟩
                  refine ⟨_, rfl, ?_⟩
                  refine xV rfl rfl rfl (v_pick_true rfl rfl) ?_
                  refine rl_nil (g_le (xK (xK (xK (xK (xK (xK (xK (xK (xK (Fr.le_refl _)))))))))) ?_)
                  refine g_cond rfl (fun h4 => ?_) (fun h4 => ?_)
                  · try with_reducible exact ft_elim h4
                    all_goals
                      try replace h4 := of_decide_eq_true h4
                      refine g_region ?_
                      refine xV rfl rfl rfl (v_move rfl) ?_
                      refine rl_v rfl rfl rfl (by exact sat_cells hw (by (repeat first | with_reducible exact xH | apply xT); first | done | fail) ⟨rfl, rfl, trivial⟩) (v_loadAgg (vs := [_, _]) T.agg_40_2 rfl rfl) ?_
                      refine rl_k rfl (k_buildSlice (cells := [_, _]) hw T.sl_33_40_2 T.zero_40 rfl rfl rfl rfl rfl rfl (fun bk12_2 w hw => ?_))
                      refine rl_k rfl (k_append (news := [_, _]) hw T.sl_33_40_2 T.zero_40 T.bytes_40_40 rfl (by decide) rfl rfl (by (repeat first | with_reducible exact xH | apply xT); first | done | fail) rfl (by exact sat_cells hw (by (repeat first | with_reducible exact xH | apply xT); first | done | fail) ⟨rfl, rfl, trivial⟩) (by simp [Value.oneCell']) (by omega) (by simp only [maxLen]; omega) rfl (fun vv12_3 w hw hnil => ?_))
                      refine xV rfl rfl rfl (v_assign rfl) ?_
                      refine rl_nil (g_le (xK (xK (xK (xK (xK (Fr.le_refl _)))))) ?_)
                      refine g_inBlock ?_
                      refine g_region ?_
                      refine xV rfl rfl rfl (v_add rfl rfl (by omega)) ?_
                      refine xV rfl rfl rfl (v_move rfl) ?_
                      refine rl_nil (g_le (xK (xK (Fr.le_refl _))) ?_)
                      have e1 : (if x.node.leaf = true then (x.node.entries.take (j + 1)).filter p else []) = (if x.node.leaf = true then (x.node.entries.take j).filter p else []) ++ [e] := by rw [if_pos g11_3, if_pos g11_3, hte, List.filter_append]; simp [h4]
                      exact g_le (by repeat (first | exact Fr.le_nil _ | refine Fr.le_cons rfl ?_)) (ih2 (j + 1, vv12_3, _) w ⟨by simp only; omega, by dsimp only; rw [e1, ← List.append_assoc]; exact hels2.snoc rfl hrde, by dsimp only; rw [e1, ← List.append_assoc, List.length_append (bs := [e]), List.length_singleton]; exact hw.xQ⟩ (by simp only; omega))
                  · try with_reducible exact tf_elim h4
                    all_goals
                      try replace h4 := of_decide_eq_false h4
                      refine g_skip (g_inBlock ?_)
                      refine g_region ?_
                      refine xV rfl rfl rfl (v_add rfl rfl (by omega)) ?_
                      refine xV rfl rfl rfl (v_move rfl) ?_
                      refine rl_nil (g_le (xK (xK (Fr.le_refl _))) ?_)
                      have e1 : (if x.node.leaf = true then (x.node.entries.take (j + 1)).filter p else []) = (if x.node.leaf = true then (x.node.entries.take j).filter p else []) := by rw [if_pos g11_3, if_pos g11_3, hte, List.filter_append]; simp [h4]
                      exact g_le (by repeat (first | exact Fr.le_nil _ | refine Fr.le_cons rfl ?_)) (ih2 (j + 1, _, ocs2) w ⟨by simp only; omega, by dsimp only; rw [e1]; exact hels2, by dsimp only; rw [e1]; exact hw.xQ⟩ (by simp only; omega))
              · try with_reducible exact tf_elim g11_3
                all_goals
                  try replace g11_3 := of_decide_eq_false g11_3
                  refine rl_off (met_off rfl rfl rfl rfl rfl) rfl rfl ?_
                  refine rl_off (met_off rfl rfl rfl rfl rfl) rfl rfl ?_
                  refine rl_off (met_off rfl rfl rfl rfl rfl) rfl rfl ?_
                  refine xV rfl rfl rfl (v_pick_false rfl rfl) ?_
                  refine rl_nil (g_le (xK (xK (xK (xK (xK (xK (xK (xK (xK (Fr.le_refl _)))))))))) ?_)
                  refine g_cond_false rfl ?_
                  refine g_skip (g_inBlock ?_)
                  refine g_region ?_
                  refine xV rfl rfl rfl (v_add rfl rfl (by omega)) ?_
                  refine xV rfl rfl rfl (v_move rfl) ?_
                  refine rl_nil (g_le (xK (xK (Fr.le_refl _))) ?_)
                  have e1 : (if x.node.leaf = true then (x.node.entries.take (j + 1)).filter p else []) = (if x.node.leaf = true then (x.node.entries.take j).filter p else []) := by rw [if_neg (by simp [g11_3]), if_neg (by simp [g11_3])]
                  exact g_le (by repeat (first | exact Fr.le_nil _ | refine Fr.le_cons rfl ?_)) (ih2 (j + 1, _, ocs2) w ⟨by simp only; omega, by dsimp only; rw [e1]; exact hels2, by dsimp only; rw [e1]; exact hw.xQ⟩ (by simp only; omega))
          · try with_reducible exact tf_elim h3
            all_goals
              try replace h3 := of_decide_eq_false h3
              refine g_exit rfl (g_inBlock ?_)
              refine g_region ?_
              refine xV rfl rfl rfl (v_add rfl rfl (by omega)) ?_
              refine xV rfl rfl rfl (v_move rfl) ?_
              refine rl_nil (g_le (xK (xK (Fr.le_refl _))) ?_)
              have e2 : secF p (now.take (k + 1)) = secF p (now.take k) ++ (if x.node.leaf = true then (x.node.entries.take j).filter p else []) := by rw [List.take_add_one, hx]; simp only [Option.toList_some]; rw [secF_snoc]; unfold secE; split; (rw [List.take_of_length_le (l := x.node.entries) (i := j) (by omega)]); simp
              exact g_le (by repeat (first | exact Fr.le_nil _ | refine Fr.le_cons rfl ?_)) (ih (k + 1, _, ocs2) w ⟨by simp only; omega, by dsimp only; rw [e2]; exact hels2, by dsimp only; rw [e2]; exact hw.xQ⟩ (by simp only; omega))
      · try with_reducible exact tf_elim h2
        all_goals
          try replace h2 := of_decide_eq_false h2
          refine g_exit rfl (g_seq ?_)
          rw [List.take_of_length_le (by omega)] at hels hw
          have hFl := secF_len (p := p) hgood
          obtain ⟨oa, oc, rfl, hoc, _, _⟩ := hw.own_shape
          obtain ⟨g2, hg2, hres, hw⟩ := (hw.xQ : Sat E w (RO g1 :: OwnSl 40 2 (.slice oa (secF p now).length oc) (secF p now).length ocs :: A1 :: C :: L)).freeze_sl (bytes := 40) mono_En hels rfl (by simp only [reachBytes]; omega)
          refine g_region ?_
          refine xV rfl rfl rfl (v_move rfl) ?_
          refine rl_k rfl (k_callf Try.func51 rfl rfl rfl rfl ?_)
          refine Calls.mono (clipEn_calls oa _ oc hoc hw) ?_
          rintro _ w ⟨rfl, hw⟩
          refine ⟨_, rfl, ?_⟩
          refine xV rfl rfl rfl (v_assign rfl) ?_
          refine xV rfl rfl rfl (v_assign rfl) ?_
          refine rl_nil (g_le (xK (xK (xS rfl (xS rfl (Fr.le_refl _))))) ?_)
          refine g_ret2 Try.func29 rfl rfl rfl ?_
          rw [h0]
          exact ⟨g2, A1, _, _, _, hg1.trans hg2, D.mono hg2 hI1, rfl, rdSl_clip hres, by omega, hw.xQ⟩
end Go.Proofs.Ytdiocmjhencbpaa
