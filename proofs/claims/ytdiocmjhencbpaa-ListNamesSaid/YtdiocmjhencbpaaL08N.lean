/-
  ListNames: the names that begin with some texts, of a tree of any secrets, as the document says.
-/
import Derived.Test.YtdiocmjhencbpaaL10
import Derived.Test.YtdiocmjhencbpaaRows
namespace Go.Proofs.Ytdiocmjhencbpaa
set_option maxRecDepth 8000
set_option linter.unusedSimpArgs false
set_option linter.unusedVariables false
open Go Xe Go.Lib Go.RowKit Go.ChangeShapes Go.WideShapes Go.ChangeAt
theorem ListNames_law {w : World} {a pa : Option Addr} {len cap pn pc : Nat} {xs : List En} {prefixes : List ByteArray} (hr : rdArg (rdSl 40 2 rdEn) w (.slice a len cap) xs) (hp : rdArg (rdSl 16 1 rdStr) w (.slice pa pn pc) prefixes) :
    Law Try.prog 5 [.slice a len cap, .slice pa pn pc] w := by
  unfold Law
  have hw := Sat.old w
  generalize w = W at hr hp hw ⊢
  have hr : (rdSl 40 2 rdEn) (hpOf W) [.slice a len cap] xs := hr
  have hp : (rdSl 16 1 rdStr) (hpOf W) [.slice pa pn pc] prefixes := hp
  refine calls_of_g (n := 35) Try.func5 rfl rfl rfl ?_
  change G _ _ _ _ _ [(0, _), (1, _)] _
  refine g_seq ?_
  refine g_region ?_
  refine xV rfl rfl rfl (v_assign rfl) ?_
  refine rl_nil (g_le (xK (Fr.le_refl _)) ?_)
  refine g_seq ?_
  refine g_region ?_
  refine xV rfl rfl rfl (v_move rfl) ?_
  refine rl_k rfl (k_callf Try.func17 rfl rfl rfl rfl ?_)
  refine Calls.mono (grown_calls hr (hw.xQ)) ?_
  rintro _ w ⟨g1, h, A1, s, root, hh, u, la, ln, lc, hg1, hI1, hok, ht, _, hel, h7, hs, rfl, hall, hw⟩
  refine ⟨_, rfl, ?_⟩
  refine xV rfl rfl rfl (v_move rfl) ?_
  refine xV rfl rfl rfl (v_extract rfl rfl) ?_
  refine xV rfl rfl rfl (v_extract rfl rfl) ?_
  refine xV rfl rfl rfl (v_extract rfl rfl) ?_
  refine rl_k rfl (k_alloc hw T.zero_26 rfl rfl (fun bk1_6 w hw => ?_))
  refine xV rfl rfl rfl (v_assign rfl) ?_
  refine rl_k rfl (k_storeWhole hw T.agg_26_4 rfl rfl (by simp [Value.oneCell']) rfl (by (repeat first | with_reducible exact xH | apply xT); first | done | fail) rfl (fun w hw => ?_))
  refine xV rfl rfl rfl (v_assign rfl) ?_
  refine rl_nil (g_le (xK (xK (xK (xS rfl (xS rfl (xS rfl (xS rfl (xS rfl (xS rfl (Fr.le_refl _)))))))))) ?_)
  refine g_seq (g_seq ?_)
  refine g_region ?_
  refine xV rfl rfl rfl (v_move rfl) ?_
  refine xV rfl rfl rfl (v_eqlNil T.ptr_27 rfl rfl) ?_
  refine rl_nil (g_le (xK (xS rfl (Fr.le_refl _))) ?_)
  refine g_cond_false rfl ?_
  refine g_skip (g_seq ?_)
  refine g_region ?_
  refine xV rfl rfl rfl (v_move rfl) ?_
  refine xV rfl rfl rfl (v_mkIface T.ptr_27 rfl) ?_
  refine rl_v rfl rfl rfl (by exact sat_cells hw (by (repeat first | with_reducible exact xH | apply xT); first | done | fail) ⟨rfl, rfl, rfl, rfl, trivial⟩) (v_loadAgg (vs := [_, _, _, _]) T.agg_26_4 rfl rfl) ?_
  refine xV rfl rfl rfl (v_move rfl) ?_
  refine rl_k rfl (k_callf Try.func10 rfl rfl rfl rfl ?_)
  refine Calls.mono (lnames_calls ht (by omega) hok hI1 (mono_sl mono_str hg1 hp) (hw.xQ)) ?_
  rintro _ w ⟨g2, A2, na, nn, nc, hg2, hI2, rfl, hnm, hw⟩
  refine ⟨_, rfl, ?_⟩
  refine xV rfl rfl rfl (v_move rfl) ?_
  refine xV rfl rfl rfl (v_extract rfl rfl) ?_
  refine xV rfl rfl rfl (v_extract rfl rfl) ?_
  refine xV rfl rfl rfl (v_assign rfl) ?_
  refine xV rfl rfl rfl (v_assign rfl) ?_
  refine rl_nil (g_le (xK (xK (xS rfl (xS rfl (xS rfl (xS rfl (xS rfl (xS rfl (xS rfl (xS rfl (Fr.le_refl _))))))))))) ?_)
  refine g_seq ?_
  refine g_region ?_
  refine xV rfl rfl rfl (v_move rfl) ?_
  refine xV rfl rfl rfl (v_eqlT rfl rfl (by omega)) ?_
  refine xV rfl rfl rfl (v_move rfl) ?_
  refine rl_vg (met_on rfl rfl rfl rfl) rfl rfl (S := fun _ => True) trivial (v_move rfl) ?_
  refine rl_vg (met_on rfl rfl rfl rfl) rfl rfl (S := fun _ => True) trivial (v_move rfl) ?_
  refine rl_vg (met_on rfl rfl rfl rfl) rfl rfl (S := fun _ => True) trivial (v_move rfl) ?_
  refine rl_kg (met_on rfl rfl rfl rfl) (k_callf Try.func24 rfl rfl rfl rfl ?_); refine Calls.mono (rnames_calls (mono_sl mono_En hg2 hall) (by omega) (mono_sl mono_str (hg1.trans hg2) hp) (hw.xQ)) ?_; rintro _ w ⟨g3, ma, mn, mc, hg3, rfl, hnm2, hw⟩; refine ⟨_, rfl, ?_⟩
  refine rl_kg (met_on rfl rfl rfl rfl) (k_callf Try.func23 rfl rfl rfl rfl ?_); refine Calls.mono (sameTexts_calls (mono_sl mono_str hg3 hnm) hnm2 (hw.xQ)) ?_; rintro _ w ⟨rfl, hw⟩; refine ⟨_, rfl, ?_⟩
  refine xV rfl rfl rfl (v_pick_true rfl rfl) ?_
  refine xV rfl rfl rfl (v_assign rfl) ?_
  refine rl_nil (g_le (xK (xS rfl (xS rfl (xS rfl (xS rfl (xS rfl (xS rfl (xS rfl (xS rfl (xS rfl (Fr.le_refl _))))))))))) ?_)
  refine g_ret1 Try.func5 rfl rfl ?_
  exact ⟨rfl, (hw.xQ : Sat (envOf W) w [RO g3]).shrink (hg1.trans (hg2.trans hg3))⟩

set_option maxRecDepth 100000 in
theorem ListNames_lifted (os : Os) (started : os.Started) (H : Type) (enc : TypeId × Value → H) :
    ReturnsInHanded {} Try.checked os 5 .any (Rows.listNamesSpec.pre6 enc Try.prog Try.f5 Rows.listNamesRow.domain false) (Rows.listNamesSpec.post enc Try.prog Try.f5 false true false false) := by
  refine returnsInHanded_of_change_sized (C := Try.checked) T.own started (by kernel_rfl) Try.func5
    (ChangeSpec.witness6 (enc := enc) (C := Try.checked) false ⟨#[], #[(.slice none 0 0), (.slice none 0 0)], []⟩ 8 (by kernel_rfl) (by kernel_rfl) (by kernel_rfl) (by kernel_rfl)) ?_
  intro W base args ds gs before hval0 hW hcnd hsz0 _
  have hval : ∀ (j : Nat) t v, Try.f5.params[j]? = some t → args[j]? = some v → Value.okWide Try.prog W .any base t v := hval0
  have hW' := hW
  obtain ⟨p, q, hA0, hV, rfl, hfz, hnd⟩ := hW
  have hA : DataW.TrodAll enc Try.prog W 0 (fun _ => true) true Try.f5.params.toList args.toList ds p := hA0
  obtain ⟨rfl, rfl⟩ := trodVars_none hV
  have hsz : (DataW.weightsEach Try.prog (Try.f5.params.toList ++ []) (ds ++ [])).all (· ≤ reachBytes) = true := hsz0
  rw [List.append_nil, List.append_nil] at hsz
  rw [Try.params5] at hA hval hsz
  obtain ⟨v0, vs0, d0, ds0, p0, q0, hargs, rfl, rfl, h0, r0⟩ := trodAll_cons hA
  obtain ⟨v1, vs1, d1, ds1, p1, q1, rfl, rfl, rfl, h1, r1⟩ := trodAll_cons r0
  obtain ⟨rfl, rfl, rfl⟩ := trodAll_nil r1
  obtain rfl : args = #[v0, v1] := by cases args; simp_all
  have lt0 : ∀ x ∈ p0, x.block < W.heap.size := by obtain ⟨m, hm⟩ := h0; exact DataW.trod_lt m _ _ _ hm
  obtain ⟨x0, w0⟩ := arg_of (j := 0) (reads_sl T.sl_33_40_2 T.bytes_40_40 (by decide) reads_En) h0 hsz rfl rfl
  have lt1 : ∀ x ∈ p1, x.block < W.heap.size := by obtain ⟨m, hm⟩ := h1; exact DataW.trod_lt m _ _ _ hm
  obtain ⟨x1, w1⟩ := arg_of (j := 1) (reads_sl T.sl_29_9_1 T.bytes_9_16 (by decide) (reads_str T.str_9)) h1 hsz rfl rfl
  obtain ⟨a0, l0, c0, rfl⟩ := okWide_slice Try.underlying33 (hval 0 33 v0 rfl rfl)
  obtain ⟨a1, l1, c1, rfl⟩ := okWide_slice Try.underlying29 (hval 1 29 v1 rfl rfl)
  refine (ListNames_law w0 w1).mono fun e W' ⟨he, hb⟩ => ?_
  have bel := hb.below
  subst he
  exact ⟨_, rfl, _, _, _, [], _, [], hW', trodAll_mk1 (shut_bool Try.underlying4 _), (trodAll_cons_mk (Below.trod T.laidOut (by kernel_rfl) (of_decide_eq_true (by kernel_rfl)) h0 bel lt0) (trodAll_cons_mk (Below.trod T.laidOut (by kernel_rfl) (of_decide_eq_true (by kernel_rfl)) h1 bel lt1) trodAll_mk0)), rfl, bel.frame _, fun h => by cases h⟩
theorem ListNames_holds : Rows.ListNamesSaid :=
  OpenClaim.holds_of_wide 5 Try.f5 rfl rfl rfl rfl rfl rfl rfl ⟨rfl, rfl, rfl, rfl, rfl⟩ rfl rfl rfl rfl rfl (by kernel_rfl) Try.func5 (by kernel_rfl)
    (of_decide_eq_true (by kernel_rfl)) (by unfold Func.isWrapper; rw [if_neg (of_decide_eq_false (by kernel_rfl))]; exact ⟨rfl, rfl⟩)
    (fun os started H enc _ => ListNames_lifted os started H enc)
#print axioms ListNames_holds
end Go.Proofs.Ytdiocmjhencbpaa
