/-
  ListUnion: names of two prefixes are those of each, each once and in order; names of more prefixes are no fewer.
-/
import Derived.Test.YtdiocmjhencbpaaL10
import Derived.Test.YtdiocmjhencbpaaRows
namespace Go.Proofs.Ytdiocmjhencbpaa
set_option maxRecDepth 8000
set_option linter.unusedSimpArgs false
set_option linter.unusedVariables false
open Go Xe Go.Lib Go.RowKit Go.ChangeShapes Go.WideShapes Go.ChangeAt
theorem strs_lit {g : Hp} (xs : List ByteArray) (h : ∀ x ∈ xs, x.size ≤ reachBytes) : Els rdStr 1 g (xs.map Value.string) xs := by
  induction xs with
  | nil => exact Els.nil
  | cons x xs ih => exact (Els.one (cs := [Value.string x]) rfl ⟨rfl, h x (by simp)⟩).append (ih fun y hy => h y (by simp [hy]))
theorem p1 (a : ByteArray) (e : En) : pNames [a] e = begins e.name a := by simp [pNames]
theorem p2 (a b : ByteArray) (e : En) : pNames [a, b] e = (begins e.name a || begins e.name b) := by simp [pNames]
theorem p3 (a b : ByteArray) : pNames [b, a, b] = pNames [a, b] := by
  funext e
  simp only [pNames, List.length_cons, List.any_cons, List.any_nil, Bool.or_false]
  cases begins e.name a <;> cases begins e.name b <;> rfl
/-- Names rise. -/
theorem names_rise {es : List En} (h : Sorted es) {i : Nat} {a b : ByteArray} (ha : (es.map (·.name))[i]? = some a) (hb : (es.map (·.name))[i + 1]? = some b) : sl a b = true := by
  rw [List.getElem?_map] at ha hb
  obtain ⟨x, hx, rfl⟩ := Option.map_eq_some_iff.1 ha
  obtain ⟨y, hy, rfl⟩ := Option.map_eq_some_iff.1 hb
  obtain ⟨h1, rfl⟩ := List.getElem?_eq_some_iff.1 hx
  obtain ⟨h2, rfl⟩ := List.getElem?_eq_some_iff.1 hy
  exact List.pairwise_iff_getElem.1 h i (i + 1) h1 h2 (by omega)
theorem count_or (p q : En → Bool) : ∀ es : List En, (es.filter fun e => p e || q e).length ≤ (es.filter p).length + (es.filter q).length
  | [] => by simp
  | e :: es => by
    have := count_or p q es
    simp only [List.filter_cons]
    cases p e <;> cases q e <;> simp <;> omega
set_option maxHeartbeats 4000000 in
theorem ListUnion_law {w : World} {a : Option Addr} {len cap : Nat} {xs : List En} {s t : ByteArray} (hr : rdArg (rdSl 40 2 rdEn) w (.slice a len cap) xs) (hs1 : s.size ≤ reachBytes) (ht1 : t.size ≤ reachBytes) :
    Law Try.prog 6 [.slice a len cap, .string s, .string t] w := by
  unfold Law
  have hw := Sat.old w
  generalize w = W at hr hw ⊢
  have hr : (rdSl 40 2 rdEn) (hpOf W) [.slice a len cap] xs := hr
  refine calls_of_g (n := 152) Try.func6 rfl rfl rfl ?_
  change G _ _ _ _ _ [(0, _), (1, _), (2, _)] _
  refine g_seq ?_
  refine g_region ?_
  refine xV rfl rfl rfl (v_assign rfl) ?_
  refine rl_nil (g_le (xK (Fr.le_refl _)) ?_)
  refine g_seq ?_
  refine g_region ?_
  refine xV rfl rfl rfl (v_move rfl) ?_
  refine rl_k rfl (k_callf Try.func17 rfl rfl rfl rfl ?_)
  refine Calls.mono (grown_calls hr (hw.xQ)) ?_
  rintro _ w ⟨g1, h, A1, st, root, hh, u, la, ln, lc, hg1, hI1, hok, ht, _, hel, h7, hs, rfl, hall, hw⟩
  have hsr := ht.srt
  refine ⟨_, rfl, ?_⟩
  refine xV rfl rfl rfl (v_move rfl) ?_
  refine xV rfl rfl rfl (v_extract rfl rfl) ?_
  refine xV rfl rfl rfl (v_extract rfl rfl) ?_
  refine xV rfl rfl rfl (v_extract rfl rfl) ?_
  refine rl_k rfl (k_alloc hw T.zero_26 rfl rfl (fun bk1_6 w hw => ?_))
  refine xV rfl rfl rfl (v_assign rfl) ?_
  refine rl_k rfl (k_storeWhole hw T.agg_26_4 rfl rfl (by simp [Value.oneCell']) rfl (by (repeat first | with_reducible exact xH | apply xT); first | done | fail) rfl (fun w hw => ?_))
  refine xV rfl rfl rfl (v_assign rfl) ?_
  refine rl_nil (g_le (xS rfl (xK (xK (xS rfl (xS rfl (xS rfl (xS rfl (xS rfl (xS rfl (Fr.le_refl _)))))))))) ?_)
  refine g_seq (g_seq ?_)
  refine g_region ?_
  refine xV rfl rfl rfl (v_move rfl) ?_
  refine xV rfl rfl rfl (v_eqlNil T.ptr_27 rfl rfl) ?_
  refine rl_nil (g_le (xK (xS rfl (Fr.le_refl _))) ?_)
  refine g_cond_false rfl ?_
  refine g_skip (g_seq ?_)
  refine g_region ?_
  refine xV rfl rfl rfl (v_move rfl) ?_
  refine xV rfl rfl rfl (v_mkIface T.ptr_27 rfl) ?_
  refine rl_v rfl rfl rfl (by exact sat_cells hw (by (repeat first | with_reducible exact xH | apply xT); first | done | fail) ⟨rfl, rfl, rfl, rfl, trivial⟩) (v_loadAgg (vs := [_, _, _, _]) T.agg_26_4 rfl rfl) ?_
  refine xV rfl rfl rfl (v_move rfl) ?_
  refine rl_k rfl (k_buildSlice (cells := [_]) hw T.sl_29_9_1 T.zero_9 rfl rfl rfl rfl rfl rfl (fun bk4_4 w hw => ?_))
  refine rl_k rfl (k_callf Try.func10 rfl rfl rfl rfl ?_)
  obtain ⟨g2, hg2, hl2, hw⟩ := ((hw.xP (A := pt bk4_4 (.cells [Value.string s].toArray 9 (0, 0)))).xP (A := RO g1)).freeze_lit (R := rdStr) (sz := 1) (bytes := 16) mono_str (xs := [s]) (strs_lit [s] (by simpa using hs1)) rfl (by simp [maxLen]) (by simp [reachBytes])
  refine Calls.mono (lnames_calls ht (by omega) hok (HeapI.mono hg2 hI1) hl2 (hw.xQ)) ?_
  rintro _ w ⟨g3, A3, xa, xn, xc, hg3, hI3, rfl, hx3, hw⟩
  refine ⟨_, rfl, ?_⟩
  refine xV rfl rfl rfl (v_move rfl) ?_
  refine xV rfl rfl rfl (v_extract rfl rfl) ?_
  refine xV rfl rfl rfl (v_extract rfl rfl) ?_
  refine xV rfl rfl rfl (v_assign rfl) ?_
  refine xV rfl rfl rfl (v_assign rfl) ?_
  refine rl_nil (g_le (xK (xK (xS rfl (xS rfl (xS rfl (xS rfl (xS rfl (xS rfl (xS rfl (xS rfl (xS rfl (Fr.le_refl _)))))))))))) ?_)
  refine g_seq ?_
  refine g_region ?_
  refine xV rfl rfl rfl (v_move rfl) ?_
  refine xV rfl rfl rfl (v_mkIface T.ptr_27 rfl) ?_
  refine rl_v rfl rfl rfl (by exact sat_cells hw (by (repeat first | with_reducible exact xH | apply xT); first | done | fail) ⟨rfl, rfl, rfl, rfl, trivial⟩) (v_loadAgg (vs := [_, _, _, _]) T.agg_26_4 rfl rfl) ?_
  refine xV rfl rfl rfl (v_move rfl) ?_
  refine rl_k rfl (k_buildSlice (cells := [_]) hw T.sl_29_9_1 T.zero_9 rfl rfl rfl rfl rfl rfl (fun bk5_4 w hw => ?_))
  refine rl_k rfl (k_callf Try.func10 rfl rfl rfl rfl ?_)
  obtain ⟨g4, hg4, hl4, hw⟩ := ((hw.xP (A := pt bk5_4 (.cells [Value.string t].toArray 9 (0, 0)))).xP (A := RO g3)).freeze_lit (R := rdStr) (sz := 1) (bytes := 16) mono_str (xs := [t]) (strs_lit [t] (by simpa using ht1)) rfl (by simp [maxLen]) (by simp [reachBytes])
  refine Calls.mono (lnames_calls ht (by omega) hok (HeapI.mono hg4 hI3) hl4 (hw.xQ)) ?_
  rintro _ w ⟨g5, A5, ya, yn, yc, hg5, hI5, rfl, hy5, hw⟩
  refine ⟨_, rfl, ?_⟩
  refine xV rfl rfl rfl (v_move rfl) ?_
  refine xV rfl rfl rfl (v_extract rfl rfl) ?_
  refine xV rfl rfl rfl (v_extract rfl rfl) ?_
  refine xV rfl rfl rfl (v_assign rfl) ?_
  refine xV rfl rfl rfl (v_assign rfl) ?_
  refine rl_nil (g_le (xK (xK (xS rfl (xS rfl (xS rfl (xS rfl (xS rfl (xS rfl (xS rfl (xS rfl (xS rfl (Fr.le_refl _)))))))))))) ?_)
  refine g_seq ?_
  refine g_region ?_
  refine xV rfl rfl rfl (v_move rfl) ?_
  refine xV rfl rfl rfl (v_mkIface T.ptr_27 rfl) ?_
  refine rl_v rfl rfl rfl (by exact sat_cells hw (by (repeat first | with_reducible exact xH | apply xT); first | done | fail) ⟨rfl, rfl, rfl, rfl, trivial⟩) (v_loadAgg (vs := [_, _, _, _]) T.agg_26_4 rfl rfl) ?_
  refine xV rfl rfl rfl (v_move rfl) ?_
  refine xV rfl rfl rfl (v_move rfl) ?_
  refine rl_k rfl (k_buildSlice (cells := [_, _]) hw T.sl_29_9_1 T.zero_9 rfl rfl rfl rfl rfl rfl (fun bk6_5 w hw => ?_))
  refine rl_k rfl (k_callf Try.func10 rfl rfl rfl rfl ?_)
  obtain ⟨g6, hg6, hl6, hw⟩ := ((hw.xP (A := pt bk6_5 (.cells [Value.string s, Value.string t].toArray 9 (0, 0)))).xP (A := RO g5)).freeze_lit (R := rdStr) (sz := 1) (bytes := 16) mono_str (xs := [s, t]) (strs_lit [s, t] (by simp [hs1, ht1])) rfl (by simp [maxLen]) (by simp [reachBytes])
  refine Calls.mono (lnames_calls ht (by omega) hok (HeapI.mono hg6 hI5) hl6 (hw.xQ)) ?_
  rintro _ w ⟨g7, A7, ba, bn, bc, hg7, hI7, rfl, hb7, hw⟩
  refine ⟨_, rfl, ?_⟩
  refine xV rfl rfl rfl (v_move rfl) ?_
  refine xV rfl rfl rfl (v_extract rfl rfl) ?_
  refine xV rfl rfl rfl (v_extract rfl rfl) ?_
  refine xV rfl rfl rfl (v_assign rfl) ?_
  refine xV rfl rfl rfl (v_assign rfl) ?_
  refine rl_nil (g_le (xK (xK (xS rfl (xS rfl (xS rfl (xS rfl (xS rfl (xS rfl (xS rfl (xS rfl (xS rfl (xS rfl (Fr.le_refl _))))))))))))) ?_)
  refine g_seq ?_
  refine g_region ?_
  refine xV rfl rfl rfl (v_move rfl) ?_
  refine xV rfl rfl rfl (v_mkIface T.ptr_27 rfl) ?_
  refine rl_v rfl rfl rfl (by exact sat_cells hw (by (repeat first | with_reducible exact xH | apply xT); first | done | fail) ⟨rfl, rfl, rfl, rfl, trivial⟩) (v_loadAgg (vs := [_, _, _, _]) T.agg_26_4 rfl rfl) ?_
  refine xV rfl rfl rfl (v_move rfl) ?_
  refine xV rfl rfl rfl (v_move rfl) ?_
  refine xV rfl rfl rfl (v_move rfl) ?_
  refine rl_k rfl (k_buildSlice (cells := [_, _, _]) hw T.sl_29_9_1 T.zero_9 rfl rfl rfl rfl rfl rfl (fun bk7_6 w hw => ?_))
  refine rl_k rfl (k_callf Try.func10 rfl rfl rfl rfl ?_)
  obtain ⟨g8, hg8, hl8, hw⟩ := ((hw.xP (A := pt bk7_6 (.cells [Value.string t, Value.string s, Value.string t].toArray 9 (0, 0)))).xP (A := RO g7)).freeze_lit (R := rdStr) (sz := 1) (bytes := 16) mono_str (xs := [t, s, t]) (strs_lit [t, s, t] (by simp [hs1, ht1])) rfl (by simp [maxLen]) (by simp [reachBytes])
  refine Calls.mono (lnames_calls ht (by omega) hok (HeapI.mono hg8 hI7) hl8 (hw.xQ)) ?_
  rw [p3]
  rintro _ w ⟨g9, A9, ua, un, uc, hg9, hI9, rfl, hu9, hw⟩
  refine ⟨_, rfl, ?_⟩
  refine xV rfl rfl rfl (v_move rfl) ?_
  refine xV rfl rfl rfl (v_extract rfl rfl) ?_
  refine xV rfl rfl rfl (v_extract rfl rfl) ?_
  refine xV rfl rfl rfl (v_assign rfl) ?_
  refine xV rfl rfl rfl (v_assign rfl) ?_
  refine rl_nil (g_le (xK (xK (xS rfl (xS rfl (xS rfl (xS rfl (xS rfl (xS rfl (xS rfl (xS rfl (xS rfl (xS rfl (xS rfl (Fr.le_refl _)))))))))))))) ?_)
  refine g_seq (g_seq ?_)
  have hb9 := mono_sl mono_str (hg8.trans hg9) hb7
  have hy9 := mono_sl mono_str (hg6.trans (hg7.trans (hg8.trans hg9))) hy5
  have hx9 := mono_sl mono_str (hg4.trans (hg5.trans (hg6.trans (hg7.trans (hg8.trans hg9))))) hx3
  have hle9 : (hpOf W).le g9 := hg1.trans (hg2.trans (hg3.trans (hg4.trans (hg5.trans (hg6.trans (hg7.trans (hg8.trans hg9)))))))
  refine g_region ?_
  refine xV rfl rfl rfl (v_move rfl) ?_
  refine xV rfl rfl rfl (v_neqF rfl rfl (by omega)) ?_
  refine xV rfl rfl rfl (v_move rfl) ?_
  refine rl_vg (met_on rfl rfl rfl rfl) rfl rfl (S := fun _ => True) trivial (v_move rfl) ?_
  refine rl_vg (met_on rfl rfl rfl rfl) rfl rfl (S := fun _ => True) trivial (v_neqF rfl rfl (by omega)) ?_
  refine xV rfl rfl rfl (v_pick_false rfl rfl) ?_
  refine xV rfl rfl rfl (v_move rfl) ?_
  refine rl_vg (met_on rfl rfl rfl rfl) rfl rfl (S := fun _ => True) trivial (v_move rfl) ?_
  refine rl_vg (met_on rfl rfl rfl rfl) rfl rfl (S := fun _ => True) trivial (v_neqF rfl rfl (by omega)) ?_
  refine xV rfl rfl rfl (v_pick_false rfl rfl) ?_
  refine xV rfl rfl rfl (v_move rfl) ?_
  refine rl_vg (met_on rfl rfl rfl rfl) rfl rfl (S := fun _ => True) trivial (v_move rfl) ?_
  refine rl_vg (met_on rfl rfl rfl rfl) rfl rfl (S := fun _ => True) trivial (v_neqF rfl rfl (by omega)) ?_
  refine xV rfl rfl rfl (v_pick_false rfl rfl) ?_
  refine xV rfl rfl rfl (v_move rfl) ?_
  refine rl_vg (met_on rfl rfl rfl rfl) rfl rfl (S := fun _ => True) trivial (v_move rfl) ?_
  refine rl_vg (met_on rfl rfl rfl rfl) rfl rfl (S := fun _ => True) trivial (v_move rfl) ?_
  refine rl_kg (met_on rfl rfl rfl rfl) (k_callf Try.func23 rfl rfl rfl rfl ?_); refine Calls.mono (sameTexts_calls hb9 hu9 (hw.xQ)) ?_; rintro _ w ⟨rfl, hw⟩; refine ⟨_, rfl, ?_⟩
  refine rl_vg (met_on rfl rfl rfl rfl) rfl rfl (S := fun _ => True) trivial (v_not rfl) ?_
  refine xV rfl rfl rfl (v_pick_false rfl rfl) ?_
  refine rl_nil (g_le (xK (xS rfl (xS rfl (xS rfl (xS rfl (xS rfl (xS rfl (xS rfl (xS rfl (xS rfl (xS rfl (xS rfl (xS rfl (xS rfl (xS rfl (xS rfl (xS rfl (xS rfl (xS rfl (xS rfl (Fr.le_refl _))))))))))))))))))))) ?_)
  refine g_cond_false rfl ?_
  refine g_skip (g_seq (g_seq ?_))
  have hcnt := count_or (fun e => begins e.name s) (fun e => begins e.name t) (entsU hh u)
  have hsrf := hsr.filter (pNames [s, t])
  have e1 : pNames [s] = fun e => begins e.name s := funext fun e => p1 s e
  have e2 : pNames [t] = fun e => begins e.name t := funext fun e => p1 t e
  have e3 : pNames [s, t] = fun e => begins e.name s || begins e.name t := funext fun e => p2 s t e
  rw [e1] at hx9
  rw [e2] at hy9
  rw [e3] at hb9 hsrf
  have hmb : ∀ n, n ∈ ((entsU hh u).filter fun e => begins e.name s || begins e.name t).map (·.name) ↔ (n ∈ ((entsU hh u).filter fun e => begins e.name s).map (·.name) ∨ n ∈ ((entsU hh u).filter fun e => begins e.name t).map (·.name)) := fun n => by simp only [List.mem_map, List.mem_filter, Bool.or_eq_true]; constructor; (rintro ⟨e, ⟨he, h1 | h1⟩, rfl⟩; exact .inl ⟨e, ⟨he, h1⟩, rfl⟩; exact .inr ⟨e, ⟨he, h1⟩, rfl⟩); (rintro (⟨e, ⟨he, h1⟩, rfl⟩ | ⟨e, ⟨he, h1⟩, rfl⟩); exact ⟨e, ⟨he, .inl h1⟩, rfl⟩; exact ⟨e, ⟨he, .inr h1⟩, rfl⟩)
  have hris := fun i a b => names_rise (i := i) (a := a) (b := b) hsrf
  have hcx : (((entsU hh u).filter fun e => begins e.name s).map (·.name)).length = ((entsU hh u).filter fun e => begins e.name s).length := List.length_map _
  have hcy : (((entsU hh u).filter fun e => begins e.name t).map (·.name)).length = ((entsU hh u).filter fun e => begins e.name t).length := List.length_map _
  have hcb : (((entsU hh u).filter fun e => begins e.name s || begins e.name t).map (·.name)).length = ((entsU hh u).filter fun e => begins e.name s || begins e.name t).length := List.length_map _
  have hbx := List.length_filter_le (fun e : En => begins e.name s) (entsU hh u)
  have hby := List.length_filter_le (fun e : En => begins e.name t) (entsU hh u)
  rw [← hcx] at hbx
  rw [← hcy] at hby
  rw [← hcx, ← hcy, ← hcb] at hcnt
  clear hcx hcy hcb hsrf e1 e2 e3
  generalize ((entsU hh u).filter fun e => begins e.name s).map (·.name) = nx at *
  generalize ((entsU hh u).filter fun e => begins e.name t).map (·.name) = ny at *
  generalize ((entsU hh u).filter fun e => begins e.name s || begins e.name t).map (·.name) = nb at *
  obtain ⟨rfl, _, hbc, hbm, gb⟩ := rdSl_get hb9
  obtain ⟨rfl, _, hxc, hxm, gx⟩ := rdSl_get hx9
  obtain ⟨rfl, _, hyc, hym, gy⟩ := rdSl_get hy9
  simp only [maxLen] at hbm hxm hym
  refine g_region ?_
  refine xV rfl rfl rfl (v_move rfl) ?_
  refine xV rfl rfl rfl (v_lenSlice T.sl_29_9_1 rfl) ?_
  refine xV rfl rfl rfl (v_move rfl) ?_
  refine rl_nil (g_le (xK (xK (xK (Fr.le_refl _)))) ?_)
  refine g_block ?_
  refine g_loopC (σ := Nat) (fun C x => (93, .int .i64 (x : Nat)) :: C) [(6, _), (10, _), (12, _), (14, _), (91, _), (92, _)] (by repeat (first | exact Fr.le_nil _ | refine Fr.le_cons rfl ?_)) (fun z w => z ≤ nb.length ∧ Sat (envOf W) w (RO g9 :: [])) (fun z => nb.length - z) ?_ 0 (by repeat (first | exact Fr.le_nil _ | refine Fr.le_cons rfl ?_)) ⟨by simp, hw.xQ⟩
  rintro i w ⟨hi1, hw⟩ ih
  refine g_seq ?_
  refine g_region ?_
  refine xV rfl rfl rfl (v_lss rfl rfl) ?_
  refine rl_nil (g_le (xK (Fr.le_refl _)) ?_)
  refine g_seq ?_
  refine g_cond rfl (fun h3 => ?_) (fun h3 => ?_)
  · try with_reducible exact ft_elim h3
    all_goals
      try replace h3 := of_decide_eq_true h3
      refine g_skip (g_seq (g_block (g_seq ?_)))
      have hz := hw
      clear hw
      obtain ⟨b4, o1, x, ecs, rfl, hx, hat1, hl1, hq, hxr⟩ := gb (i : Nat) (by omega) (by omega)
      subst hq
      rw [Int.toNat_natCast] at hx hat1
      have hmx := (hmb x).1 (List.mem_of_getElem? hx)
      have hw := hz
      refine g_region ?_
      refine xV rfl rfl rfl (v_move rfl) ?_
      refine xV rfl rfl rfl (v_indexAddr T.sl_29_9_1 rfl rfl (by omega) (by omega)) ?_
      refine rl_v rfl rfl rfl (by exact ro_at0 hw (by (repeat first | with_reducible exact xH | apply xT); first | done | fail) (by assumption) rfl) (v_load T.scal_9 rfl) ?_
      refine xV rfl rfl rfl (v_assign rfl) ?_
      refine xV rfl rfl rfl (v_assign rfl) ?_
      refine rl_nil (g_le (xK (xK (xK (xK (xK (Fr.le_refl _)))))) ?_)
      refine g_seq ?_
      refine g_region ?_
      refine xV rfl rfl rfl (v_move rfl) ?_
      refine xV rfl rfl rfl (v_gtr rfl rfl) ?_
      refine xV rfl rfl rfl (v_move rfl) ?_
      refine rl_split (s := 100) rfl (fun g13_2 => ?_) (fun g13_2 => ?_)
      · try with_reducible exact ft_elim g13_2
        all_goals
          try replace g13_2 := of_decide_eq_true g13_2
          obtain ⟨b5, o5, y, ycs, hz9, hy, hat5, hl5, hq, hyr⟩ := gb ((i : Int) - 1) (by omega) (by omega)
          subst hq
          simp only [Option.some.injEq, Addr.mk.injEq, and_true] at hz9
          obtain ⟨rfl, rfl⟩ := hz9
          have hrs := hris (i - 1) y x (by rw [show ((i : Int) - 1).toNat = i - 1 by omega] at hy; exact hy) (by rw [show i - 1 + 1 = i by omega]; exact hx)
          refine rl_vg (met_on rfl rfl rfl rfl) rfl rfl (S := fun _ => True) trivial (v_move rfl) ?_
          refine rl_vg (met_on rfl rfl rfl rfl) rfl rfl (S := fun _ => True) trivial (v_move rfl) ?_
          refine rl_vg (met_on rfl rfl rfl rfl) rfl rfl (S := fun _ => True) trivial (v_sub rfl rfl (by omega)) ?_
          refine rl_vg (met_on rfl rfl rfl rfl) rfl rfl (S := fun _ => True) trivial (v_indexAddr T.sl_29_9_1 rfl rfl (by omega) (by omega)) ?_
          refine rl_vg (met_on rfl rfl rfl rfl) rfl rfl (by exact ro_at0 hw (by (repeat first | with_reducible exact xH | apply xT); first | done | fail) (by assumption) rfl) (v_load T.scal_9 rfl) ?_
          refine rl_vg (met_on rfl rfl rfl rfl) rfl rfl (S := fun _ => True) trivial (v_move rfl) ?_
          refine rl_vg (met_on rfl rfl rfl rfl) rfl rfl (S := fun _ => True) trivial (v_geqStr rfl rfl) ?_
          refine xV rfl rfl rfl (v_pick_true rfl rfl) ?_
          refine xV rfl rfl rfl (v_move rfl) ?_
          refine rl_split (s := 109) rfl (fun g13_11 => ?_) (fun g13_11 => ?_)
          · try with_reducible exact ft_elim g13_11
            all_goals
              try replace g13_11 := of_decide_eq_true g13_11
              simp [hrs] at g13_11
          · try with_reducible exact tf_elim g13_11
            all_goals
              try replace g13_11 := of_decide_eq_false g13_11
              refine rl_vg (met_on rfl rfl rfl rfl) rfl rfl (S := fun _ => True) trivial (v_move rfl) ?_
              refine rl_vg (met_on rfl rfl rfl rfl) rfl rfl (S := fun _ => True) trivial (v_move rfl) ?_
              refine rl_kg (met_on rfl rfl rfl rfl) (k_callf Try.func25 rfl rfl rfl rfl ?_)
              refine Calls.mono (inTexts_calls x hx9 (hw.xQ)) ?_
              rintro _ w ⟨rfl, hw⟩
              refine ⟨_, rfl, ?_⟩
              refine rl_vg (met_on rfl rfl rfl rfl) rfl rfl (S := fun _ => True) trivial (v_not rfl) ?_
              refine rl_vg (met_on rfl rfl rfl rfl) rfl rfl (S := fun _ => True) trivial (v_move rfl) ?_
              refine rl_split (s := 114) rfl (fun g13_16 => ?_) (fun g13_16 => ?_)
              · try with_reducible exact ft_elim g13_16
                all_goals
                  try replace g13_16 := of_decide_eq_true g13_16
                  refine rl_vg (met_on rfl rfl rfl rfl) rfl rfl (S := fun _ => True) trivial (v_move rfl) ?_
                  refine rl_vg (met_on rfl rfl rfl rfl) rfl rfl (S := fun _ => True) trivial (v_move rfl) ?_
                  refine rl_kg (met_on rfl rfl rfl rfl) (k_callf Try.func25 rfl rfl rfl rfl ?_)
                  refine Calls.mono (inTexts_calls x hy9 (hw.xQ)) ?_
                  rintro _ w ⟨rfl, hw⟩
                  refine ⟨_, rfl, ?_⟩
                  refine rl_vg (met_on rfl rfl rfl rfl) rfl rfl (S := fun _ => True) trivial (v_not rfl) ?_
                  refine rl_vg (met_on rfl rfl rfl rfl) rfl rfl (S := fun _ => True) trivial (v_pick_true rfl rfl) ?_
                  refine xV rfl rfl rfl (v_pick_false rfl rfl) ?_
                  refine rl_nil (g_le (xK (xK (xK (xK (xK (xK (xK (xK (xK (xK (xK (xK (xK (xK (xK (xK (xK (xK (xK (xK (xK (xK (xK (xK (xK (xK (Fr.le_refl _))))))))))))))))))))))))))) ?_)
                  refine g_cond rfl (fun h4 => ?_) (fun h4 => ?_)
                  · try with_reducible exact ft_elim h4
                    all_goals
                      try replace h4 := of_decide_eq_true h4
                      exfalso
                      by_cases h7 : inT x nx = true
                      (rw [h7] at g13_16; simp at g13_16)
                      have h8 : inT x nx = false := Bool.eq_false_iff.2 h7
                      rcases hmx with hm | hm
                      exact h7 (inT_iff.2 hm)
                      simp [inT_iff.2 hm] at h4
                  · try with_reducible exact tf_elim h4
                    all_goals
                      try replace h4 := of_decide_eq_false h4
                      refine g_skip (g_inBlock ?_)
                      refine g_region ?_
                      refine xV rfl rfl rfl (v_add rfl rfl (by omega)) ?_
                      refine xV rfl rfl rfl (v_move rfl) ?_
                      refine rl_nil (g_le (xK (xK (Fr.le_refl _))) ?_)
                      exact g_le (by repeat (first | exact Fr.le_nil _ | refine Fr.le_cons rfl ?_)) (ih (i + 1) w ⟨by omega, hw.xQ⟩ (by omega))
              · try with_reducible exact tf_elim g13_16
                all_goals
                  try replace g13_16 := of_decide_eq_false g13_16
                  refine rl_off (met_off rfl rfl rfl rfl rfl) rfl rfl ?_
                  refine rl_off (met_off rfl rfl rfl rfl rfl) rfl rfl ?_
                  refine rl_off (met_off rfl rfl rfl rfl rfl) rfl rfl ?_
                  refine rl_off (met_off rfl rfl rfl rfl rfl) rfl rfl ?_
                  refine rl_vg (met_on rfl rfl rfl rfl) rfl rfl (S := fun _ => True) trivial (v_pick_false rfl rfl) ?_
                  refine xV rfl rfl rfl (v_pick_false rfl rfl) ?_
                  refine rl_nil (g_le (xK (xK (xK (xK (xK (xK (xK (xK (xK (xK (xK (xK (xK (xK (xK (xK (xK (xK (xK (xK (xK (xK (xK (xK (xK (xK (Fr.le_refl _))))))))))))))))))))))))))) ?_)
                  refine g_cond_false rfl ?_
                  refine g_skip (g_inBlock ?_)
                  refine g_region ?_
                  refine xV rfl rfl rfl (v_add rfl rfl (by omega)) ?_
                  refine xV rfl rfl rfl (v_move rfl) ?_
                  refine rl_nil (g_le (xK (xK (Fr.le_refl _))) ?_)
                  exact g_le (by repeat (first | exact Fr.le_nil _ | refine Fr.le_cons rfl ?_)) (ih (i + 1) w ⟨by omega, hw.xQ⟩ (by omega))
      · try with_reducible exact tf_elim g13_2
        all_goals
          try replace g13_2 := of_decide_eq_false g13_2
          refine rl_off (met_off rfl rfl rfl rfl rfl) rfl rfl ?_
          refine rl_off (met_off rfl rfl rfl rfl rfl) rfl rfl ?_
          refine rl_off (met_off rfl rfl rfl rfl rfl) rfl rfl ?_
          refine rl_off (met_off rfl rfl rfl rfl rfl) rfl rfl ?_
          refine rl_off (met_off rfl rfl rfl rfl rfl) rfl rfl ?_
          refine rl_off (met_off rfl rfl rfl rfl rfl) rfl rfl ?_
          refine rl_off (met_off rfl rfl rfl rfl rfl) rfl rfl ?_
          refine xV rfl rfl rfl (v_pick_false rfl rfl) ?_
          refine xV rfl rfl rfl (v_move rfl) ?_
          refine rl_vg (met_on rfl rfl rfl rfl) rfl rfl (S := fun _ => True) trivial (v_move rfl) ?_
          refine rl_vg (met_on rfl rfl rfl rfl) rfl rfl (S := fun _ => True) trivial (v_move rfl) ?_
          refine rl_kg (met_on rfl rfl rfl rfl) (k_callf Try.func25 rfl rfl rfl rfl ?_)
          refine Calls.mono (inTexts_calls x hx9 (hw.xQ)) ?_
          rintro _ w ⟨rfl, hw⟩
          refine ⟨_, rfl, ?_⟩
          refine rl_vg (met_on rfl rfl rfl rfl) rfl rfl (S := fun _ => True) trivial (v_not rfl) ?_
          refine rl_vg (met_on rfl rfl rfl rfl) rfl rfl (S := fun _ => True) trivial (v_move rfl) ?_
          refine rl_split (s := 114) rfl (fun g13_16 => ?_) (fun g13_16 => ?_)
          · try with_reducible exact ft_elim g13_16
            all_goals
              try replace g13_16 := of_decide_eq_true g13_16
              refine rl_vg (met_on rfl rfl rfl rfl) rfl rfl (S := fun _ => True) trivial (v_move rfl) ?_
              refine rl_vg (met_on rfl rfl rfl rfl) rfl rfl (S := fun _ => True) trivial (v_move rfl) ?_
              refine rl_kg (met_on rfl rfl rfl rfl) (k_callf Try.func25 rfl rfl rfl rfl ?_)
              refine Calls.mono (inTexts_calls x hy9 (hw.xQ)) ?_
              rintro _ w ⟨rfl, hw⟩
              refine ⟨_, rfl, ?_⟩
              refine rl_vg (met_on rfl rfl rfl rfl) rfl rfl (S := fun _ => True) trivial (v_not rfl) ?_
              refine rl_vg (met_on rfl rfl rfl rfl) rfl rfl (S := fun _ => True) trivial (v_pick_true rfl rfl) ?_
              refine xV rfl rfl rfl (v_pick_false rfl rfl) ?_
              refine rl_nil (g_le (xK (xK (xK (xK (xK (xK (xK (xK (xK (xK (xK (xK (xK (xK (xK (xK (xK (xK (xK (xK (xK (xK (xK (xK (xK (Fr.le_refl _)))))))))))))))))))))))))) ?_)
              refine g_cond rfl (fun h4 => ?_) (fun h4 => ?_)
              · try with_reducible exact ft_elim h4
                all_goals
                  try replace h4 := of_decide_eq_true h4
                  exfalso
                  by_cases h7 : inT x nx = true
                  (rw [h7] at g13_16; simp at g13_16)
                  have h8 : inT x nx = false := Bool.eq_false_iff.2 h7
                  rcases hmx with hm | hm
                  exact h7 (inT_iff.2 hm)
                  simp [inT_iff.2 hm] at h4
              · try with_reducible exact tf_elim h4
                all_goals
                  try replace h4 := of_decide_eq_false h4
                  refine g_skip (g_inBlock ?_)
                  refine g_region ?_
                  refine xV rfl rfl rfl (v_add rfl rfl (by omega)) ?_
                  refine xV rfl rfl rfl (v_move rfl) ?_
                  refine rl_nil (g_le (xK (xK (Fr.le_refl _))) ?_)
                  exact g_le (by repeat (first | exact Fr.le_nil _ | refine Fr.le_cons rfl ?_)) (ih (i + 1) w ⟨by omega, hw.xQ⟩ (by omega))
          · try with_reducible exact tf_elim g13_16
            all_goals
              try replace g13_16 := of_decide_eq_false g13_16
              refine rl_off (met_off rfl rfl rfl rfl rfl) rfl rfl ?_
              refine rl_off (met_off rfl rfl rfl rfl rfl) rfl rfl ?_
              refine rl_off (met_off rfl rfl rfl rfl rfl) rfl rfl ?_
              refine rl_off (met_off rfl rfl rfl rfl rfl) rfl rfl ?_
              refine rl_vg (met_on rfl rfl rfl rfl) rfl rfl (S := fun _ => True) trivial (v_pick_false rfl rfl) ?_
              refine xV rfl rfl rfl (v_pick_false rfl rfl) ?_
              refine rl_nil (g_le (xK (xK (xK (xK (xK (xK (xK (xK (xK (xK (xK (xK (xK (xK (xK (xK (xK (xK (xK (xK (xK (xK (xK (xK (xK (Fr.le_refl _)))))))))))))))))))))))))) ?_)
              refine g_cond_false rfl ?_
              refine g_skip (g_inBlock ?_)
              refine g_region ?_
              refine xV rfl rfl rfl (v_add rfl rfl (by omega)) ?_
              refine xV rfl rfl rfl (v_move rfl) ?_
              refine rl_nil (g_le (xK (xK (Fr.le_refl _))) ?_)
              exact g_le (by repeat (first | exact Fr.le_nil _ | refine Fr.le_cons rfl ?_)) (ih (i + 1) w ⟨by omega, hw.xQ⟩ (by omega))
  · try with_reducible exact tf_elim h3
    all_goals
      try replace h3 := of_decide_eq_false h3
      refine g_exit rfl (g_seq (g_seq ?_))
      refine g_region ?_
      refine xV rfl rfl rfl (v_move rfl) ?_
      refine xV rfl rfl rfl (v_lenSlice T.sl_29_9_1 rfl) ?_
      refine xV rfl rfl rfl (v_move rfl) ?_
      refine rl_nil (g_le (xK (xK (xK (Fr.le_refl _)))) ?_)
      refine g_block ?_
      refine g_loopC (σ := Nat) (fun C x => (124, .int .i64 (x : Nat)) :: C) [(6, _), (10, _), (12, _), (14, _), (122, _), (123, _)] (by repeat (first | exact Fr.le_nil _ | refine Fr.le_cons rfl ?_)) (fun z w => z ≤ nx.length ∧ Sat (envOf W) w (RO g9 :: [])) (fun z => nx.length - z) ?_ 0 (by repeat (first | exact Fr.le_nil _ | refine Fr.le_cons rfl ?_)) ⟨by simp, hw.xQ⟩
      rintro j w ⟨hj1, hw⟩ ih2
      refine g_seq ?_
      refine g_region ?_
      refine xV rfl rfl rfl (v_lss rfl rfl) ?_
      refine rl_nil (g_le (xK (Fr.le_refl _)) ?_)
      refine g_seq ?_
      refine g_cond rfl (fun h5 => ?_) (fun h5 => ?_)
      · try with_reducible exact ft_elim h5
        all_goals
          try replace h5 := of_decide_eq_true h5
          refine g_skip (g_seq (g_block (g_seq ?_)))
          have hz := hw
          clear hw
          obtain ⟨b4, o1, x, ecs, rfl, hx, hat1, hl1, hq, hxr⟩ := gx (j : Nat) (by omega) (by omega)
          subst hq
          rw [Int.toNat_natCast] at hx hat1
          have hmx := (hmb x).2 (.inl (List.mem_of_getElem? hx))
          have hw := hz
          refine g_region ?_
          refine xV rfl rfl rfl (v_indexAddr T.sl_29_9_1 rfl rfl (by omega) (by omega)) ?_
          refine rl_v rfl rfl rfl (by exact ro_at0 hw (by (repeat first | with_reducible exact xH | apply xT); first | done | fail) (by assumption) rfl) (v_load T.scal_9 rfl) ?_
          refine xV rfl rfl rfl (v_assign rfl) ?_
          refine rl_nil (g_le (xK (xK (xK (Fr.le_refl _)))) ?_)
          refine g_seq ?_
          refine g_region ?_
          refine xV rfl rfl rfl (v_move rfl) ?_
          refine xV rfl rfl rfl (v_move rfl) ?_
          refine rl_k rfl (k_callf Try.func25 rfl rfl rfl rfl ?_)
          refine Calls.mono (inTexts_calls x hb9 (hw.xQ)) ?_
          rw [inT_iff.2 hmx]
          rintro _ w ⟨rfl, hw⟩
          refine ⟨_, rfl, ?_⟩
          refine xV rfl rfl rfl (v_not rfl) ?_
          refine rl_nil (g_le (xK (xK (xK (xK (Fr.le_refl _))))) ?_)
          refine g_cond_false rfl ?_
          refine g_skip (g_inBlock ?_)
          refine g_region ?_
          refine xV rfl rfl rfl (v_add rfl rfl (by omega)) ?_
          refine xV rfl rfl rfl (v_move rfl) ?_
          refine rl_nil (g_le (xK (xK (Fr.le_refl _))) ?_)
          exact g_le (by repeat (first | exact Fr.le_nil _ | refine Fr.le_cons rfl ?_)) (ih2 (j + 1) w ⟨by omega, hw.xQ⟩ (by omega))
      · try with_reducible exact tf_elim h5
        all_goals
          try replace h5 := of_decide_eq_false h5
          refine g_exit rfl (g_seq (g_seq ?_))
          refine g_region ?_
          refine xV rfl rfl rfl (v_move rfl) ?_
          refine xV rfl rfl rfl (v_lenSlice T.sl_29_9_1 rfl) ?_
          refine xV rfl rfl rfl (v_move rfl) ?_
          refine rl_nil (g_le (xK (xK (xK (Fr.le_refl _)))) ?_)
          refine g_block ?_
          refine g_loopC (σ := Nat) (fun C x => (135, .int .i64 (x : Nat)) :: C) [(6, _), (10, _), (12, _), (14, _), (133, _), (134, _)] (by repeat (first | exact Fr.le_nil _ | refine Fr.le_cons rfl ?_)) (fun z w => z ≤ ny.length ∧ Sat (envOf W) w (RO g9 :: [])) (fun z => ny.length - z) ?_ 0 (by repeat (first | exact Fr.le_nil _ | refine Fr.le_cons rfl ?_)) ⟨by simp, hw.xQ⟩
          rintro j w ⟨hj1, hw⟩ ih2
          refine g_seq ?_
          refine g_region ?_
          refine xV rfl rfl rfl (v_lss rfl rfl) ?_
          refine rl_nil (g_le (xK (Fr.le_refl _)) ?_)
          refine g_seq ?_
          refine g_cond rfl (fun h7 => ?_) (fun h7 => ?_)
          · try with_reducible exact ft_elim h7
            all_goals
              try replace h7 := of_decide_eq_true h7
              refine g_skip (g_seq (g_block (g_seq ?_)))
              have hz := hw
              clear hw
              obtain ⟨b4, o1, x, ecs, rfl, hx, hat1, hl1, hq, hxr⟩ := gy (j : Nat) (by omega) (by omega)
              subst hq
              rw [Int.toNat_natCast] at hx hat1
              have hmx := (hmb x).2 (.inr (List.mem_of_getElem? hx))
              have hw := hz
              refine g_region ?_
              refine xV rfl rfl rfl (v_indexAddr T.sl_29_9_1 rfl rfl (by omega) (by omega)) ?_
              refine rl_v rfl rfl rfl (by exact ro_at0 hw (by (repeat first | with_reducible exact xH | apply xT); first | done | fail) (by assumption) rfl) (v_load T.scal_9 rfl) ?_
              refine xV rfl rfl rfl (v_assign rfl) ?_
              refine rl_nil (g_le (xK (xK (xK (Fr.le_refl _)))) ?_)
              refine g_seq ?_
              refine g_region ?_
              refine xV rfl rfl rfl (v_move rfl) ?_
              refine xV rfl rfl rfl (v_move rfl) ?_
              refine rl_k rfl (k_callf Try.func25 rfl rfl rfl rfl ?_)
              refine Calls.mono (inTexts_calls x hb9 (hw.xQ)) ?_
              rw [inT_iff.2 hmx]
              rintro _ w ⟨rfl, hw⟩
              refine ⟨_, rfl, ?_⟩
              refine xV rfl rfl rfl (v_not rfl) ?_
              refine rl_nil (g_le (xK (xK (xK (xK (Fr.le_refl _))))) ?_)
              refine g_cond_false rfl ?_
              refine g_skip (g_inBlock ?_)
              refine g_region ?_
              refine xV rfl rfl rfl (v_add rfl rfl (by omega)) ?_
              refine xV rfl rfl rfl (v_move rfl) ?_
              refine rl_nil (g_le (xK (xK (Fr.le_refl _))) ?_)
              exact g_le (by repeat (first | exact Fr.le_nil _ | refine Fr.le_cons rfl ?_)) (ih2 (j + 1) w ⟨by omega, hw.xQ⟩ (by omega))
          · try with_reducible exact tf_elim h7
            all_goals
              try replace h7 := of_decide_eq_false h7
              refine g_exit rfl (g_seq ?_)
              refine g_region ?_
              refine xV rfl rfl rfl (v_move rfl) ?_
              refine xV rfl rfl rfl (v_lenSlice T.sl_29_9_1 rfl) ?_
              refine xV rfl rfl rfl (v_move rfl) ?_
              refine xV rfl rfl rfl (v_lenSlice T.sl_29_9_1 rfl) ?_
              refine xV rfl rfl rfl (v_move rfl) ?_
              refine xV rfl rfl rfl (v_lenSlice T.sl_29_9_1 rfl) ?_
              refine xV rfl rfl rfl (v_add rfl rfl (by omega)) ?_
              refine xV rfl rfl rfl (v_leqT rfl rfl (by omega)) ?_
              refine xV rfl rfl rfl (v_assign rfl) ?_
              refine rl_nil (g_le (xK (xS rfl (xS rfl (xS rfl (xS rfl (xS rfl (xS rfl (xS rfl (xS rfl (Fr.le_refl _)))))))))) ?_)
              refine g_ret1 Try.func6 rfl rfl ?_
              exact ⟨rfl, (hw.xQ : Sat (envOf W) w [RO g9]).shrink hle9⟩

set_option maxRecDepth 100000 in
theorem ListUnion_lifted (os : Os) (started : os.Started) (H : Type) (enc : TypeId × Value → H) :
    ReturnsInHanded {} Try.checked os 6 .any (Rows.listUnionSpec.pre6 enc Try.prog Try.f6 Rows.listUnionRow.domain false) (Rows.listUnionSpec.post enc Try.prog Try.f6 false true false false) := by
  refine returnsInHanded_of_change_sized (C := Try.checked) T.own started (by kernel_rfl) Try.func6
    (ChangeSpec.witness6 (enc := enc) (C := Try.checked) false ⟨#[], #[(.slice none 0 0), (.string ByteArray.empty), (.string ByteArray.empty)], []⟩ 8 (by kernel_rfl) (by kernel_rfl) (by kernel_rfl) (by kernel_rfl)) ?_
  intro W base args ds gs before hval0 hW hcnd hsz0 _
  have hval : ∀ (j : Nat) t v, Try.f6.params[j]? = some t → args[j]? = some v → Value.okWide Try.prog W .any base t v := hval0
  have hW' := hW
  obtain ⟨p, q, hA0, hV, rfl, hfz, hnd⟩ := hW
  have hA : DataW.TrodAll enc Try.prog W 0 (fun _ => true) true Try.f6.params.toList args.toList ds p := hA0
  obtain ⟨rfl, rfl⟩ := trodVars_none hV
  have hsz : (DataW.weightsEach Try.prog (Try.f6.params.toList ++ []) (ds ++ [])).all (· ≤ reachBytes) = true := hsz0
  rw [List.append_nil, List.append_nil] at hsz
  rw [Try.params6] at hA hval hsz
  obtain ⟨v0, vs0, d0, ds0, p0, q0, hargs, rfl, rfl, h0, r0⟩ := trodAll_cons hA
  obtain ⟨v1, vs1, d1, ds1, p1, q1, rfl, rfl, rfl, h1, r1⟩ := trodAll_cons r0
  obtain ⟨v2, vs2, d2, ds2, p2, q2, rfl, rfl, rfl, h2, r2⟩ := trodAll_cons r1
  obtain ⟨rfl, rfl, rfl⟩ := trodAll_nil r2
  obtain rfl : args = #[v0, v1, v2] := by cases args; simp_all
  have lt0 : ∀ x ∈ p0, x.block < W.heap.size := by obtain ⟨m, hm⟩ := h0; exact DataW.trod_lt m _ _ _ hm
  obtain ⟨x0, w0⟩ := arg_of (j := 0) (reads_sl T.sl_33_40_2 T.bytes_40_40 (by decide) reads_En) h0 hsz rfl rfl
  have lt1 : ∀ x ∈ p1, x.block < W.heap.size := by obtain ⟨m, hm⟩ := h1; exact DataW.trod_lt m _ _ _ hm
  obtain ⟨x1, w1⟩ := arg_of (j := 1) (reads_str T.str_9) h1 hsz rfl rfl
  have lt2 : ∀ x ∈ p2, x.block < W.heap.size := by obtain ⟨m, hm⟩ := h2; exact DataW.trod_lt m _ _ _ hm
  obtain ⟨x2, w2⟩ := arg_of (j := 2) (reads_str T.str_9) h2 hsz rfl rfl
  obtain ⟨a0, l0, c0, rfl⟩ := okWide_slice Try.underlying33 (hval 0 33 v0 rfl rfl)
  obtain ⟨s1, rfl⟩ := okWide_string Try.underlying9 (hval 1 9 v1 rfl rfl)
  obtain ⟨s2, rfl⟩ := okWide_string Try.underlying9 (hval 2 9 v2 rfl rfl)
  obtain ⟨hc1, hr1⟩ := w1
  cases hc1
  obtain ⟨hc2, hr2⟩ := w2
  cases hc2
  refine (ListUnion_law w0 hr1 hr2).mono fun e W' ⟨he, hb⟩ => ?_
  have bel := hb.below
  subst he
  exact ⟨_, rfl, _, _, _, [], _, [], hW', trodAll_mk1 (shut_bool Try.underlying4 _), (trodAll_cons_mk (Below.trod T.laidOut (by kernel_rfl) (of_decide_eq_true (by kernel_rfl)) h0 bel lt0) (trodAll_cons_mk (Below.trod T.laidOut (by kernel_rfl) (of_decide_eq_true (by kernel_rfl)) h1 bel lt1) (trodAll_cons_mk (Below.trod T.laidOut (by kernel_rfl) (of_decide_eq_true (by kernel_rfl)) h2 bel lt2) trodAll_mk0))), rfl, bel.frame _, fun h => by cases h⟩
theorem ListUnion_holds : Rows.ListUnionSaid :=
  OpenClaim.holds_of_wide 6 Try.f6 rfl rfl rfl rfl rfl rfl rfl ⟨rfl, rfl, rfl, rfl, rfl⟩ rfl rfl rfl rfl rfl (by kernel_rfl) Try.func6 (by kernel_rfl)
    (of_decide_eq_true (by kernel_rfl)) (by unfold Func.isWrapper; rw [if_neg (of_decide_eq_false (by kernel_rfl))]; exact ⟨rfl, rfl⟩)
    (fun os started H enc _ => ListUnion_lifted os started H enc)
#print axioms ListUnion_holds
end Go.Proofs.Ytdiocmjhencbpaa
