/-
  What a tree is asked (layer 8): Names, Range, Count, Nth, Floor, over any pages.
-/
import Derived.Test.YtdiocmjhencbpaaL08
namespace Go.Proofs.Ytdiocmjhencbpaa
set_option maxRecDepth 8000
set_option linter.unusedSimpArgs false
set_option linter.unusedVariables false
open Go Xe
def begins (s p : ByteArray) : Bool := if p.size ≤ s.size then decide (s.extract 0 p.size = p) else false
theorem hasPrefix0_calls {E : Env} {w : World} {L : List As} (s p : ByteArray) (hs : s.size ≤ reachBytes) (hp : p.size ≤ reachBytes) (hw : Sat E w L) :
    Calls Try.prog 53 #[.string s, .string p] w fun e w' => e = .returned (.bool (begins s p)) ∧ Sat E w' L := by
  simp only [reachBytes] at hs hp
  unfold begins
  refine calls_of_g (n := 18) Try.func53 rfl rfl rfl ?_
  change G _ _ _ _ _ [(0, _), (1, _)] _
  refine g_seq ?_
  refine g_region ?_
  refine xV rfl rfl rfl (v_assign rfl) ?_
  refine rl_nil (g_le (xK (Fr.le_refl _)) ?_)
  refine g_seq ?_
  refine g_region ?_
  refine xV rfl rfl rfl (v_move rfl) ?_
  refine xV rfl rfl rfl (v_lenStr T.str_9 rfl) ?_
  refine xV rfl rfl rfl (v_move rfl) ?_
  refine xV rfl rfl rfl (v_lenStr T.str_9 rfl) ?_
  refine xV rfl rfl rfl (v_geq rfl rfl) ?_
  refine xV rfl rfl rfl (v_move rfl) ?_
  refine rl_split (s := 10) rfl (fun g1_5 => ?_) (fun g1_5 => ?_)
  · try with_reducible exact ft_elim g1_5
    all_goals
      try replace g1_5 := of_decide_eq_true g1_5
      refine rl_vg (met_on rfl rfl rfl rfl) rfl rfl (S := fun _ => True) trivial (v_move rfl) ?_
      refine rl_vg (met_on rfl rfl rfl rfl) rfl rfl (S := fun _ => True) trivial (v_move rfl) ?_
      refine rl_vg (met_on rfl rfl rfl rfl) rfl rfl (S := fun _ => True) trivial (v_lenStr T.str_9 rfl) ?_
      refine rl_vg (met_on rfl rfl rfl rfl) rfl rfl (S := fun _ => True) trivial (v_sliceStrTo T.str_9 rfl rfl (by omega) (by omega)) ?_
      refine rl_vg (met_on rfl rfl rfl rfl) rfl rfl (S := fun _ => True) trivial (v_move rfl) ?_
      refine rl_vg (met_on rfl rfl rfl rfl) rfl rfl (S := fun _ => True) trivial (v_eqlStr rfl rfl) ?_
      refine xV rfl rfl rfl (v_pick_true rfl rfl) ?_
      refine xV rfl rfl rfl (v_assign rfl) ?_
      refine rl_nil (g_le (xK (xS rfl (xS rfl (xS rfl (xS rfl (xS rfl (xS rfl (xS rfl (xS rfl (xS rfl (xS rfl (xS rfl (xS rfl (xS rfl (xS rfl (Fr.le_refl _)))))))))))))))) ?_)
      refine g_ret1 Try.func53 rfl rfl ?_
      rw [if_pos (by omega)]; exact ⟨by simp, hw⟩
  · try with_reducible exact tf_elim g1_5
    all_goals
      try replace g1_5 := of_decide_eq_false g1_5
      refine rl_off (met_off rfl rfl rfl rfl rfl) rfl rfl ?_
      refine rl_off (met_off rfl rfl rfl rfl rfl) rfl rfl ?_
      refine rl_off (met_off rfl rfl rfl rfl rfl) rfl rfl ?_
      refine rl_off (met_off rfl rfl rfl rfl rfl) rfl rfl ?_
      refine rl_off (met_off rfl rfl rfl rfl rfl) rfl rfl ?_
      refine rl_off (met_off rfl rfl rfl rfl rfl) rfl rfl ?_
      refine xV rfl rfl rfl (v_pick_false rfl rfl) ?_
      refine xV rfl rfl rfl (v_assign rfl) ?_
      refine rl_nil (g_le (xK (xS rfl (xS rfl (xS rfl (xS rfl (xS rfl (xS rfl (xS rfl (xS rfl (xS rfl (xS rfl (xS rfl (xS rfl (xS rfl (xS rfl (Fr.le_refl _)))))))))))))))) ?_)
      refine g_ret1 Try.func53 rfl rfl ?_
      rw [if_neg (by omega)]; exact ⟨rfl, hw⟩
theorem hasPrefix_calls {E : Env} {w : World} {L : List As} (s p : ByteArray) (hs : s.size ≤ reachBytes) (hp : p.size ≤ reachBytes) (hw : Sat E w L) :
    Calls Try.prog 33 #[.string s, .string p] w fun e w' => e = .returned (.bool (begins s p)) ∧ Sat E w' L := by
  refine calls_of_g (n := 8) Try.func33 rfl rfl rfl ?_
  change G _ _ _ _ _ [(0, _), (1, _)] _
  refine g_seq ?_
  refine g_region ?_
  refine xV rfl rfl rfl (v_assign rfl) ?_
  refine rl_nil (g_le (xK (Fr.le_refl _)) ?_)
  refine g_seq ?_
  refine g_region ?_
  refine xV rfl rfl rfl (v_move rfl) ?_
  refine xV rfl rfl rfl (v_move rfl) ?_
  refine rl_k rfl (k_callf Try.func53 rfl rfl rfl rfl ?_)
  refine Calls.mono (hasPrefix0_calls s p hs hp hw) ?_
  rintro _ w ⟨rfl, hw⟩
  refine ⟨_, rfl, ?_⟩
  refine xV rfl rfl rfl (v_assign rfl) ?_
  refine rl_nil (g_le (xK (xS rfl (xS rfl (xS rfl (Fr.le_refl _))))) ?_)
  refine g_ret1 Try.func33 rfl rfl ?_
  exact ⟨rfl, hw⟩
/-- The first place at which something holds, or -1. -/
def idxS (p : ByteArray → Bool) : List ByteArray → Int → Int
  | [], _ => -1
  | x :: xs, i => if p x = true then i else idxS p xs (i + 1)
theorem idxS_any {p : ByteArray → Bool} : ∀ {xs : List ByteArray} {i : Int}, 0 ≤ i → (0 ≤ idxS p xs i ↔ xs.any p = true)
  | [], i, _ => by simp [idxS]
  | x :: xs, i, h => by
    simp only [idxS, List.any_cons]
    split
    · rename_i hx; simp [hx, h]
    · rename_i hx; rw [idxS_any (by omega)]; simp [hx]
theorem indexFuncS_calls {E : Env} {w : World} {g : Hp} {M : List As} {a : Option Addr} {n c : Nat} {xs : List ByteArray} {f : Value} (p : ByteArray → Bool) (hrd : (rdSl 16 1 rdStr) g [.slice a n c] xs)
    (hcl : ∀ (x : ByteArray) (w : World), x.size ≤ reachBytes → Sat E w (RO g :: M) → CallsV Try.prog f #[.string x] w fun e w' => e = .returned (.bool (p x)) ∧ Sat E w' (RO g :: M))
    (hw : Sat E w (RO g :: M)) :
    Calls Try.prog 52 #[.slice a n c, f] w fun e w' => e = .returned (.int .i64 (idxS p xs 0)) ∧ Sat E w' (RO g :: M) := by
  obtain ⟨rfl, _, hnc, hnm, gn⟩ := rdSl_get hrd
  simp only [maxLen] at hnm
  refine calls_of_g (n := 19) Try.func52 rfl rfl rfl ?_
  change G _ _ _ _ _ [(0, _), (1, _)] _
  refine g_seq ?_
  refine g_region ?_
  refine xV rfl rfl rfl (v_assign rfl) ?_
  refine rl_nil (g_le (xK (Fr.le_refl _)) ?_)
  refine g_seq (g_seq ?_)
  refine g_region ?_
  refine xV rfl rfl rfl (v_move rfl) ?_
  refine xV rfl rfl rfl (v_lenSlice T.sl_29_9_1 rfl) ?_
  refine xV rfl rfl rfl (v_move rfl) ?_
  refine rl_nil (g_le (xK (xK (xS rfl (Fr.le_refl _)))) ?_)
  refine g_block ?_
  refine g_loopC (σ := Nat) (fun C x => (8, .int .i64 (x : Nat)) :: C) [(0, _), (1, _), (4, _), (7, _)] (by repeat (first | exact Fr.le_nil _ | refine Fr.le_cons rfl ?_)) (fun z w => z ≤ xs.length ∧ idxS p xs 0 = idxS p (xs.drop z) z ∧ Sat E w (RO g :: M)) (fun z => xs.length - z) ?_ 0 (by repeat (first | exact Fr.le_nil _ | refine Fr.le_cons rfl ?_)) ⟨by simp, by simp, hw⟩
  rintro i w ⟨hi1, heq, hw⟩ ih
  refine g_seq ?_
  refine g_region ?_
  refine xV rfl rfl rfl (v_lss rfl rfl) ?_
  refine rl_nil (g_le (xK (Fr.le_refl _)) ?_)
  refine g_seq ?_
  refine g_cond rfl (fun h1 => ?_) (fun h1 => ?_)
  · try with_reducible exact ft_elim h1
    all_goals
      try replace h1 := of_decide_eq_true h1
      refine g_skip (g_seq (g_block (g_seq ?_)))
      refine g_region ?_
      refine xV rfl rfl rfl (v_move rfl) ?_
      refine xV rfl rfl rfl (v_assign rfl) ?_
      refine rl_nil (g_le (xK (xK (Fr.le_refl _))) ?_)
      refine g_seq ?_
      have hz := hw
      clear hw
      obtain ⟨b4, o1, x, ecs, rfl, hx, hat1, hl1, hq, hxr⟩ := gn (i : Nat) (by omega) (by omega)
      subst hq
      rw [Int.toNat_natCast] at hx
      obtain ⟨hx1, hx2⟩ := List.getElem?_eq_some_iff.1 hx
      rw [List.drop_eq_getElem_cons hx1, hx2] at heq
      simp only [idxS] at heq
      have hw := hz
      refine g_region ?_
      refine xV rfl rfl rfl (v_move rfl) ?_
      refine xV rfl rfl rfl (v_move rfl) ?_
      refine xV rfl rfl rfl (v_move rfl) ?_
      refine xV rfl rfl rfl (v_indexAddr T.sl_29_9_1 rfl rfl (by omega) (by omega)) ?_
      refine rl_v rfl rfl rfl (by exact ro_at0 hw (by (repeat first | with_reducible exact xH | apply xT); first | done | fail) (by assumption) rfl) (v_load T.scal_9 rfl) ?_
      refine rl_k rfl (k_callv rfl rfl rfl ?_)
      refine CallsV.mono (hcl x w hxr hw) ?_
      rintro _ w ⟨rfl, hw⟩
      refine ⟨_, rfl, ?_⟩
      refine rl_nil (g_le (xK (xK (xK (xK (xK (xK (Fr.le_refl _))))))) ?_)
      refine g_cond rfl (fun h2 => ?_) (fun h2 => ?_)
      · try with_reducible exact ft_elim h2
        all_goals
          try replace h2 := of_decide_eq_true h2
          refine g_seq ?_
          refine g_region ?_
          refine xV rfl rfl rfl (v_move rfl) ?_
          refine xV rfl rfl rfl (v_assign rfl) ?_
          refine rl_nil (g_le (xK (xK (Fr.le_refl _))) ?_)
          refine g_ret1 Try.func52 rfl rfl ?_
          rw [if_pos h2] at heq
          rw [heq]
          exact ⟨rfl, hw⟩
      · try with_reducible exact tf_elim h2
        all_goals
          try replace h2 := of_decide_eq_false h2
          refine g_skip (g_inBlock ?_)
          refine g_region ?_
          refine xV rfl rfl rfl (v_add rfl rfl (by omega)) ?_
          refine xV rfl rfl rfl (v_move rfl) ?_
          refine rl_nil (g_le (xK (xK (Fr.le_refl _))) ?_)
          rw [if_neg (by simp [h2])] at heq
          exact g_le (by repeat (first | exact Fr.le_nil _ | refine Fr.le_cons rfl ?_)) (ih (i + 1) w ⟨by omega, by rw [heq]; rfl, hw⟩ (by omega))
  · try with_reducible exact tf_elim h1
    all_goals
      try replace h1 := of_decide_eq_false h1
      refine g_exit rfl (g_seq ?_)
      refine g_region ?_
      refine xV rfl rfl rfl (v_assign rfl) ?_
      refine rl_nil (g_le (xK (Fr.le_refl _)) ?_)
      refine g_ret1 Try.func52 rfl rfl ?_
      rw [List.drop_eq_nil_of_le (by omega)] at heq
      rw [heq]
      exact ⟨rfl, hw⟩
theorem containsFuncS_calls {E : Env} {w : World} {g : Hp} {M : List As} {a : Option Addr} {n c : Nat} {xs : List ByteArray} {f : Value} (p : ByteArray → Bool) (hrd : (rdSl 16 1 rdStr) g [.slice a n c] xs)
    (hcl : ∀ (x : ByteArray) (w : World), x.size ≤ reachBytes → Sat E w (RO g :: M) → CallsV Try.prog f #[.string x] w fun e w' => e = .returned (.bool (p x)) ∧ Sat E w' (RO g :: M))
    (hw : Sat E w (RO g :: M)) :
    Calls Try.prog 31 #[.slice a n c, f] w fun e w' => e = .returned (.bool (xs.any p)) ∧ Sat E w' (RO g :: M) := by
  have h9 := idxS_any (p := p) (xs := xs) (i := 0) (by omega)
  refine calls_of_g (n := 9) Try.func31 rfl rfl rfl ?_
  change G _ _ _ _ _ [(0, _), (1, _)] _
  refine g_seq ?_
  refine g_region ?_
  refine xV rfl rfl rfl (v_assign rfl) ?_
  refine rl_nil (g_le (xK (Fr.le_refl _)) ?_)
  refine g_seq ?_
  refine g_region ?_
  refine xV rfl rfl rfl (v_move rfl) ?_
  refine xV rfl rfl rfl (v_move rfl) ?_
  refine rl_k rfl (k_callf Try.func52 rfl rfl rfl rfl ?_)
  refine Calls.mono (indexFuncS_calls p hrd hcl hw) ?_
  rintro _ w ⟨rfl, hw⟩
  refine ⟨_, rfl, ?_⟩
  refine xV rfl rfl rfl (v_geq rfl rfl) ?_
  refine xV rfl rfl rfl (v_assign rfl) ?_
  refine rl_nil (g_le (xK (xS rfl (xS rfl (xS rfl (xS rfl (Fr.le_refl _)))))) ?_)
  refine g_ret1 Try.func31 rfl rfl ?_
  have e9 : decide (idxS p xs 0 ≥ 0) = xs.any p := by by_cases h : 0 ≤ idxS p xs 0; (rw [decide_eq_true h, h9.1 h]); (rw [decide_eq_false (by omega)]; cases h8 : xs.any p with | false => rfl | true => exact absurd (h9.2 h8) h)
  rw [← e9]; exact ⟨rfl, hw⟩
/-! The questions. -/
def pNames (prefixes : List ByteArray) (e : En) : Bool := if prefixes.length = 0 then true else prefixes.any (begins e.name)
def pRange (from_ to : ByteArray) (e : En) : Bool := if (!sl e.name from_) = true then (if to = ByteArray.empty then true else sl e.name to) else false
def pFloor (name : ByteArray) (e : En) : Bool := !sl name e.name
theorem names1_calls {E : Env} {w : World} {L : List As} {g : Hp} {x : En} {b : Nat} {v : Value} (p : ByteArray) (hn : x.name.size ≤ reachBytes) (hp : p.size ≤ reachBytes) (hw : Sat E w (RO g :: pt b (.cells [.string x.name, v].toArray 40 (0, 0)) :: L)) :
    Calls Try.prog 32 #[.string p, .pointer (some ⟨b, 0, none⟩)] w fun e w' => e = .returned (.bool (begins x.name p)) ∧ Sat E w' (RO g :: pt b (.cells [.string x.name, v].toArray 40 (0, 0)) :: L) := by
  refine calls_of_g (n := 8) Try.func32 rfl rfl rfl ?_
  change G _ _ _ _ _ [(0, _), (1, _)] _
  refine g_seq ?_
  refine g_region ?_
  refine xV rfl rfl rfl (v_assign rfl) ?_
  refine rl_nil (g_le (xK (Fr.le_refl _)) ?_)
  refine g_seq ?_
  refine g_region ?_
  refine xV rfl rfl rfl (v_fieldAddr0 T.fld_40_0_0 rfl) ?_
  refine rl_v rfl rfl rfl (by exact sat_cell hw (by (repeat first | with_reducible exact xH | apply xT); first | done | fail) rfl) (v_load T.scal_9 rfl) ?_
  refine xV rfl rfl rfl (v_move rfl) ?_
  refine rl_k rfl (k_callf Try.func33 rfl rfl rfl rfl ?_)
  refine Calls.mono (hasPrefix_calls x.name p hn hp hw) ?_
  rintro _ w ⟨rfl, hw⟩
  refine ⟨_, rfl, ?_⟩
  refine xV rfl rfl rfl (v_assign rfl) ?_
  refine rl_nil (g_le (xK (xS rfl (xS rfl (xS rfl (xS rfl (Fr.le_refl _)))))) ?_)
  refine g_ret1 Try.func32 rfl rfl ?_
  exact ⟨rfl, hw⟩
theorem asksNames {E : Env} {g : Hp} {b : Nat} {pa : Option Addr} {pn pc : Nat} {prefixes : List ByteArray} (hrd : (rdSl 16 1 rdStr) g [.slice pa pn pc] prefixes) :
    Asks E g (pt b (.cells [Value.slice pa pn pc].toArray 29 (0, 0))) (.func (.func 30) #[] #[.pointer (some ⟨b, 0, none⟩)]) (pNames prefixes) := by
  intro g' M w x ecs hg hx hw
  obtain ⟨va, vn, vc, rfl, hx2⟩ := en_told hx
  obtain ⟨q0, q1, hq, ⟨p0, hns⟩, p1⟩ := id hx2
  have hrd' := mono_sl mono_str hg hrd
  obtain ⟨rfl, _, hnc, hnm, _⟩ := rdSl_get hrd
  simp only [maxLen] at hnm
  refine CallsV.mk Try.func30 rfl rfl rfl ?_
  unfold pNames
  refine calls_of_g (n := 12) Try.func30 rfl rfl rfl ?_
  change G _ _ _ _ _ [(0, _), (1, _)] _
  refine g_seq ?_
  refine g_region ?_
  refine rl_k rfl (k_box hw rfl rfl rfl (fun bk0_0 w hw => ?_))
  refine xV rfl rfl rfl (v_assign rfl) ?_
  refine rl_nil (g_le (xK (xK (Fr.le_refl _))) ?_)
  refine g_seq ?_
  refine g_region ?_
  refine rl_v rfl rfl rfl (by exact sat_cell hw (by (repeat first | with_reducible exact xH | apply xT); first | done | fail) rfl) (v_load T.scal_29 rfl) ?_
  refine xV rfl rfl rfl (v_lenSlice T.sl_29_9_1 rfl) ?_
  refine xV rfl rfl rfl (v_eql rfl rfl) ?_
  refine xV rfl rfl rfl (v_move rfl) ?_
  refine rl_split (s := 7) rfl (fun g1_3 => ?_) (fun g1_3 => ?_)
  · try with_reducible exact ft_elim g1_3
    all_goals
      try replace g1_3 := of_decide_eq_true g1_3
      refine rl_off (met_off rfl rfl rfl rfl rfl) rfl rfl ?_
      refine rl_off (met_off rfl rfl rfl rfl rfl) rfl rfl ?_
      refine rl_off (met_off rfl rfl rfl rfl rfl) rfl rfl ?_
      refine xV rfl rfl rfl (v_pick_true rfl rfl) ?_
      refine xV rfl rfl rfl (v_assign rfl) ?_
      refine rl_nil (g_le (xK (xS rfl (xS rfl (xS rfl (xS rfl (xS rfl (xS rfl (xS rfl (xS rfl (xS rfl (Fr.le_refl _))))))))))) ?_)
      refine g_ret1 Try.func30 rfl rfl ?_
      rw [if_pos (by omega)]; exact ⟨by simp, hw.xQ⟩
  · try with_reducible exact tf_elim g1_3
    all_goals
      try replace g1_3 := of_decide_eq_false g1_3
      refine rl_vg (met_on rfl rfl rfl rfl) rfl rfl (by exact sat_cell hw (by (repeat first | with_reducible exact xH | apply xT); first | done | fail) rfl) (v_load T.scal_29 rfl) ?_
      refine rl_vg (met_on rfl rfl rfl rfl) rfl rfl (S := fun _ => True) trivial (v_makeFunc rfl rfl) ?_
      refine rl_kg (met_on rfl rfl rfl rfl) (k_callf Try.func31 rfl rfl rfl rfl ?_)
      refine Calls.mono (containsFuncS_calls (begins x.name) hrd' (fun y w hy hw => CallsV.mk Try.func32 rfl rfl rfl (names1_calls y hns hy hw)) (hw.xQ)) ?_
      rintro _ w ⟨rfl, hw⟩
      refine ⟨_, rfl, ?_⟩
      refine xV rfl rfl rfl (v_pick_false rfl rfl) ?_
      refine xV rfl rfl rfl (v_assign rfl) ?_
      refine rl_nil (g_le (xK (xS rfl (xS rfl (xS rfl (xS rfl (xS rfl (xS rfl (xS rfl (xS rfl (xS rfl (Fr.le_refl _))))))))))) ?_)
      refine g_ret1 Try.func30 rfl rfl ?_
      rw [if_neg (by omega)]; exact ⟨by simp, hw.xQ⟩
theorem asksRange {E : Env} {g : Hp} {b c : Nat} {from_ to : ByteArray} :
    Asks E g (stars [pt b (.cells [Value.string from_].toArray 9 (0, 0)), pt c (.cells [Value.string to].toArray 9 (0, 0))]) (.func (.func 35) #[] #[.pointer (some ⟨b, 0, none⟩), .pointer (some ⟨c, 0, none⟩)]) (pRange from_ to) := by
  intro g' M w x ecs hg hx hw
  obtain ⟨va, vn, vc, rfl, hx2⟩ := en_told hx
  have hw := Sat.flat (X := [_, _]) (hw.pick .at1)
  simp only [List.cons_append, List.nil_append] at hw
  refine CallsV.mk Try.func35 rfl rfl rfl ?_
  refine Calls.mono (R := fun e w' => e = .returned (.bool (pRange from_ to x)) ∧ Sat E w' (RO g' :: pt b (.cells [Value.string from_].toArray 9 (0, 0)) :: pt c (.cells [Value.string to].toArray 9 (0, 0)) :: M)) ?_ ?_
  · skip
    unfold pRange
    refine calls_of_g (n := 19) Try.func35 rfl rfl rfl ?_
    change G _ _ _ _ _ [(0, _), (1, _), (2, _)] _
    refine g_seq ?_
    refine g_region ?_
    refine rl_k rfl (k_box hw rfl rfl rfl (fun bk0_0 w hw => ?_))
    refine xV rfl rfl rfl (v_assign rfl) ?_
    refine rl_nil (g_le (xK (xK (Fr.le_refl _))) ?_)
    refine g_seq ?_
    refine g_region ?_
    refine xV rfl rfl rfl (v_fieldAddr0 T.fld_40_0_0 rfl) ?_
    refine rl_v rfl rfl rfl (by exact sat_cell hw (by (repeat first | with_reducible exact xH | apply xT); first | done | fail) rfl) (v_load T.scal_9 rfl) ?_
    refine rl_v rfl rfl rfl (by exact sat_cell hw (by (repeat first | with_reducible exact xH | apply xT); first | done | fail) rfl) (v_load T.scal_9 rfl) ?_
    refine xV rfl rfl rfl (v_geqStr rfl rfl) ?_
    refine xV rfl rfl rfl (v_move rfl) ?_
    refine rl_split (s := 9) rfl (fun g1_4 => ?_) (fun g1_4 => ?_)
    · try with_reducible exact ft_elim g1_4
      all_goals
        try replace g1_4 := of_decide_eq_true g1_4
        refine rl_vg (met_on rfl rfl rfl rfl) rfl rfl (by exact sat_cell hw (by (repeat first | with_reducible exact xH | apply xT); first | done | fail) rfl) (v_load T.scal_9 rfl) ?_
        refine rl_vg (met_on rfl rfl rfl rfl) rfl rfl (S := fun _ => True) trivial (v_eqlStr rfl rfl) ?_
        refine rl_vg (met_on rfl rfl rfl rfl) rfl rfl (S := fun _ => True) trivial (v_move rfl) ?_
        refine rl_split (s := 12) rfl (fun g1_7 => ?_) (fun g1_7 => ?_)
        · try with_reducible exact ft_elim g1_7
          all_goals
            try replace g1_7 := of_decide_eq_true g1_7
            refine rl_off (met_off rfl rfl rfl rfl rfl) rfl rfl ?_
            refine rl_off (met_off rfl rfl rfl rfl rfl) rfl rfl ?_
            refine rl_off (met_off rfl rfl rfl rfl rfl) rfl rfl ?_
            refine rl_off (met_off rfl rfl rfl rfl rfl) rfl rfl ?_
            refine rl_vg (met_on rfl rfl rfl rfl) rfl rfl (S := fun _ => True) trivial (v_pick_true rfl rfl) ?_
            refine xV rfl rfl rfl (v_pick_true rfl rfl) ?_
            refine xV rfl rfl rfl (v_assign rfl) ?_
            refine rl_nil (g_le (xK (xS rfl (xS rfl (xS rfl (xS rfl (xS rfl (xS rfl (xS rfl (xS rfl (xS rfl (xS rfl (xS rfl (xS rfl (xS rfl (xS rfl (xS rfl (xS rfl (Fr.le_refl _)))))))))))))))))) ?_)
            refine g_ret1 Try.func35 rfl rfl ?_
            rw [if_pos g1_4, if_pos (show to = ByteArray.empty from g1_7)]
            exact ⟨rfl, hw.xQ⟩
        · try with_reducible exact tf_elim g1_7
          all_goals
            try replace g1_7 := of_decide_eq_false g1_7
            refine rl_vg (met_on rfl rfl rfl rfl) rfl rfl (S := fun _ => True) trivial (v_fieldAddr0 T.fld_40_0_0 rfl) ?_
            refine rl_vg (met_on rfl rfl rfl rfl) rfl rfl (by exact sat_cell hw (by (repeat first | with_reducible exact xH | apply xT); first | done | fail) rfl) (v_load T.scal_9 rfl) ?_
            refine rl_vg (met_on rfl rfl rfl rfl) rfl rfl (by exact sat_cell hw (by (repeat first | with_reducible exact xH | apply xT); first | done | fail) rfl) (v_load T.scal_9 rfl) ?_
            refine rl_vg (met_on rfl rfl rfl rfl) rfl rfl (S := fun _ => True) trivial (v_lssStr rfl rfl) ?_
            refine rl_vg (met_on rfl rfl rfl rfl) rfl rfl (S := fun _ => True) trivial (v_pick_false rfl rfl) ?_
            refine xV rfl rfl rfl (v_pick_true rfl rfl) ?_
            refine xV rfl rfl rfl (v_assign rfl) ?_
            refine rl_nil (g_le (xK (xS rfl (xS rfl (xS rfl (xS rfl (xS rfl (xS rfl (xS rfl (xS rfl (xS rfl (xS rfl (xS rfl (xS rfl (xS rfl (xS rfl (xS rfl (xS rfl (Fr.le_refl _)))))))))))))))))) ?_)
            refine g_ret1 Try.func35 rfl rfl ?_
            rw [if_pos g1_4, if_neg (show ¬ to = ByteArray.empty from g1_7)]
            exact ⟨rfl, hw.xQ⟩
    · try with_reducible exact tf_elim g1_4
      all_goals
        try replace g1_4 := of_decide_eq_false g1_4
        refine rl_off (met_off rfl rfl rfl rfl rfl) rfl rfl ?_
        refine rl_off (met_off rfl rfl rfl rfl rfl) rfl rfl ?_
        refine rl_off (met_off rfl rfl rfl rfl rfl) rfl rfl ?_
        refine rl_off (met_gone rfl rfl rfl rfl) rfl rfl ?_
        refine rl_off (met_gone rfl rfl rfl rfl) rfl rfl ?_
        refine rl_off (met_gone rfl rfl rfl rfl) rfl rfl ?_
        refine rl_off (met_gone rfl rfl rfl rfl) rfl rfl ?_
        refine rl_off (met_off rfl rfl rfl rfl rfl) rfl rfl ?_
        refine xV rfl rfl rfl (v_pick_false rfl rfl) ?_
        refine xV rfl rfl rfl (v_assign rfl) ?_
        refine rl_nil (g_le (xK (xS rfl (xS rfl (xS rfl (xS rfl (xS rfl (xS rfl (xS rfl (xS rfl (xS rfl (xS rfl (xS rfl (xS rfl (xS rfl (xS rfl (xS rfl (Fr.le_refl _))))))))))))))))) ?_)
        refine g_ret1 Try.func35 rfl rfl ?_
        rw [if_neg (by rw [g1_4]; simp)]
        exact ⟨rfl, hw.xQ⟩
  · rintro e w ⟨rfl, hw⟩
    exact ⟨rfl, (Sat.unflat (X := [_, _]) ((hw.pick .at1).sub (.cons .at0 (.cons .at1 (.refl _))))).xQ⟩
theorem asksFloor {E : Env} {g : Hp} {b : Nat} {name : ByteArray} :
    Asks E g (pt b (.cells [Value.string name].toArray 9 (0, 0))) (.func (.func 37) #[] #[.pointer (some ⟨b, 0, none⟩)]) (pFloor name) := by
  intro g' M w x ecs hg hx hw
  obtain ⟨va, vn, vc, rfl, hx2⟩ := en_told hx
  refine CallsV.mk Try.func37 rfl rfl rfl ?_
  unfold pFloor
  refine calls_of_g (n := 8) Try.func37 rfl rfl rfl ?_
  change G _ _ _ _ _ [(0, _), (1, _)] _
  refine g_seq ?_
  refine g_region ?_
  refine rl_k rfl (k_box hw rfl rfl rfl (fun bk0_0 w hw => ?_))
  refine xV rfl rfl rfl (v_assign rfl) ?_
  refine rl_nil (g_le (xK (xK (Fr.le_refl _))) ?_)
  refine g_seq ?_
  refine g_region ?_
  refine xV rfl rfl rfl (v_fieldAddr0 T.fld_40_0_0 rfl) ?_
  refine rl_v rfl rfl rfl (by exact sat_cell hw (by (repeat first | with_reducible exact xH | apply xT); first | done | fail) rfl) (v_load T.scal_9 rfl) ?_
  refine rl_v rfl rfl rfl (by exact sat_cell hw (by (repeat first | with_reducible exact xH | apply xT); first | done | fail) rfl) (v_load T.scal_9 rfl) ?_
  refine xV rfl rfl rfl (v_leqStr rfl rfl) ?_
  refine xV rfl rfl rfl (v_assign rfl) ?_
  refine rl_nil (g_le (xK (xS rfl (xS rfl (xS rfl (xS rfl (Fr.le_refl _)))))) ?_)
  refine g_ret1 Try.func37 rfl rfl ?_
  exact ⟨rfl, hw.xQ⟩
theorem clipStr_calls {E : Env} {w : World} {L : List As} (a : Option Addr) (n c : Nat) (hc : n ≤ c) (hw : Sat E w L) :
    Calls Try.prog 34 #[.slice a n c] w fun e w' => e = .returned (.slice a n n) ∧ Sat E w' L := by
  refine calls_of_g (n := 9) Try.func34 rfl rfl rfl ?_
  change G _ _ _ _ _ [(0, _)] _
  refine g_seq ?_
  refine g_region ?_
  refine xV rfl rfl rfl (v_assign rfl) ?_
  refine rl_nil (g_le (xK (Fr.le_refl _)) ?_)
  refine g_seq ?_
  refine g_region ?_
  refine xV rfl rfl rfl (v_move rfl) ?_
  refine xV rfl rfl rfl (v_move rfl) ?_
  refine xV rfl rfl rfl (v_lenSlice T.sl_29_9_1 rfl) ?_
  refine xV rfl rfl rfl (v_move rfl) ?_
  refine xV rfl rfl rfl (v_lenSlice T.sl_29_9_1 rfl) ?_
  refine xV rfl rfl rfl (v_slice3 T.sl_29_9_1 rfl rfl rfl (by omega) (by omega) (by omega)) ?_
  refine xV rfl rfl rfl (v_assign rfl) ?_
  refine rl_nil (g_le (xK (xS rfl (xS rfl (xS rfl (xS rfl (xS rfl (xS rfl (Fr.le_refl _)))))))) ?_)
  refine g_ret1 Try.func34 rfl rfl ?_
  exact ⟨by simp, hw⟩
set_option maxHeartbeats 1000000 in
theorem Names_calls {τ : Type} (D : Pg τ) {E : Env} {w : World} {L : List As} {g : Hp} {s : τ} {A : As} (r : Rf) (hr : r.ok) (hI : D.I g s A) {pa : Option Addr} {pn pc : Nat} {prefixes : List ByteArray} (hrd : (rdSl 16 1 rdStr) g [.slice pa pn pc] prefixes) (hw : Sat E w (A :: RO g :: L)) :
    Calls Try.prog 10 #[.iface D.t D.u, .agg r.cells.toArray, .slice pa pn pc] w fun v w' =>
    ∃ g' A' la ln lc, g.le g' ∧ D.I g' (secsO D.ops s r (pNames prefixes)).2.2 A' ∧ v = .returned (.tuple #[.slice la ln lc, .int .i64 (secsO D.ops s r (pNames prefixes)).2.1]) ∧ (rdSl 16 1 rdStr) g' [.slice la ln lc] ((secsO D.ops s r (pNames prefixes)).1.map (·.name)) ∧ (secsO D.ops s r (pNames prefixes)).1.length ≤ 400000 ∧ Sat E w' (A' :: RO g' :: L) := by
  refine calls_of_g (n := 35) Try.func10 rfl rfl rfl ?_
  change G _ _ _ _ _ [(0, _), (1, _), (2, _)] _
  refine g_seq ?_
  refine g_region ?_
  refine rl_k rfl (k_box hw rfl rfl rfl (fun bk0_0 w hw => ?_))
  refine rl_k rfl (k_box hw rfl rfl rfl (fun bk0_1 w hw => ?_))
  refine xV rfl rfl rfl (v_assign rfl) ?_
  refine xV rfl rfl rfl (v_assign rfl) ?_
  refine rl_nil (g_le (xK (xK (xK (xK (Fr.le_refl _))))) ?_)
  refine g_seq ?_
  refine g_region ?_
  refine xV rfl rfl rfl (v_move rfl) ?_
  refine rl_v rfl rfl rfl (by exact sat_cells hw (by (repeat first | with_reducible exact xH | apply xT); first | done | fail) ⟨rfl, rfl, rfl, rfl, trivial⟩) (v_loadAgg (vs := [_, _, _, _]) T.agg_26_4 rfl rfl) ?_
  refine xV rfl rfl rfl (v_makeFunc rfl rfl) ?_
  refine rl_k rfl (k_callf Try.func29 rfl rfl rfl rfl ?_)
  refine Calls.mono (secrets_calls D r hr hI (asksNames hrd) (hw.xQ : Sat E w (A :: RO g :: pt bk0_1 (.cells [Value.slice pa pn pc].toArray 29 (0, 0)) :: pt bk0_0 (.cells r.cells.toArray 26 (0, 0)) :: L))) ?_
  generalize secsO D.ops s r (pNames prefixes) = q
  obtain ⟨es, bad, s1⟩ := q
  dsimp only
  rintro _ w ⟨g1, A1, la, ln, lc, hg1, hI1, rfl, hes, hel, hw⟩
  obtain ⟨rfl, _, _, _, ge⟩ := rdSl_get hes
  refine ⟨_, rfl, ?_⟩
  refine xV rfl rfl rfl (v_move rfl) ?_
  refine xV rfl rfl rfl (v_extract rfl rfl) ?_
  refine xV rfl rfl rfl (v_extract rfl rfl) ?_
  refine xV rfl rfl rfl (v_assign rfl) ?_
  refine xV rfl rfl rfl (v_assign rfl) ?_
  refine rl_nil (g_le (xK (xK (xS rfl (xS rfl (xS rfl (xS rfl (xS rfl (xS rfl (xS rfl (Fr.le_refl _)))))))))) ?_)
  refine g_seq ?_
  refine g_region ?_
  refine xV rfl rfl rfl (v_assign rfl) ?_
  refine rl_nil (g_le (xK (Fr.le_refl _)) ?_)
  refine g_seq (g_seq ?_)
  refine g_region ?_
  refine xV rfl rfl rfl (v_move rfl) ?_
  refine xV rfl rfl rfl (v_lenSlice T.sl_33_40_2 rfl) ?_
  refine xV rfl rfl rfl (v_move rfl) ?_
  refine rl_nil (g_le (xK (xK (xK (Fr.le_refl _)))) ?_)
  refine g_block ?_
  refine g_loopC (σ := Nat × Value × List Value) (fun C x => (22, .int .i64 (x.1 : Nat)) :: (10, x.2.1) :: C) [(6, _), (7, _), (9, _), (20, _), (21, _)] (by repeat (first | exact Fr.le_nil _ | refine Fr.le_cons rfl ?_)) (fun z w => z.1 ≤ es.length ∧ Els rdStr 1 g1 z.2.2 ((es.take z.1).map (·.name)) ∧ Sat E w (OwnSl 9 1 z.2.1 ((es.take z.1).map (·.name)).length z.2.2 :: A1 :: RO g1 :: L)) (fun z => es.length - z.1) ?_ (0, .slice none 0 0, []) (by repeat (first | exact Fr.le_nil _ | refine Fr.le_cons rfl ?_)) ⟨by simp, Els.nil, by simp only [List.take_zero]; exact (hw.xQ : Sat E w (A1 :: RO g1 :: L)).own_nil 9 1⟩
  rintro ⟨k, ov, ocs⟩ w ⟨hk1, hels, hw⟩ ih
  dsimp only at hk1 hels hw ih ⊢
  refine g_seq ?_
  refine g_region ?_
  refine xV rfl rfl rfl (v_lss rfl rfl) ?_
  refine rl_nil (g_le (xK (Fr.le_refl _)) ?_)
  refine g_seq ?_
  refine g_cond rfl (fun h1 => ?_) (fun h1 => ?_)
  · try with_reducible exact ft_elim h1
    all_goals
      try replace h1 := of_decide_eq_true h1
      refine g_skip (g_seq (g_block (g_seq ?_)))
      have hz := hw
      clear hw
      obtain ⟨b6, o6, e, ecs, rfl, he, hat6, hl6, hrde⟩ := ge (k : Nat) (by omega) (by omega)
      rw [Int.toNat_natCast] at he hat6
      obtain ⟨va, vn, vc, rfl, hrde⟩ := en_told hrde
      obtain ⟨q0, q1, hq, ⟨p0, hns⟩, p1⟩ := id hrde
      have hte : (es.take (k + 1)).map (·.name) = (es.take k).map (·.name) ++ [e.name] := by rw [List.take_add_one, he]; simp
      have htl : ((es.take k).map (·.name)).length ≤ 400000 := by rw [List.length_map, List.length_take]; omega
      obtain ⟨oa, oc, rfl, _, _, _⟩ := hz.own_shape
      have hlen := hels.len
      have hone := hels.ones one_str
      have hw := hz
      refine g_region ?_
      refine xV rfl rfl rfl (v_indexAddr T.sl_33_40_2 rfl rfl (by omega) (by omega)) ?_
      refine rl_v rfl rfl rfl (by exact ro_ats hw (by (repeat first | with_reducible exact xH | apply xT); first | done | fail) (by assumption)) (v_loadAgg (vs := [_, _]) T.agg_40_2 rfl rfl) ?_
      refine rl_k rfl (k_alloc hw T.zero_40 rfl rfl (fun bk5_2 w hw => ?_))
      refine rl_k rfl (k_storeWhole hw T.agg_40_2 rfl rfl (by simp [Value.oneCell']) rfl (by (repeat first | with_reducible exact xH | apply xT); first | done | fail) rfl (fun w hw => ?_))
      refine rl_nil (g_le (xK (xK (xK (Fr.le_refl _)))) ?_)
      refine g_region ?_
      refine xV rfl rfl rfl (v_move rfl) ?_
      refine xV rfl rfl rfl (v_fieldAddr0 T.fld_40_0_0 rfl) ?_
      refine rl_v rfl rfl rfl (by exact sat_cell hw (by (repeat first | with_reducible exact xH | apply xT); first | done | fail) rfl) (v_load T.scal_9 rfl) ?_
      refine rl_k rfl (k_buildSlice (cells := [_]) hw T.sl_29_9_1 T.zero_9 rfl rfl rfl rfl rfl rfl (fun bk6_3 w hw => ?_))
      refine rl_k rfl (k_append (news := [_]) hw T.sl_29_9_1 T.zero_9 T.bytes_9_16 rfl (by decide) rfl rfl (by (repeat first | with_reducible exact xH | apply xT); first | done | fail) rfl (by exact sat_cells hw (by (repeat first | with_reducible exact xH | apply xT); first | done | fail) ⟨rfl, trivial⟩) (by simp [Value.oneCell']) (by omega) (by simp only [maxLen]; omega) rfl (fun vv6_4 w hw hnil => ?_))
      refine xV rfl rfl rfl (v_assign rfl) ?_
      refine rl_nil (g_le (xK (xK (xK (xK (xK (xK (Fr.le_refl _))))))) ?_)
      refine g_inBlock ?_
      refine g_region ?_
      refine xV rfl rfl rfl (v_add rfl rfl (by omega)) ?_
      refine xV rfl rfl rfl (v_move rfl) ?_
      refine rl_nil (g_le (xK (xK (Fr.le_refl _))) ?_)
      exact g_le (by repeat (first | exact Fr.le_nil _ | refine Fr.le_cons rfl ?_)) (ih (k + 1, vv6_4, _) w ⟨by simp only; omega, by dsimp only; rw [hte]; exact hels.snoc rfl ⟨rfl, hns⟩, by dsimp only; rw [hte, List.length_append (bs := [e.name]), List.length_singleton]; exact hw.xQ⟩ (by simp only; omega))
  · try with_reducible exact tf_elim h1
    all_goals
      try replace h1 := of_decide_eq_false h1
      refine g_exit rfl (g_seq ?_)
      rw [List.take_of_length_le (by omega)] at hels hw
      obtain ⟨oa, oc, rfl, hoc, _, _⟩ := hw.own_shape
      obtain ⟨g2, hg2, hres, hw⟩ := (hw.xQ : Sat E w (RO g1 :: OwnSl 9 1 (.slice oa (es.map (·.name)).length oc) (es.map (·.name)).length ocs :: A1 :: L)).freeze_sl (bytes := 16) mono_str hels rfl (by simp only [List.length_map, reachBytes]; omega)
      refine g_region ?_
      refine xV rfl rfl rfl (v_move rfl) ?_
      refine rl_k rfl (k_callf Try.func34 rfl rfl rfl rfl ?_)
      refine Calls.mono (clipStr_calls oa _ oc hoc hw) ?_
      rintro _ w ⟨rfl, hw⟩
      refine ⟨_, rfl, ?_⟩
      refine xV rfl rfl rfl (v_move rfl) ?_
      refine xV rfl rfl rfl (v_assign rfl) ?_
      refine xV rfl rfl rfl (v_assign rfl) ?_
      refine rl_nil (g_le (xK (xK (xS rfl (xS rfl (xS rfl (Fr.le_refl _)))))) ?_)
      refine g_ret2 Try.func10 rfl rfl rfl ?_
      exact ⟨g2, A1, _, _, _, hg1.trans hg2, D.mono hg2 hI1, rfl, rdSl_clip hres, hel, hw.xQ⟩
theorem Range_calls {τ : Type} (D : Pg τ) {E : Env} {w : World} {L : List As} {g : Hp} {s : τ} {A : As} (r : Rf) (hr : r.ok) (hI : D.I g s A) (from_ to : ByteArray) (hw : Sat E w (A :: RO g :: L)) :
    Calls Try.prog 11 #[.iface D.t D.u, .agg r.cells.toArray, .string from_, .string to] w fun v w' =>
    ∃ g' A' la ln lc, g.le g' ∧ D.I g' (secsO D.ops s r (pRange from_ to)).2.2 A' ∧ v = .returned (.tuple #[.slice la ln lc, .int .i64 (secsO D.ops s r (pRange from_ to)).2.1]) ∧ (rdSl 40 2 rdEn) g' [.slice la ln lc] (secsO D.ops s r (pRange from_ to)).1 ∧ (secsO D.ops s r (pRange from_ to)).1.length ≤ 400000 ∧ Sat E w' (A' :: RO g' :: L) := by
  refine calls_of_g (n := 16) Try.func11 rfl rfl rfl ?_
  change G _ _ _ _ _ [(0, _), (1, _), (2, _), (3, _)] _
  refine g_seq ?_
  refine g_region ?_
  refine rl_k rfl (k_box hw rfl rfl rfl (fun bk0_0 w hw => ?_))
  refine rl_k rfl (k_box hw rfl rfl rfl (fun bk0_1 w hw => ?_))
  refine rl_k rfl (k_box hw rfl rfl rfl (fun bk0_2 w hw => ?_))
  refine xV rfl rfl rfl (v_assign rfl) ?_
  refine xV rfl rfl rfl (v_assign rfl) ?_
  refine rl_nil (g_le (xK (xK (xK (xK (xK (Fr.le_refl _)))))) ?_)
  refine g_seq ?_
  have hw := Sat.unflat (X := [pt bk0_1 (.cells [Value.string from_].toArray 9 (0, 0)), pt bk0_2 (.cells [Value.string to].toArray 9 (0, 0))]) (L := A :: RO g :: pt bk0_0 (.cells r.cells.toArray 26 (0, 0)) :: L) (hw.xQ : Sat E w (pt bk0_1 (.cells [Value.string from_].toArray 9 (0, 0)) :: pt bk0_2 (.cells [Value.string to].toArray 9 (0, 0)) :: A :: RO g :: pt bk0_0 (.cells r.cells.toArray 26 (0, 0)) :: L))
  refine g_region ?_
  refine xV rfl rfl rfl (v_move rfl) ?_
  refine rl_v rfl rfl rfl (by exact sat_cells hw (by (repeat first | with_reducible exact xH | apply xT); first | done | fail) ⟨rfl, rfl, rfl, rfl, trivial⟩) (v_loadAgg (vs := [_, _, _, _]) T.agg_26_4 rfl rfl) ?_
  refine xV rfl rfl rfl (v_makeFunc rfl rfl) ?_
  refine rl_k rfl (k_callf Try.func29 rfl rfl rfl rfl ?_)
  refine Calls.mono (secrets_calls D r hr hI (asksRange (from_ := from_) (to := to)) (hw.xQ)) ?_
  rintro _ w ⟨g1, A1, la, ln, lc, hg1, hI1, rfl, hes, hel, hw⟩
  refine ⟨_, rfl, ?_⟩
  refine xV rfl rfl rfl (v_extract rfl rfl) ?_
  refine xV rfl rfl rfl (v_extract rfl rfl) ?_
  refine xV rfl rfl rfl (v_assign rfl) ?_
  refine xV rfl rfl rfl (v_assign rfl) ?_
  refine rl_nil (g_le (xK (xK (xS rfl (xS rfl (xS rfl (xS rfl (xS rfl (xS rfl (Fr.le_refl _))))))))) ?_)
  refine g_ret2 Try.func11 rfl rfl rfl ?_
  exact ⟨g1, A1, _, _, _, hg1, hI1, rfl, hes, hel, hw.xQ⟩
theorem Count_calls {τ : Type} (D : Pg τ) {E : Env} {w : World} {L : List As} {g : Hp} {s : τ} {A : As} (r : Rf) (hr : r.ok) (hI : D.I g s A) (hw : Sat E w (A :: RO g :: L)) :
    Calls Try.prog 12 #[.iface D.t D.u, .agg r.cells.toArray] w fun v w' =>
    ∃ g' A', g.le g' ∧ D.I g' (secsO D.ops s r (pRange ByteArray.empty ByteArray.empty)).2.2 A' ∧ v = .returned (.tuple #[.int .i64 ((secsO D.ops s r (pRange ByteArray.empty ByteArray.empty)).1.length : Nat), .int .i64 (secsO D.ops s r (pRange ByteArray.empty ByteArray.empty)).2.1]) ∧ Sat E w' (A' :: RO g' :: L) := by
  refine calls_of_g (n := 17) Try.func12 rfl rfl rfl ?_
  change G _ _ _ _ _ [(0, _), (1, _)] _
  refine g_seq ?_
  refine g_region ?_
  refine rl_k rfl (k_box hw rfl rfl rfl (fun bk0_0 w hw => ?_))
  refine xV rfl rfl rfl (v_assign rfl) ?_
  refine xV rfl rfl rfl (v_assign rfl) ?_
  refine rl_nil (g_le (xK (xK (xK (Fr.le_refl _)))) ?_)
  refine g_seq ?_
  refine g_region ?_
  refine xV rfl rfl rfl (v_move rfl) ?_
  refine rl_v rfl rfl rfl (by exact sat_cells hw (by (repeat first | with_reducible exact xH | apply xT); first | done | fail) ⟨rfl, rfl, rfl, rfl, trivial⟩) (v_loadAgg (vs := [_, _, _, _]) T.agg_26_4 rfl rfl) ?_
  refine rl_k rfl (k_callf Try.func11 rfl rfl rfl rfl ?_)
  refine Calls.mono (Range_calls D r hr hI ⟨#[]⟩ ⟨#[]⟩ (hw.xQ)) ?_
  rintro _ w ⟨g1, A1, la, ln, lc, hg1, hI1, rfl, hes, hel, hw⟩
  obtain ⟨rfl, _, _, _, _⟩ := rdSl_get hes
  refine ⟨_, rfl, ?_⟩
  refine xV rfl rfl rfl (v_move rfl) ?_
  refine xV rfl rfl rfl (v_extract rfl rfl) ?_
  refine xV rfl rfl rfl (v_extract rfl rfl) ?_
  refine xV rfl rfl rfl (v_assign rfl) ?_
  refine xV rfl rfl rfl (v_assign rfl) ?_
  refine rl_nil (g_le (xK (xK (xS rfl (xS rfl (xS rfl (xS rfl (xS rfl (xS rfl (Fr.le_refl _))))))))) ?_)
  refine g_seq ?_
  refine g_region ?_
  refine xV rfl rfl rfl (v_move rfl) ?_
  refine xV rfl rfl rfl (v_lenSlice T.sl_33_40_2 rfl) ?_
  refine xV rfl rfl rfl (v_move rfl) ?_
  refine xV rfl rfl rfl (v_assign rfl) ?_
  refine xV rfl rfl rfl (v_assign rfl) ?_
  refine rl_nil (g_le (xK (xK (xS rfl (xS rfl (xS rfl (Fr.le_refl _)))))) ?_)
  refine g_ret2 Try.func12 rfl rfl rfl ?_
  exact ⟨g1, A1, hg1, hI1, rfl, hw.xQ⟩
/-- The one at a place of a list. -/
def atO8 (l : List En) (n bad : Int) : En × Bool × Int := if bad ≠ 0 ∨ n < 0 ∨ (l.length : Int) ≤ n then (en0, false, bad) else (l.getD n.toNat en0, true, 0)
theorem at8_calls {E : Env} {w : World} {L : List As} {g : Hp} {la : Option Addr} {ln lc : Nat} {l : List En} (n bad : Int) (hl : (rdSl 40 2 rdEn) g [.slice la ln lc] l) (hw : Sat E w (RO g :: L)) :
    Calls Try.prog 36 #[.slice la ln lc, .int .i64 n, .int .i64 bad] w fun v w' => ∃ ecs, v = .returned (.tuple #[.agg ecs.toArray, .bool (atO8 l n bad).2.1, .int .i64 (atO8 l n bad).2.2]) ∧ rdEn g ecs (atO8 l n bad).1 ∧ Sat E w' (RO g :: L) := by
  obtain ⟨rfl, _, hnc, hnm, gn⟩ := rdSl_get hl
  simp only [maxLen] at hnm
  have hen0 : rdEn g [.string ByteArray.empty, .slice none 0 0] en0 := ⟨_, _, rfl, ⟨rfl, by decide⟩, rdSl_nil _⟩
  refine calls_of_g (n := 27) Try.func36 rfl rfl rfl ?_
  change G _ _ _ _ _ [(0, _), (1, _), (2, _)] _
  refine g_seq ?_
  refine g_region ?_
  refine rl_k rfl (k_alloc hw T.zero_40 rfl rfl (fun bk0_0 w hw => ?_))
  refine xV rfl rfl rfl (v_assign rfl) ?_
  refine xV rfl rfl rfl (v_assign rfl) ?_
  refine rl_nil (g_le (xK (xK (xK (Fr.le_refl _)))) ?_)
  refine g_seq (g_seq ?_)
  refine g_region ?_
  refine xV rfl rfl rfl (v_move rfl) ?_
  refine xV rfl rfl rfl (v_neq rfl rfl) ?_
  refine xV rfl rfl rfl (v_move rfl) ?_
  refine rl_split (s := 11) rfl (fun g1_2 => ?_) (fun g1_2 => ?_)
  · try with_reducible exact ft_elim g1_2
    all_goals
      try replace g1_2 := of_decide_eq_true g1_2
      refine rl_off (met_off rfl rfl rfl rfl rfl) rfl rfl ?_
      refine rl_off (met_off rfl rfl rfl rfl rfl) rfl rfl ?_
      refine xV rfl rfl rfl (v_pick_true rfl rfl) ?_
      refine xV rfl rfl rfl (v_move rfl) ?_
      refine rl_off (met_off rfl rfl rfl rfl rfl) rfl rfl ?_
      refine rl_off (met_off rfl rfl rfl rfl rfl) rfl rfl ?_
      refine rl_off (met_off rfl rfl rfl rfl rfl) rfl rfl ?_
      refine rl_off (met_off rfl rfl rfl rfl rfl) rfl rfl ?_
      refine xV rfl rfl rfl (v_pick_true rfl rfl) ?_
      refine rl_nil (g_le (xK (xS rfl (xS rfl (xS rfl (xS rfl (xS rfl (xS rfl (xS rfl (xS rfl (xS rfl (xS rfl (xS rfl (xS rfl (Fr.le_refl _)))))))))))))) ?_)
      refine g_cond_true rfl ?_
      refine g_seq ?_
      refine g_region ?_
      refine xV rfl rfl rfl (v_build rfl (T.build_40 ..)) ?_
      refine xV rfl rfl rfl (v_move rfl) ?_
      refine rl_k rfl (k_storeWhole hw T.agg_40_2 rfl rfl (by simp [Value.oneCell']) rfl (by (repeat first | with_reducible exact xH | apply xT); first | done | fail) rfl (fun w hw => ?_))
      refine xV rfl rfl rfl (v_assign rfl) ?_
      refine xV rfl rfl rfl (v_assign rfl) ?_
      refine rl_nil (g_le (xK (xK (xS rfl (xS rfl (Fr.le_refl _))))) ?_)
      refine g_res3 Try.func36 rfl ⟨_, rfl, holds_agg (vs := [_, _]) T.agg_40_2 rfl (by exact sat_cells hw (by (repeat first | with_reducible exact xH | apply xT); first | done | fail) ⟨rfl, rfl, trivial⟩)⟩ rfl rfl ?_
      have e : atO8 l n bad = (en0, false, bad) := if_pos (by omega)
      rw [e]
      exact ⟨_, rfl, hen0, hw.xQ⟩
  · try with_reducible exact tf_elim g1_2
    all_goals
      try replace g1_2 := of_decide_eq_false g1_2
      refine rl_vg (met_on rfl rfl rfl rfl) rfl rfl (S := fun _ => True) trivial (v_move rfl) ?_
      refine rl_vg (met_on rfl rfl rfl rfl) rfl rfl (S := fun _ => True) trivial (v_lss rfl rfl) ?_
      refine xV rfl rfl rfl (v_pick_false rfl rfl) ?_
      refine xV rfl rfl rfl (v_move rfl) ?_
      refine rl_split (s := 15) rfl (fun g1_6 => ?_) (fun g1_6 => ?_)
      · try with_reducible exact ft_elim g1_6
        all_goals
          try replace g1_6 := of_decide_eq_true g1_6
          refine rl_off (met_off rfl rfl rfl rfl rfl) rfl rfl ?_
          refine rl_off (met_off rfl rfl rfl rfl rfl) rfl rfl ?_
          refine rl_off (met_off rfl rfl rfl rfl rfl) rfl rfl ?_
          refine rl_off (met_off rfl rfl rfl rfl rfl) rfl rfl ?_
          refine xV rfl rfl rfl (v_pick_true rfl rfl) ?_
          refine rl_nil (g_le (xK (xS rfl (xS rfl (xS rfl (xS rfl (xS rfl (xS rfl (xS rfl (xS rfl (xS rfl (xS rfl (xS rfl (xS rfl (xS rfl (Fr.le_refl _))))))))))))))) ?_)
          refine g_cond_true rfl ?_
          refine g_seq ?_
          refine g_region ?_
          refine xV rfl rfl rfl (v_build rfl (T.build_40 ..)) ?_
          refine xV rfl rfl rfl (v_move rfl) ?_
          refine rl_k rfl (k_storeWhole hw T.agg_40_2 rfl rfl (by simp [Value.oneCell']) rfl (by (repeat first | with_reducible exact xH | apply xT); first | done | fail) rfl (fun w hw => ?_))
          refine xV rfl rfl rfl (v_assign rfl) ?_
          refine xV rfl rfl rfl (v_assign rfl) ?_
          refine rl_nil (g_le (xK (xK (xS rfl (xS rfl (Fr.le_refl _))))) ?_)
          refine g_res3 Try.func36 rfl ⟨_, rfl, holds_agg (vs := [_, _]) T.agg_40_2 rfl (by exact sat_cells hw (by (repeat first | with_reducible exact xH | apply xT); first | done | fail) ⟨rfl, rfl, trivial⟩)⟩ rfl rfl ?_
          have e : atO8 l n bad = (en0, false, bad) := if_pos (by omega)
          rw [e]
          exact ⟨_, rfl, hen0, hw.xQ⟩
      · try with_reducible exact tf_elim g1_6
        all_goals
          try replace g1_6 := of_decide_eq_false g1_6
          refine rl_vg (met_on rfl rfl rfl rfl) rfl rfl (S := fun _ => True) trivial (v_move rfl) ?_
          refine rl_vg (met_on rfl rfl rfl rfl) rfl rfl (S := fun _ => True) trivial (v_move rfl) ?_
          refine rl_vg (met_on rfl rfl rfl rfl) rfl rfl (S := fun _ => True) trivial (v_lenSlice T.sl_33_40_2 rfl) ?_
          refine rl_vg (met_on rfl rfl rfl rfl) rfl rfl (S := fun _ => True) trivial (v_geq rfl rfl) ?_
          refine xV rfl rfl rfl (v_pick_false rfl rfl) ?_
          refine rl_nil (g_le (xK (xS rfl (xS rfl (xS rfl (xS rfl (xS rfl (xS rfl (xS rfl (xS rfl (xS rfl (xS rfl (xS rfl (xS rfl (xS rfl (Fr.le_refl _))))))))))))))) ?_)
          refine g_cond rfl (fun h1 => ?_) (fun h1 => ?_)
          · try with_reducible exact ft_elim h1
            all_goals
              try replace h1 := of_decide_eq_true h1
              refine g_seq ?_
              refine g_region ?_
              refine xV rfl rfl rfl (v_build rfl (T.build_40 ..)) ?_
              refine xV rfl rfl rfl (v_move rfl) ?_
              refine rl_k rfl (k_storeWhole hw T.agg_40_2 rfl rfl (by simp [Value.oneCell']) rfl (by (repeat first | with_reducible exact xH | apply xT); first | done | fail) rfl (fun w hw => ?_))
              refine xV rfl rfl rfl (v_assign rfl) ?_
              refine xV rfl rfl rfl (v_assign rfl) ?_
              refine rl_nil (g_le (xK (xK (xS rfl (xS rfl (Fr.le_refl _))))) ?_)
              refine g_res3 Try.func36 rfl ⟨_, rfl, holds_agg (vs := [_, _]) T.agg_40_2 rfl (by exact sat_cells hw (by (repeat first | with_reducible exact xH | apply xT); first | done | fail) ⟨rfl, rfl, trivial⟩)⟩ rfl rfl ?_
              have e : atO8 l n bad = (en0, false, bad) := if_pos (by omega)
              rw [e]
              exact ⟨_, rfl, hen0, hw.xQ⟩
          · try with_reducible exact tf_elim h1
            all_goals
              try replace h1 := of_decide_eq_false h1
              refine g_skip (g_seq ?_)
              have hb0 : bad = 0 := by omega
              obtain ⟨b6, o6, e, ecs, rfl, he, hat6, hl6, hrde⟩ := gn n (by omega) (by omega)
              obtain ⟨va, vn, vc, rfl, hrde⟩ := en_told hrde
              refine g_region ?_
              refine xV rfl rfl rfl (v_move rfl) ?_
              refine xV rfl rfl rfl (v_move rfl) ?_
              refine xV rfl rfl rfl (v_indexAddr T.sl_33_40_2 rfl rfl (by omega) (by omega)) ?_
              refine rl_v rfl rfl rfl (by exact ro_ats hw (by (repeat first | with_reducible exact xH | apply xT); first | done | fail) (by assumption)) (v_loadAgg (vs := [_, _]) T.agg_40_2 rfl rfl) ?_
              refine rl_k rfl (k_storeWhole hw T.agg_40_2 rfl rfl (by simp [Value.oneCell']) rfl (by (repeat first | with_reducible exact xH | apply xT); first | done | fail) rfl (fun w hw => ?_))
              refine xV rfl rfl rfl (v_assign rfl) ?_
              refine xV rfl rfl rfl (v_assign rfl) ?_
              refine rl_nil (g_le (xK (xK (xS rfl (xS rfl (xS rfl (xS rfl (Fr.le_refl _))))))) ?_)
              refine g_res3 Try.func36 rfl ⟨_, rfl, holds_agg (vs := [_, _]) T.agg_40_2 rfl (by exact sat_cells hw (by (repeat first | with_reducible exact xH | apply xT); first | done | fail) ⟨rfl, rfl, trivial⟩)⟩ rfl rfl ?_
              have e9 : atO8 l n bad = (e, true, 0) := by unfold atO8; rw [if_neg (by omega), List.getD_eq_getElem?_getD, he]; rfl
              rw [e9]
              exact ⟨_, rfl, hrde, hw.xQ⟩
theorem Nth_calls {τ : Type} (D : Pg τ) {E : Env} {w : World} {L : List As} {g : Hp} {s : τ} {A : As} (r : Rf) (hr : r.ok) (hI : D.I g s A) (n : Int) (hw : Sat E w (A :: RO g :: L)) :
    Calls Try.prog 13 #[.iface D.t D.u, .agg r.cells.toArray, .int .i64 n] w fun v w' =>
    ∃ g' A' ecs q, q = secsO D.ops s r (pRange ByteArray.empty ByteArray.empty) ∧ g.le g' ∧ D.I g' q.2.2 A' ∧ v = .returned (.tuple #[.agg ecs.toArray, .bool (atO8 q.1 n q.2.1).2.1, .int .i64 (atO8 q.1 n q.2.1).2.2]) ∧ rdEn g' ecs (atO8 q.1 n q.2.1).1 ∧ Sat E w' (A' :: RO g' :: L) := by
  refine calls_of_g (n := 24) Try.func13 rfl rfl rfl ?_
  change G _ _ _ _ _ [(0, _), (1, _), (2, _)] _
  refine g_seq ?_
  refine g_region ?_
  refine rl_k rfl (k_box hw rfl rfl rfl (fun bk0_0 w hw => ?_))
  refine rl_k rfl (k_alloc hw T.zero_40 rfl rfl (fun bk0_1 w hw => ?_))
  refine xV rfl rfl rfl (v_assign rfl) ?_
  refine xV rfl rfl rfl (v_assign rfl) ?_
  refine rl_nil (g_le (xK (xK (xK (xK (Fr.le_refl _))))) ?_)
  refine g_seq ?_
  refine g_region ?_
  refine xV rfl rfl rfl (v_move rfl) ?_
  refine rl_v rfl rfl rfl (by exact sat_cells hw (by (repeat first | with_reducible exact xH | apply xT); first | done | fail) ⟨rfl, rfl, rfl, rfl, trivial⟩) (v_loadAgg (vs := [_, _, _, _]) T.agg_26_4 rfl rfl) ?_
  refine rl_k rfl (k_callf Try.func11 rfl rfl rfl rfl ?_)
  refine Calls.mono (Range_calls D r hr hI ⟨#[]⟩ ⟨#[]⟩ (hw.xQ)) ?_
  rintro _ w ⟨g1, A1, la, ln, lc, hg1, hI1, rfl, hes, hel, hw⟩
  refine ⟨_, rfl, ?_⟩
  refine xV rfl rfl rfl (v_move rfl) ?_
  refine xV rfl rfl rfl (v_extract rfl rfl) ?_
  refine xV rfl rfl rfl (v_extract rfl rfl) ?_
  refine xV rfl rfl rfl (v_assign rfl) ?_
  refine xV rfl rfl rfl (v_assign rfl) ?_
  refine rl_nil (g_le (xK (xK (xS rfl (xS rfl (xS rfl (xS rfl (xS rfl (xS rfl (Fr.le_refl _))))))))) ?_)
  refine g_seq ?_
  refine g_region ?_
  refine xV rfl rfl rfl (v_move rfl) ?_
  refine xV rfl rfl rfl (v_move rfl) ?_
  refine xV rfl rfl rfl (v_move rfl) ?_
  refine rl_k rfl (k_callf Try.func36 rfl rfl rfl rfl ?_)
  refine Calls.mono (at8_calls n _ hes (hw.xQ)) ?_
  rintro _ w ⟨ecs, rfl, hrde, hw⟩
  obtain ⟨va, vn, vc, rfl, hrde⟩ := en_told hrde
  refine ⟨_, rfl, ?_⟩
  refine xV rfl rfl rfl (v_extract rfl rfl) ?_
  refine xV rfl rfl rfl (v_extract rfl rfl) ?_
  refine xV rfl rfl rfl (v_extract rfl rfl) ?_
  refine rl_k rfl (k_storeWhole hw T.agg_40_2 rfl rfl (by simp [Value.oneCell']) rfl (by (repeat first | with_reducible exact xH | apply xT); first | done | fail) rfl (fun w hw => ?_))
  refine xV rfl rfl rfl (v_assign rfl) ?_
  refine xV rfl rfl rfl (v_assign rfl) ?_
  refine rl_nil (g_le (xK (xK (xS rfl (xS rfl (xS rfl (xS rfl (xS rfl (xS rfl (xS rfl (Fr.le_refl _)))))))))) ?_)
  refine g_res3 Try.func13 rfl ⟨_, rfl, holds_agg (vs := [_, _]) T.agg_40_2 rfl (by exact sat_cells hw (by (repeat first | with_reducible exact xH | apply xT); first | done | fail) ⟨rfl, rfl, trivial⟩)⟩ rfl rfl ?_
  exact ⟨g1, A1, _, _, rfl, hg1, hI1, rfl, hrde, hw.xQ⟩
theorem Floor_calls {τ : Type} (D : Pg τ) {E : Env} {w : World} {L : List As} {g : Hp} {s : τ} {A : As} (r : Rf) (hr : r.ok) (hI : D.I g s A) (name : ByteArray) (hw : Sat E w (A :: RO g :: L)) :
    Calls Try.prog 14 #[.iface D.t D.u, .agg r.cells.toArray, .string name] w fun v w' =>
    ∃ g' A' ecs q, q = secsO D.ops s r (pFloor name) ∧ g.le g' ∧ D.I g' q.2.2 A' ∧ v = .returned (.tuple #[.agg ecs.toArray, .bool (atO8 q.1 ((q.1.length : Int) - 1) q.2.1).2.1, .int .i64 (atO8 q.1 ((q.1.length : Int) - 1) q.2.1).2.2]) ∧ rdEn g' ecs (atO8 q.1 ((q.1.length : Int) - 1) q.2.1).1 ∧ Sat E w' (A' :: RO g' :: L) := by
  refine calls_of_g (n := 27) Try.func14 rfl rfl rfl ?_
  change G _ _ _ _ _ [(0, _), (1, _), (2, _)] _
  refine g_seq ?_
  refine g_region ?_
  refine rl_k rfl (k_box hw rfl rfl rfl (fun bk0_0 w hw => ?_))
  refine rl_k rfl (k_box hw rfl rfl rfl (fun bk0_1 w hw => ?_))
  refine rl_k rfl (k_alloc hw T.zero_40 rfl rfl (fun bk0_2 w hw => ?_))
  refine xV rfl rfl rfl (v_assign rfl) ?_
  refine xV rfl rfl rfl (v_assign rfl) ?_
  refine rl_nil (g_le (xK (xK (xK (xK (xK (Fr.le_refl _)))))) ?_)
  refine g_seq ?_
  refine g_region ?_
  refine xV rfl rfl rfl (v_move rfl) ?_
  refine rl_v rfl rfl rfl (by exact sat_cells hw (by (repeat first | with_reducible exact xH | apply xT); first | done | fail) ⟨rfl, rfl, rfl, rfl, trivial⟩) (v_loadAgg (vs := [_, _, _, _]) T.agg_26_4 rfl rfl) ?_
  refine xV rfl rfl rfl (v_makeFunc rfl rfl) ?_
  refine rl_k rfl (k_callf Try.func29 rfl rfl rfl rfl ?_)
  refine Calls.mono (secrets_calls D r hr hI (asksFloor (name := name)) (hw.xQ : Sat E w (A :: RO g :: pt bk0_1 (.cells [Value.string name].toArray 9 (0, 0)) :: pt bk0_0 (.cells r.cells.toArray 26 (0, 0)) :: pt bk0_2 (.cells [Value.string ByteArray.empty, .slice none 0 0].toArray 40 (0, 0)) :: L))) ?_
  rintro _ w ⟨g1, A1, la, ln, lc, hg1, hI1, rfl, hes, hel, hw⟩
  obtain ⟨rfl, _, _, _, _⟩ := rdSl_get hes
  refine ⟨_, rfl, ?_⟩
  refine xV rfl rfl rfl (v_move rfl) ?_
  refine xV rfl rfl rfl (v_extract rfl rfl) ?_
  refine xV rfl rfl rfl (v_extract rfl rfl) ?_
  refine xV rfl rfl rfl (v_assign rfl) ?_
  refine xV rfl rfl rfl (v_assign rfl) ?_
  refine rl_nil (g_le (xK (xK (xS rfl (xS rfl (xS rfl (xS rfl (xS rfl (xS rfl (xS rfl (Fr.le_refl _)))))))))) ?_)
  refine g_seq ?_
  refine g_region ?_
  refine xV rfl rfl rfl (v_move rfl) ?_
  refine xV rfl rfl rfl (v_move rfl) ?_
  refine xV rfl rfl rfl (v_lenSlice T.sl_33_40_2 rfl) ?_
  refine xV rfl rfl rfl (v_sub rfl rfl (by omega)) ?_
  refine xV rfl rfl rfl (v_move rfl) ?_
  refine rl_k rfl (k_callf Try.func36 rfl rfl rfl rfl ?_)
  refine Calls.mono (at8_calls _ _ hes (hw.xQ)) ?_
  rintro _ w ⟨ecs, rfl, hrde, hw⟩
  obtain ⟨va, vn, vc, rfl, hrde⟩ := en_told hrde
  refine ⟨_, rfl, ?_⟩
  refine xV rfl rfl rfl (v_extract rfl rfl) ?_
  refine xV rfl rfl rfl (v_extract rfl rfl) ?_
  refine xV rfl rfl rfl (v_extract rfl rfl) ?_
  refine rl_k rfl (k_storeWhole hw T.agg_40_2 rfl rfl (by simp [Value.oneCell']) rfl (by (repeat first | with_reducible exact xH | apply xT); first | done | fail) rfl (fun w hw => ?_))
  refine xV rfl rfl rfl (v_assign rfl) ?_
  refine xV rfl rfl rfl (v_assign rfl) ?_
  refine rl_nil (g_le (xK (xK (xS rfl (xS rfl (xS rfl (xS rfl (xS rfl (xS rfl (xS rfl (xS rfl (xS rfl (Fr.le_refl _)))))))))))) ?_)
  refine g_res3 Try.func14 rfl ⟨_, rfl, holds_agg (vs := [_, _]) T.agg_40_2 rfl (by exact sat_cells hw (by (repeat first | with_reducible exact xH | apply xT); first | done | fail) ⟨rfl, rfl, trivial⟩)⟩ rfl rfl ?_
  exact ⟨g1, A1, _, _, rfl, hg1, hI1, rfl, hrde, hw.xQ⟩
end Go.Proofs.Ytdiocmjhencbpaa
