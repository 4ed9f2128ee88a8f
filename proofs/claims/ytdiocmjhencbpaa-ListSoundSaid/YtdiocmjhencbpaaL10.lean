/-
  Layer 8's laws: the document's answers; the questions at trees in memory.
-/
import Derived.Test.YtdiocmjhencbpaaL09
namespace Go.Proofs.Ytdiocmjhencbpaa
set_option maxRecDepth 8000
set_option linter.unusedSimpArgs false
set_option linter.unusedVariables false
open Go Xe
theorem seen_leaf8 {h : Nat} {d : Int} {r : Rf} {u : Un h} : ∀ x ∈ seenU h d r u, x.node.entries ≠ [] → x.node.leaf = true := by
  induction h generalizing d r with
  | zero => intro x hx _; simp only [seenU, List.mem_singleton] at hx; subst hx; rfl
  | succ h ih =>
    intro x hx he
    rcases List.mem_cons.1 hx with rfl | hx
    · exact absurd rfl he
    · obtain ⟨t, _, hx⟩ := List.mem_flatMap.1 hx
      exact ih x hx he
theorem secE_seen {h : Nat} {d : Int} {r : Rf} {u : Un h} : ∀ x ∈ seenU h d r u, secE x = x.node.entries := by
  intro x hx
  unfold secE
  split
  · rfl
  · rename_i hl
    have : x.node.entries = [] := by
      by_cases h0 : x.node.entries = []
      · exact h0
      · exact absurd (seen_leaf8 x hx h0) hl
    rw [this]
theorem secF_seen {h : Nat} {d : Int} {r : Rf} {u : Un h} (p : En → Bool) : secF p (seenU h d r u) = (entsU h u).filter p := by
  rw [← seen_ents h d r u]
  have hs := secE_seen (h := h) (d := d) (r := r) (u := u)
  generalize seenU h d r u = l at hs
  unfold secF
  induction l with
  | nil => rfl
  | cons x l ih =>
    rw [List.flatMap_cons, List.flatMap_cons, List.filter_append, hs x (by simp), ih fun y hy => hs y (by simp [hy])]
theorem secs_tree {s : List Nd} {root : Rf} {hh : Nat} {u : Un hh} (t : TreeAt s root hh u) (h8 : hh < 8) (p : En → Bool) : secsO heapO s root p = ((entsU hh u).filter p, 0, s) := by
  unfold secsO
  rw [all_tree t h8]
  simp only [if_true, secF_seen]
section
variable {E : Env} {w : World} {L : List As} {g : Hp} {h : Nat} {s : List Nd} {A : As} {root : Rf} {hh : Nat} {u : Un hh}
theorem lnames_calls (t : TreeAt s root hh u) (h8 : hh < 8) (hr : root.ok) (hI : HeapI h g s A) {pa : Option Addr} {pn pc : Nat} {prefixes : List ByteArray} (hrd : (rdSl 16 1 rdStr) g [.slice pa pn pc] prefixes) (hw : Sat E w (A :: RO g :: L)) :
    Calls Try.prog 10 #[.iface 27 (.pointer (some ⟨h, 0, none⟩)), .agg root.cells.toArray, .slice pa pn pc] w fun v w' => ∃ g' A' la ln lc, g.le g' ∧ HeapI h g' s A' ∧ v = .returned (.tuple #[.slice la ln lc, .int .i64 0]) ∧ (rdSl 16 1 rdStr) g' [.slice la ln lc] (((entsU hh u).filter (pNames prefixes)).map (·.name)) ∧ Sat E w' (A' :: RO g' :: L) := by
  refine Calls.mono (Names_calls (heapPg h) (s := s) root hr hI hrd hw) ?_
  rw [show (heapPg h).ops = heapO from rfl, secs_tree t h8]
  dsimp only
  rintro _ w ⟨g1, A1, la, ln, lc, hg1, hI1, rfl, h1, _, hw⟩
  exact ⟨g1, A1, la, ln, lc, hg1, hI1, rfl, h1, hw⟩
theorem lrange_calls (t : TreeAt s root hh u) (h8 : hh < 8) (hr : root.ok) (hI : HeapI h g s A) (from_ to : ByteArray) (hw : Sat E w (A :: RO g :: L)) :
    Calls Try.prog 11 #[.iface 27 (.pointer (some ⟨h, 0, none⟩)), .agg root.cells.toArray, .string from_, .string to] w fun v w' => ∃ g' A' la ln lc, g.le g' ∧ HeapI h g' s A' ∧ v = .returned (.tuple #[.slice la ln lc, .int .i64 0]) ∧ (rdSl 40 2 rdEn) g' [.slice la ln lc] ((entsU hh u).filter (pRange from_ to)) ∧ Sat E w' (A' :: RO g' :: L) := by
  refine Calls.mono (Range_calls (heapPg h) (s := s) root hr hI from_ to hw) ?_
  rw [show (heapPg h).ops = heapO from rfl, secs_tree t h8]
  dsimp only
  rintro _ w ⟨g1, A1, la, ln, lc, hg1, hI1, rfl, h1, _, hw⟩
  exact ⟨g1, A1, la, ln, lc, hg1, hI1, rfl, h1, hw⟩
theorem sl_empty (a : ByteArray) : sl a ByteArray.empty = false := by
  unfold sl
  rw [show ByteArray.empty.toList = [] by (unfold ByteArray.toList; unfold ByteArray.toList.loop; simp)]
  cases a.toList <;> rfl
theorem pRange_all (e : En) : pRange ByteArray.empty ByteArray.empty e = true := by unfold pRange; rw [if_pos (by rw [sl_empty]; rfl), if_pos rfl]
theorem filter_all8 (es : List En) : es.filter (pRange ByteArray.empty ByteArray.empty) = es := List.filter_eq_self.2 fun e _ => pRange_all e
theorem lcount_calls (t : TreeAt s root hh u) (h8 : hh < 8) (hr : root.ok) (hI : HeapI h g s A) (hw : Sat E w (A :: RO g :: L)) :
    Calls Try.prog 12 #[.iface 27 (.pointer (some ⟨h, 0, none⟩)), .agg root.cells.toArray] w fun v w' => ∃ g' A', g.le g' ∧ HeapI h g' s A' ∧ v = .returned (.tuple #[.int .i64 ((entsU hh u).length : Nat), .int .i64 0]) ∧ Sat E w' (A' :: RO g' :: L) := by
  refine Calls.mono (Count_calls (heapPg h) (s := s) root hr hI hw) ?_
  rw [show (heapPg h).ops = heapO from rfl, secs_tree t h8, filter_all8]
  exact fun _ w hh => hh
theorem lnth_calls (t : TreeAt s root hh u) (h8 : hh < 8) (hr : root.ok) (hI : HeapI h g s A) (n : Int) (hw : Sat E w (A :: RO g :: L)) :
    Calls Try.prog 13 #[.iface 27 (.pointer (some ⟨h, 0, none⟩)), .agg root.cells.toArray, .int .i64 n] w fun v w' => ∃ g' A' ecs, g.le g' ∧ HeapI h g' s A' ∧ v = .returned (.tuple #[.agg ecs.toArray, .bool (atO8 (entsU hh u) n 0).2.1, .int .i64 (atO8 (entsU hh u) n 0).2.2]) ∧ rdEn g' ecs (atO8 (entsU hh u) n 0).1 ∧ Sat E w' (A' :: RO g' :: L) := by
  refine Calls.mono (Nth_calls (heapPg h) (s := s) root hr hI n hw) ?_
  rw [show (heapPg h).ops = heapO from rfl, secs_tree t h8, filter_all8]
  rintro _ w ⟨g1, A1, ecs, q, rfl, hg1, hI1, rfl, h1, hw⟩
  exact ⟨g1, A1, ecs, hg1, hI1, rfl, h1, hw⟩
theorem lfloor_calls (t : TreeAt s root hh u) (h8 : hh < 8) (hr : root.ok) (hI : HeapI h g s A) (name : ByteArray) (hw : Sat E w (A :: RO g :: L)) :
    Calls Try.prog 14 #[.iface 27 (.pointer (some ⟨h, 0, none⟩)), .agg root.cells.toArray, .string name] w fun v w' => ∃ g' A' ecs q, q = (entsU hh u).filter (pFloor name) ∧ g.le g' ∧ HeapI h g' s A' ∧ v = .returned (.tuple #[.agg ecs.toArray, .bool (atO8 q ((q.length : Int) - 1) 0).2.1, .int .i64 (atO8 q ((q.length : Int) - 1) 0).2.2]) ∧ rdEn g' ecs (atO8 q ((q.length : Int) - 1) 0).1 ∧ Sat E w' (A' :: RO g' :: L) := by
  refine Calls.mono (Floor_calls (heapPg h) (s := s) root hr hI name hw) ?_
  rw [show (heapPg h).ops = heapO from rfl, secs_tree t h8]
  rintro _ w ⟨g1, A1, ecs, q, rfl, hg1, hI1, rfl, h1, hw⟩
  exact ⟨g1, A1, ecs, _, rfl, hg1, hI1, rfl, h1, hw⟩
end
/-! The document's answers. -/
theorem begins8_calls {E : Env} {w : World} {L : List As} (s p : ByteArray) (hs : s.size ≤ reachBytes) (hp : p.size ≤ reachBytes) (hw : Sat E w L) :
    Calls Try.prog 61 #[.string s, .string p] w fun e w' => e = .returned (.bool (begins s p)) ∧ Sat E w' L := by
  simp only [reachBytes] at hs hp
  unfold begins
  refine calls_of_g (n := 18) Try.func61 rfl rfl rfl ?_
  change G _ _ _ _ _ [(0, _), (1, _)] _
  refine g_seq ?_
  refine g_region ?_
  refine xV rfl rfl rfl (v_assign rfl) ?_
  refine rl_nil (g_le (xK (Fr.le_refl _)) ?_)
  refine g_seq ?_
  refine g_region ?_
  refine xV rfl rfl rfl (v_move rfl) ?_
  refine xV rfl rfl rfl (v_lenStr T.str_9 rfl) ?_
  refine xV rfl rfl rfl (v_move rfl) ?_
  refine xV rfl rfl rfl (v_lenStr T.str_9 rfl) ?_
  refine xV rfl rfl rfl (v_geq rfl rfl) ?_
  refine xV rfl rfl rfl (v_move rfl) ?_
  refine rl_split (s := 10) rfl (fun g1_5 => ?_) (fun g1_5 => ?_)
  · try with_reducible exact ft_elim g1_5
    all_goals
      try replace g1_5 := of_decide_eq_true g1_5
      refine rl_vg (met_on rfl rfl rfl rfl) rfl rfl (S := fun _ => True) trivial (v_move rfl) ?_
      refine rl_vg (met_on rfl rfl rfl rfl) rfl rfl (S := fun _ => True) trivial (v_move rfl) ?_
      refine rl_vg (met_on rfl rfl rfl rfl) rfl rfl (S := fun _ => True) trivial (v_lenStr T.str_9 rfl) ?_
      refine rl_vg (met_on rfl rfl rfl rfl) rfl rfl (S := fun _ => True) trivial (v_sliceStrTo T.str_9 rfl rfl (by omega) (by omega)) ?_
      refine rl_vg (met_on rfl rfl rfl rfl) rfl rfl (S := fun _ => True) trivial (v_move rfl) ?_
      refine rl_vg (met_on rfl rfl rfl rfl) rfl rfl (S := fun _ => True) trivial (v_eqlStr rfl rfl) ?_
      refine xV rfl rfl rfl (v_pick_true rfl rfl) ?_
      refine xV rfl rfl rfl (v_assign rfl) ?_
      refine rl_nil (g_le (xK (xS rfl (xS rfl (xS rfl (xS rfl (xS rfl (xS rfl (xS rfl (xS rfl (xS rfl (xS rfl (xS rfl (xS rfl (xS rfl (xS rfl (Fr.le_refl _)))))))))))))))) ?_)
      refine g_ret1 Try.func61 rfl rfl ?_
      rw [if_pos (by omega)]; exact ⟨by simp, hw⟩
  · try with_reducible exact tf_elim g1_5
    all_goals
      try replace g1_5 := of_decide_eq_false g1_5
      refine rl_off (met_off rfl rfl rfl rfl rfl) rfl rfl ?_
      refine rl_off (met_off rfl rfl rfl rfl rfl) rfl rfl ?_
      refine rl_off (met_off rfl rfl rfl rfl rfl) rfl rfl ?_
      refine rl_off (met_off rfl rfl rfl rfl rfl) rfl rfl ?_
      refine rl_off (met_off rfl rfl rfl rfl rfl) rfl rfl ?_
      refine rl_off (met_off rfl rfl rfl rfl rfl) rfl rfl ?_
      refine xV rfl rfl rfl (v_pick_false rfl rfl) ?_
      refine xV rfl rfl rfl (v_assign rfl) ?_
      refine rl_nil (g_le (xK (xS rfl (xS rfl (xS rfl (xS rfl (xS rfl (xS rfl (xS rfl (xS rfl (xS rfl (xS rfl (xS rfl (xS rfl (xS rfl (xS rfl (Fr.le_refl _)))))))))))))))) ?_)
      refine g_ret1 Try.func61 rfl rfl ?_
      rw [if_neg (by omega)]; exact ⟨rfl, hw⟩
theorem named8_calls {E : Env} {w : World} {L : List As} {g : Hp} {pa : Option Addr} {pn pc : Nat} {prefixes : List ByteArray} (name : ByteArray) (hn : name.size ≤ reachBytes) (hrd : (rdSl 16 1 rdStr) g [.slice pa pn pc] prefixes) (hw : Sat E w (RO g :: L)) :
    Calls Try.prog 45 #[.string name, .slice pa pn pc] w fun e w' => e = .returned (.bool (pNames prefixes ⟨name, []⟩)) ∧ Sat E w' (RO g :: L) := by
  obtain ⟨rfl, _, hnc, hnm, gn⟩ := rdSl_get hrd
  simp only [maxLen] at hnm
  refine calls_of_g (n := 20) Try.func45 rfl rfl rfl ?_
  change G _ _ _ _ _ [(0, _), (1, _)] _
  refine g_seq ?_
  refine g_region ?_
  refine xV rfl rfl rfl (v_assign rfl) ?_
  refine rl_nil (g_le (xK (Fr.le_refl _)) ?_)
  refine g_seq (g_seq ?_)
  refine g_region ?_
  refine xV rfl rfl rfl (v_move rfl) ?_
  refine xV rfl rfl rfl (v_lenSlice T.sl_29_9_1 rfl) ?_
  refine xV rfl rfl rfl (v_move rfl) ?_
  refine rl_nil (g_le (xK (xK (xK (Fr.le_refl _)))) ?_)
  refine g_block ?_
  refine g_loopC (σ := Nat) (fun C x => (9, .int .i64 (x : Nat)) :: C) [(0, _), (1, _), (4, _), (7, _), (8, _)] (by repeat (first | exact Fr.le_nil _ | refine Fr.le_cons rfl ?_)) (fun z w => z ≤ prefixes.length ∧ (∀ p ∈ prefixes.take z, begins name p = false) ∧ Sat E w (RO g :: L)) (fun z => prefixes.length - z) ?_ 0 (by repeat (first | exact Fr.le_nil _ | refine Fr.le_cons rfl ?_)) ⟨by simp, by simp, hw⟩
  rintro i w ⟨hi1, hno, hw⟩ ih
  refine g_seq ?_
  refine g_region ?_
  refine xV rfl rfl rfl (v_lss rfl rfl) ?_
  refine rl_nil (g_le (xK (Fr.le_refl _)) ?_)
  refine g_seq ?_
  refine g_cond rfl (fun h1 => ?_) (fun h1 => ?_)
  · try with_reducible exact ft_elim h1
    all_goals
      try replace h1 := of_decide_eq_true h1
      refine g_skip (g_seq (g_block (g_seq ?_)))
      have hz := hw
      clear hw
      obtain ⟨b4, o1, x, ecs, rfl, hx, hat1, hl1, hq, hxr⟩ := gn (i : Nat) (by omega) (by omega)
      subst hq
      rw [Int.toNat_natCast] at hx
      have hw := hz
      refine g_region ?_
      refine xV rfl rfl rfl (v_indexAddr T.sl_29_9_1 rfl rfl (by omega) (by omega)) ?_
      refine rl_v rfl rfl rfl (by exact ro_at0 hw (by (repeat first | with_reducible exact xH | apply xT); first | done | fail) (by assumption) rfl) (v_load T.scal_9 rfl) ?_
      refine xV rfl rfl rfl (v_assign rfl) ?_
      refine rl_nil (g_le (xK (xK (xK (Fr.le_refl _)))) ?_)
      refine g_seq ?_
      refine g_region ?_
      refine xV rfl rfl rfl (v_move rfl) ?_
      refine xV rfl rfl rfl (v_move rfl) ?_
      refine rl_k rfl (k_callf Try.func61 rfl rfl rfl rfl ?_)
      refine Calls.mono (begins8_calls name x hn hxr hw) ?_
      rintro _ w ⟨rfl, hw⟩
      refine ⟨_, rfl, ?_⟩
      refine rl_nil (g_le (xK (xK (xK (Fr.le_refl _)))) ?_)
      refine g_cond rfl (fun h2 => ?_) (fun h2 => ?_)
      · try with_reducible exact ft_elim h2
        all_goals
          try replace h2 := of_decide_eq_true h2
          refine g_seq ?_
          refine g_region ?_
          refine xV rfl rfl rfl (v_assign rfl) ?_
          refine rl_nil (g_le (xK (Fr.le_refl _)) ?_)
          refine g_ret1 Try.func45 rfl rfl ?_
          have hxm := List.mem_of_getElem? hx
          have e1 : pNames prefixes ⟨name, []⟩ = true := by unfold pNames; rw [if_neg (by have := List.length_pos_of_mem hxm; omega)]; exact List.any_eq_true.2 ⟨x, hxm, h2⟩
          rw [e1]
          exact ⟨rfl, hw⟩
      · try with_reducible exact tf_elim h2
        all_goals
          try replace h2 := of_decide_eq_false h2
          refine g_skip (g_inBlock ?_)
          refine g_region ?_
          refine xV rfl rfl rfl (v_add rfl rfl (by omega)) ?_
          refine xV rfl rfl rfl (v_move rfl) ?_
          refine rl_nil (g_le (xK (xK (Fr.le_refl _))) ?_)
          exact g_le (by repeat (first | exact Fr.le_nil _ | refine Fr.le_cons rfl ?_)) (ih (i + 1) w ⟨by omega, fun p hp => by rw [List.take_add_one, hx] at hp; simp only [Option.toList_some, List.mem_append, List.mem_singleton] at hp; rcases hp with hp | rfl; exact hno p hp; exact h2, hw⟩ (by omega))
  · try with_reducible exact tf_elim h1
    all_goals
      try replace h1 := of_decide_eq_false h1
      refine g_exit rfl (g_seq ?_)
      refine g_region ?_
      refine xV rfl rfl rfl (v_move rfl) ?_
      refine xV rfl rfl rfl (v_lenSlice T.sl_29_9_1 rfl) ?_
      refine xV rfl rfl rfl (v_eql rfl rfl) ?_
      refine xV rfl rfl rfl (v_assign rfl) ?_
      refine rl_nil (g_le (xK (xS rfl (xS rfl (xS rfl (Fr.le_refl _))))) ?_)
      refine g_ret1 Try.func45 rfl rfl ?_
      rw [List.take_of_length_le (by omega)] at hno
      have e1 : decide ((prefixes.length : Int) = 0) = pNames prefixes ⟨name, []⟩ := (by unfold pNames; by_cases h : prefixes.length = 0; (rw [if_pos h, decide_eq_true (by omega)]); (rw [if_neg h, decide_eq_false (by omega)]; exact (Bool.eq_false_iff.2 (fun h => by obtain ⟨p, hp, hb⟩ := List.any_eq_true.1 h; rw [show begins _ p = false from hno p hp] at hb; cases hb)).symm)); rw [← e1]; exact ⟨rfl, hw⟩
theorem ord_f23_r6_L10 : orderOfB Try.f23 6 [] (.a 0 (.a 1 (.a 2 (.a 4 (.a 5 (.a 6 (.v 3 (.k 7 (.k 8 .done))))))))) = true := by kernel_rfl
theorem sameTexts_calls {E : Env} {w : World} {L : List As} {g : Hp} {a b : Option Addr} {n n' c c' : Nat} {xs : List ByteArray} (h1 : (rdSl 16 1 rdStr) g [.slice a n c] xs) (h2 : (rdSl 16 1 rdStr) g [.slice b n' c'] xs) (hw : Sat E w (RO g :: L)) :
    Calls Try.prog 23 #[.slice a n c, .slice b n' c'] w fun e w' => e = .returned (.bool true) ∧ Sat E w' (RO g :: L) := by
  obtain ⟨rfl, _, hnc, hnm, gn⟩ := rdSl_get h1
  obtain ⟨rfl, _, _, _, gm⟩ := rdSl_get h2
  simp only [maxLen] at hnm
  refine calls_of_g (n := 26) Try.func23 rfl rfl rfl ?_
  change G _ _ _ _ _ [(0, _), (1, _)] _
  refine g_seq ?_
  refine g_region ?_
  refine xV rfl rfl rfl (v_assign rfl) ?_
  refine rl_nil (g_le (xK (Fr.le_refl _)) ?_)
  refine g_seq (g_seq ?_)
  refine g_region ?_
  refine xV rfl rfl rfl (v_move rfl) ?_
  refine xV rfl rfl rfl (v_lenSlice T.sl_29_9_1 rfl) ?_
  refine xV rfl rfl rfl (v_move rfl) ?_
  refine xV rfl rfl rfl (v_lenSlice T.sl_29_9_1 rfl) ?_
  refine xV rfl rfl rfl (v_neqF rfl rfl (by omega)) ?_
  refine rl_nil (g_le (xK (xS rfl (xS rfl (xS rfl (xS rfl (Fr.le_refl _)))))) ?_)
  refine g_cond_false rfl ?_
  refine g_skip (g_seq (g_seq ?_))
  refine g_region ?_
  refine xV rfl rfl rfl (v_move rfl) ?_
  refine xV rfl rfl rfl (v_lenSlice T.sl_29_9_1 rfl) ?_
  refine xV rfl rfl rfl (v_move rfl) ?_
  refine rl_nil (g_le (xK (xK (xS rfl (Fr.le_refl _)))) ?_)
  refine g_block ?_
  refine g_loopC (σ := Nat) (fun C x => (13, .int .i64 (x : Nat)) :: C) [(0, _), (1, _), (4, _), (12, _)] (by repeat (first | exact Fr.le_nil _ | refine Fr.le_cons rfl ?_)) (fun z w => z ≤ xs.length ∧ Sat E w (RO g :: L)) (fun z => xs.length - z) ?_ 0 (by repeat (first | exact Fr.le_nil _ | refine Fr.le_cons rfl ?_)) ⟨by simp, hw⟩
  rintro i w ⟨hi1, hw⟩ ih
  refine g_seq ?_
  refine g_region ?_
  refine xV rfl rfl rfl (v_lss rfl rfl) ?_
  refine rl_nil (g_le (xK (Fr.le_refl _)) ?_)
  refine g_seq ?_
  refine g_cond rfl (fun h2 => ?_) (fun h2 => ?_)
  · try with_reducible exact ft_elim h2
    all_goals
      try replace h2 := of_decide_eq_true h2
      refine g_skip (g_seq (g_block (g_seq ?_)))
      refine g_region ?_
      refine xV rfl rfl rfl (v_move rfl) ?_
      refine xV rfl rfl rfl (v_assign rfl) ?_
      refine rl_nil (g_le (xK (xK (Fr.le_refl _))) ?_)
      refine g_seq ?_
      have hz := hw
      clear hw
      obtain ⟨b4, o1, x, ecs, rfl, hx, hat1, hl1, hq, hxr⟩ := gn (i : Nat) (by omega) (by omega)
      subst hq
      obtain ⟨b5, o5, y, ycs, rfl, hy, hat5, hl5, hq, hyr⟩ := gm (i : Nat) (by omega) (by omega)
      subst hq
      rw [hx] at hy
      obtain rfl := Option.some.inj hy
      have hw := hz
      refine g_drawR ord_f23_r6_L10 (by kernel_rfl) T.mixed hw (fun w hw => ?_)
      refine rs_a 0 rfl rfl rfl rfl (v_move rfl) ?_
      refine rs_a 1 rfl rfl rfl rfl (v_move rfl) ?_
      refine rs_a 2 rfl rfl rfl rfl (v_indexAddr T.sl_29_9_1 rfl rfl (by omega) (by omega)) ?_
      refine rs_a 4 rfl rfl rfl rfl (v_move rfl) ?_
      refine rs_a 5 rfl rfl rfl rfl (v_move rfl) ?_
      refine rs_a 6 rfl rfl rfl rfl (v_indexAddr T.sl_29_9_1 rfl rfl (by omega) (by omega)) ?_
      refine rs_v 3 rfl rfl rfl rfl (OpV.mono (v_load T.scal_9 rfl) (fun w hw => by exact ro_at0 hw (by (repeat first | with_reducible exact xH | apply xT); first | done | fail) (by assumption) rfl)) (by exact hw) ?_
      refine rs_kv 7 rfl rfl rfl rfl (by exact ro_at0 hw (by (repeat first | with_reducible exact xH | apply xT); first | done | fail) (by assumption) rfl) (v_load T.scal_9 rfl) ?_
      refine rs_kv 8 rfl rfl rfl rfl (S' := fun _ => True) trivial (v_neqStrF rfl rfl (by first | rfl | assumption)) ?_
      refine rs_done (g_le (xK (xK (xK (xK (xK (xK (xK (xK (xK (Fr.le_refl _)))))))))) ?_)
      refine g_cond_false rfl ?_
      refine g_skip (g_inBlock ?_)
      refine g_region ?_
      refine xV rfl rfl rfl (v_add rfl rfl (by omega)) ?_
      refine xV rfl rfl rfl (v_move rfl) ?_
      refine rl_nil (g_le (xK (xK (Fr.le_refl _))) ?_)
      exact g_le (by repeat (first | exact Fr.le_nil _ | refine Fr.le_cons rfl ?_)) (ih (i + 1) w ⟨by omega, hw⟩ (by omega))
  · try with_reducible exact tf_elim h2
    all_goals
      try replace h2 := of_decide_eq_false h2
      refine g_exit rfl (g_seq ?_)
      refine g_region ?_
      refine xV rfl rfl rfl (v_assign rfl) ?_
      refine rl_nil (g_le (xK (Fr.le_refl _)) ?_)
      refine g_ret1 Try.func23 rfl rfl ?_
      exact ⟨rfl, hw⟩
def inT (s : ByteArray) (xs : List ByteArray) : Bool := xs.any fun x => decide (x = s)
theorem inT_iff {s : ByteArray} {xs : List ByteArray} : inT s xs = true ↔ s ∈ xs := by
  unfold inT
  rw [List.any_eq_true]
  exact ⟨fun ⟨x, hx, h⟩ => by rw [← of_decide_eq_true h]; exact hx, fun h => ⟨s, h, decide_eq_true rfl⟩⟩
theorem inTexts_calls {E : Env} {w : World} {L : List As} {g : Hp} {a : Option Addr} {n c : Nat} {xs : List ByteArray} (s : ByteArray) (h1 : (rdSl 16 1 rdStr) g [.slice a n c] xs) (hw : Sat E w (RO g :: L)) :
    Calls Try.prog 25 #[.slice a n c, .string s] w fun e w' => e = .returned (.bool (inT s xs)) ∧ Sat E w' (RO g :: L) := by
  obtain ⟨rfl, _, hnc, hnm, gn⟩ := rdSl_get h1
  simp only [maxLen] at hnm
  refine calls_of_g (n := 17) Try.func25 rfl rfl rfl ?_
  change G _ _ _ _ _ [(0, _), (1, _)] _
  refine g_seq ?_
  refine g_region ?_
  refine xV rfl rfl rfl (v_assign rfl) ?_
  refine rl_nil (g_le (xK (Fr.le_refl _)) ?_)
  refine g_seq (g_seq ?_)
  refine g_region ?_
  refine xV rfl rfl rfl (v_move rfl) ?_
  refine xV rfl rfl rfl (v_lenSlice T.sl_29_9_1 rfl) ?_
  refine xV rfl rfl rfl (v_move rfl) ?_
  refine rl_nil (g_le (xK (xK (xK (Fr.le_refl _)))) ?_)
  refine g_block ?_
  refine g_loopC (σ := Nat) (fun C x => (9, .int .i64 (x : Nat)) :: C) [(1, _), (4, _), (7, _), (8, _)] (by repeat (first | exact Fr.le_nil _ | refine Fr.le_cons rfl ?_)) (fun z w => z ≤ xs.length ∧ s ∉ xs.take z ∧ Sat E w (RO g :: L)) (fun z => xs.length - z) ?_ 0 (by repeat (first | exact Fr.le_nil _ | refine Fr.le_cons rfl ?_)) ⟨by simp, by simp, hw⟩
  rintro i w ⟨hi1, hni, hw⟩ ih
  refine g_seq ?_
  refine g_region ?_
  refine xV rfl rfl rfl (v_lss rfl rfl) ?_
  refine rl_nil (g_le (xK (Fr.le_refl _)) ?_)
  refine g_seq ?_
  refine g_cond rfl (fun h1 => ?_) (fun h1 => ?_)
  · try with_reducible exact ft_elim h1
    all_goals
      try replace h1 := of_decide_eq_true h1
      refine g_skip (g_seq (g_block (g_seq ?_)))
      have hz := hw
      clear hw
      obtain ⟨b4, o1, x, ecs, rfl, hx, hat1, hl1, hq, hxr⟩ := gn (i : Nat) (by omega) (by omega)
      subst hq
      rw [Int.toNat_natCast] at hx
      have hw := hz
      refine g_region ?_
      refine xV rfl rfl rfl (v_indexAddr T.sl_29_9_1 rfl rfl (by omega) (by omega)) ?_
      refine rl_v rfl rfl rfl (by exact ro_at0 hw (by (repeat first | with_reducible exact xH | apply xT); first | done | fail) (by assumption) rfl) (v_load T.scal_9 rfl) ?_
      refine xV rfl rfl rfl (v_assign rfl) ?_
      refine rl_nil (g_le (xK (xK (xK (Fr.le_refl _)))) ?_)
      refine g_seq ?_
      refine g_region ?_
      refine xV rfl rfl rfl (v_move rfl) ?_
      refine xV rfl rfl rfl (v_move rfl) ?_
      refine xV rfl rfl rfl (v_eqlStr rfl rfl) ?_
      refine rl_nil (g_le (xK (xK (xK (Fr.le_refl _)))) ?_)
      refine g_cond rfl (fun h2 => ?_) (fun h2 => ?_)
      · try with_reducible exact ft_elim h2
        all_goals
          try replace h2 := of_decide_eq_true h2
          refine g_seq ?_
          refine g_region ?_
          refine xV rfl rfl rfl (v_assign rfl) ?_
          refine rl_nil (g_le (xK (Fr.le_refl _)) ?_)
          refine g_ret1 Try.func25 rfl rfl ?_
          rw [show inT s xs = true from inT_iff.2 (h2 ▸ List.mem_of_getElem? hx)]
          exact ⟨rfl, hw⟩
      · try with_reducible exact tf_elim h2
        all_goals
          try replace h2 := of_decide_eq_false h2
          refine g_skip (g_inBlock ?_)
          refine g_region ?_
          refine xV rfl rfl rfl (v_add rfl rfl (by omega)) ?_
          refine xV rfl rfl rfl (v_move rfl) ?_
          refine rl_nil (g_le (xK (xK (Fr.le_refl _))) ?_)
          exact g_le (by repeat (first | exact Fr.le_nil _ | refine Fr.le_cons rfl ?_)) (ih (i + 1) w ⟨by omega, by rw [List.take_add_one, hx]; simp only [Option.toList_some, List.mem_append, List.mem_singleton]; rintro (h | h); exact hni h; exact h2 h.symm, hw⟩ (by omega))
  · try with_reducible exact tf_elim h1
    all_goals
      try replace h1 := of_decide_eq_false h1
      refine g_exit rfl (g_seq ?_)
      refine g_region ?_
      refine xV rfl rfl rfl (v_assign rfl) ?_
      refine rl_nil (g_le (xK (Fr.le_refl _)) ?_)
      refine g_ret1 Try.func25 rfl rfl ?_
      rw [List.take_of_length_le (by omega)] at hni
      rw [show inT s xs = false from Bool.eq_false_iff.2 fun h => hni (inT_iff.1 h)]
      exact ⟨rfl, hw⟩
set_option maxHeartbeats 1000000 in
theorem rnames_calls {E : Env} {w : World} {L : List As} {g : Hp} {a pa : Option Addr} {n c pn pc : Nat} {es : List En} {prefixes : List ByteArray} (hes : (rdSl 40 2 rdEn) g [.slice a n c] es) (hel : es.length ≤ 400000) (hrd : (rdSl 16 1 rdStr) g [.slice pa pn pc] prefixes) (hw : Sat E w (RO g :: L)) :
    Calls Try.prog 24 #[.slice a n c, .slice pa pn pc] w fun v w' => ∃ g' la ln lc, g.le g' ∧ v = .returned (.slice la ln lc) ∧ (rdSl 16 1 rdStr) g' [.slice la ln lc] ((es.filter (pNames prefixes)).map (·.name)) ∧ Sat E w' (RO g' :: L) := by
  obtain ⟨rfl, _, _, _, ge⟩ := rdSl_get hes
  refine calls_of_g (n := 26) Try.func24 rfl rfl rfl ?_
  change G _ _ _ _ _ [(0, _), (1, _)] _
  refine g_seq ?_
  refine g_region ?_
  refine xV rfl rfl rfl (v_assign rfl) ?_
  refine rl_nil (g_le (xK (Fr.le_refl _)) ?_)
  refine g_seq ?_
  refine g_region ?_
  refine rl_k rfl (k_buildSlice0 hw T.sl_29_9_1 T.zero_9 rfl (fun bk1_0 w hw => ?_))
  refine xV rfl rfl rfl (v_assign rfl) ?_
  refine rl_nil (g_le (xK (xS rfl (Fr.le_refl _))) ?_)
  refine g_seq (g_seq ?_)
  refine g_region ?_
  refine xV rfl rfl rfl (v_move rfl) ?_
  refine xV rfl rfl rfl (v_lenSlice T.sl_33_40_2 rfl) ?_
  refine xV rfl rfl rfl (v_move rfl) ?_
  refine rl_nil (g_le (xK (xK (xK (Fr.le_refl _)))) ?_)
  refine g_block ?_
  refine g_loopC (σ := Nat × Value × List Value) (fun C x => (11, .int .i64 (x.1 : Nat)) :: (5, x.2.1) :: C) [(1, _), (4, _), (9, _), (10, _)] (by repeat (first | exact Fr.le_nil _ | refine Fr.le_cons rfl ?_)) (fun z w => z.1 ≤ es.length ∧ Els rdStr 1 g z.2.2 (((es.take z.1).filter (pNames prefixes)).map (·.name)) ∧ Sat E w (OwnSl 9 1 z.2.1 (((es.take z.1).filter (pNames prefixes)).map (·.name)).length z.2.2 :: RO g :: L)) (fun z => es.length - z.1) ?_ (0, .slice (some ⟨bk1_0, 0, none⟩) 0 0, []) (by repeat (first | exact Fr.le_nil _ | refine Fr.le_cons rfl ?_)) ⟨by simp, Els.nil, by simp only [List.take_zero, List.filter_nil, List.map_nil, List.length_nil]; exact hw.xQ⟩
  rintro ⟨k, ov, ocs⟩ w ⟨hk1, hels, hw⟩ ih
  dsimp only at hk1 hels hw ih ⊢
  refine g_seq ?_
  refine g_region ?_
  refine xV rfl rfl rfl (v_lss rfl rfl) ?_
  refine rl_nil (g_le (xK (Fr.le_refl _)) ?_)
  refine g_seq ?_
  refine g_cond rfl (fun h1 => ?_) (fun h1 => ?_)
  · try with_reducible exact ft_elim h1
    all_goals
      try replace h1 := of_decide_eq_true h1
      refine g_skip (g_seq (g_block (g_seq ?_)))
      have hz := hw
      clear hw
      obtain ⟨b6, o6, e, ecs, rfl, he, hat6, hl6, hrde⟩ := ge (k : Nat) (by omega) (by omega)
      rw [Int.toNat_natCast] at he hat6
      obtain ⟨va, vn, vc, rfl, hrde⟩ := en_told hrde
      obtain ⟨q0, q1, hq, ⟨p0, hns⟩, p1⟩ := id hrde
      have hte : es.take (k + 1) = es.take k ++ [e] := by rw [List.take_add_one, he]; rfl
      have htl : (((es.take k).filter (pNames prefixes)).map (·.name)).length ≤ 400000 := by rw [List.length_map]; have := List.length_filter_le (pNames prefixes) (es.take k); rw [List.length_take] at this; omega
      obtain ⟨oa, oc, rfl, _, _, _⟩ := hz.own_shape
      have hlen := hels.len
      have hone := hels.ones one_str
      have hpe : pNames prefixes ⟨e.name, []⟩ = pNames prefixes e := rfl
      have hw := hz
      refine g_region ?_
      refine xV rfl rfl rfl (v_indexAddr T.sl_33_40_2 rfl rfl (by omega) (by omega)) ?_
      refine rl_v rfl rfl rfl (by exact ro_ats hw (by (repeat first | with_reducible exact xH | apply xT); first | done | fail) (by assumption)) (v_loadAgg (vs := [_, _]) T.agg_40_2 rfl rfl) ?_
      refine rl_k rfl (k_alloc hw T.zero_40 rfl rfl (fun bk4_2 w hw => ?_))
      refine rl_k rfl (k_storeWhole hw T.agg_40_2 rfl rfl (by simp [Value.oneCell']) rfl (by (repeat first | with_reducible exact xH | apply xT); first | done | fail) rfl (fun w hw => ?_))
      refine rl_nil (g_le (xK (xK (xK (Fr.le_refl _)))) ?_)
      refine g_seq ?_
      refine g_region ?_
      refine xV rfl rfl rfl (v_fieldAddr0 T.fld_40_0_0 rfl) ?_
      refine rl_v rfl rfl rfl (by exact sat_cell hw (by (repeat first | with_reducible exact xH | apply xT); first | done | fail) rfl) (v_load T.scal_9 rfl) ?_
      refine xV rfl rfl rfl (v_move rfl) ?_
      refine rl_k rfl (k_callf Try.func45 rfl rfl rfl rfl ?_)
      refine Calls.mono (named8_calls e.name hns hrd (hw.xP (A := RO g))) ?_
      rw [hpe]
      rintro _ w ⟨rfl, hw⟩
      refine ⟨_, rfl, ?_⟩
      refine rl_nil (g_le (xK (xK (xK (xK (Fr.le_refl _))))) ?_)
      refine g_cond rfl (fun h2 => ?_) (fun h2 => ?_)
      · try with_reducible exact ft_elim h2
        all_goals
          try replace h2 := of_decide_eq_true h2
          refine g_region ?_
          refine xV rfl rfl rfl (v_move rfl) ?_
          refine xV rfl rfl rfl (v_fieldAddr0 T.fld_40_0_0 rfl) ?_
          refine rl_v rfl rfl rfl (by exact sat_cell hw (by (repeat first | with_reducible exact xH | apply xT); first | done | fail) rfl) (v_load T.scal_9 rfl) ?_
          refine rl_k rfl (k_buildSlice (cells := [_]) hw T.sl_29_9_1 T.zero_9 rfl rfl rfl rfl rfl rfl (fun bk6_3 w hw => ?_))
          refine rl_k rfl (k_append (news := [_]) hw T.sl_29_9_1 T.zero_9 T.bytes_9_16 rfl (by decide) rfl rfl (by (repeat first | with_reducible exact xH | apply xT); first | done | fail) rfl (by exact sat_cells hw (by (repeat first | with_reducible exact xH | apply xT); first | done | fail) ⟨rfl, trivial⟩) (by simp [Value.oneCell']) (by omega) (by simp only [maxLen]; omega) rfl (fun vv6_4 w hw hnil => ?_))
          refine xV rfl rfl rfl (v_assign rfl) ?_
          refine rl_nil (g_le (xK (xK (xK (xK (xK (xK (Fr.le_refl _))))))) ?_)
          refine g_inBlock ?_
          refine g_region ?_
          refine xV rfl rfl rfl (v_add rfl rfl (by omega)) ?_
          refine xV rfl rfl rfl (v_move rfl) ?_
          refine rl_nil (g_le (xK (xK (Fr.le_refl _))) ?_)
          have e1 : ((es.take (k + 1)).filter (pNames prefixes)).map (·.name) = ((es.take k).filter (pNames prefixes)).map (·.name) ++ [e.name] := by rw [hte, List.filter_append, List.map_append]; simp [h2]
          exact g_le (by repeat (first | exact Fr.le_nil _ | refine Fr.le_cons rfl ?_)) (ih (k + 1, vv6_4, _) w ⟨by simp only; omega, by dsimp only; rw [e1]; exact hels.snoc rfl ⟨rfl, hns⟩, by dsimp only; rw [e1, List.length_append (bs := [e.name]), List.length_singleton]; exact hw.xQ⟩ (by simp only; omega))
      · try with_reducible exact tf_elim h2
        all_goals
          try replace h2 := of_decide_eq_false h2
          refine g_skip (g_inBlock ?_)
          refine g_region ?_
          refine xV rfl rfl rfl (v_add rfl rfl (by omega)) ?_
          refine xV rfl rfl rfl (v_move rfl) ?_
          refine rl_nil (g_le (xK (xK (Fr.le_refl _))) ?_)
          have e1 : ((es.take (k + 1)).filter (pNames prefixes)).map (·.name) = ((es.take k).filter (pNames prefixes)).map (·.name) := by rw [hte, List.filter_append, List.map_append]; simp [h2]
          exact g_le (by repeat (first | exact Fr.le_nil _ | refine Fr.le_cons rfl ?_)) (ih (k + 1, _, ocs) w ⟨by simp only; omega, by dsimp only; rw [e1]; exact hels, by dsimp only; rw [e1]; exact hw.xQ⟩ (by simp only; omega))
  · try with_reducible exact tf_elim h1
    all_goals
      try replace h1 := of_decide_eq_false h1
      refine g_exit rfl (g_seq ?_)
      rw [List.take_of_length_le (by omega)] at hels hw
      have hfl := List.length_filter_le (pNames prefixes) es
      obtain ⟨oa, oc, rfl, hoc, _, _⟩ := hw.own_shape
      obtain ⟨g2, hg2, hres, hw⟩ := (hw.xQ : Sat E w (RO g :: OwnSl 9 1 (.slice oa ((es.filter (pNames prefixes)).map (·.name)).length oc) ((es.filter (pNames prefixes)).map (·.name)).length ocs :: L)).freeze_sl (bytes := 16) mono_str hels rfl (by simp only [List.length_map, reachBytes]; omega)
      refine g_region ?_
      refine xV rfl rfl rfl (v_move rfl) ?_
      refine xV rfl rfl rfl (v_assign rfl) ?_
      refine rl_nil (g_le (xK (xS rfl (Fr.le_refl _))) ?_)
      refine g_ret1 Try.func24 rfl rfl ?_
      exact ⟨g2, _, _, _, hg2, rfl, hres, hw.xQ⟩
end Go.Proofs.Ytdiocmjhencbpaa
