/-
  Calls at whole trees in memory.
-/
import Derived.Test.YtdiocmjhencbpaaH09
import Derived.Test.YtdiocmjhencbpaaT07g
namespace Go.Proofs.Ytdiocmjhencbpaa
set_option maxRecDepth 8000
set_option linter.unusedSimpArgs false
set_option linter.unusedVariables false
open Go Xe
theorem tempty_calls {E : Env} {w : World} {L : List As} {g : Hp} {h : Nat} {A : As} (hI : HeapI h g [] A) (hw : Sat E w (A :: RO g :: L)) :
    Calls Try.prog 42 #[.iface 27 (.pointer (some ⟨h, 0, none⟩))] w fun v w' => ∃ g' A', g.le g' ∧ HeapI h g' [nodeU 0 ([] : List En)] A' ∧ v = .returned (.tuple #[.agg (refO 0).cells.toArray, .int .i64 0]) ∧ TreeAt [nodeU 0 ([] : List En)] (refO 0) 0 ([] : List En) ∧ (refO 0).ok ∧ Sat E w' (A' :: RO g' :: L) := by
  have e1 : wrH [] ⟨true, [], []⟩ = (refO 0, 0, [nodeU 0 ([] : List En)]) := by unfold wrH; rw [if_neg (by simp)]; rfl
  refine Calls.mono (Empty_calls (heapPg h) hI hw) ?_
  rw [show (heapPg h).ops = heapO from rfl]
  simp only [e1]
  rintro _ w ⟨g1, A1, hg1, hI1, rfl, hok, hw⟩
  exact ⟨g1, A1, hg1, hI1, rfl, ⟨pageAt_mk (i := 0) rfl, trivial, trivial, List.Pairwise.nil, Nat.zero_le _, .inl rfl⟩, hok, hw⟩
theorem tall_calls {E : Env} {w : World} {L : List As} {g : Hp} {h : Nat} {s : List Nd} {A : As} {root : Rf} {hh : Nat} {u : Un hh} (t : TreeAt s root hh u) (h8 : hh < 8) (hr : root.ok) (hI : HeapI h g s A) (hw : Sat E w (A :: RO g :: L)) :
    Calls Try.prog 38 #[.iface 27 (.pointer (some ⟨h, 0, none⟩)), .agg root.cells.toArray] w fun v w' => ∃ g' A' la lc, g.le g' ∧ HeapI h g' s A' ∧ v = .returned (.tuple #[.slice la (seenU hh 1 root u).length lc, .int .i64 0]) ∧ (rdSl 96 8 rdSn) g' [.slice la (seenU hh 1 root u).length lc] (seenU hh 1 root u) ∧ Sat E w' (A' :: RO g' :: L) := by
  refine Calls.mono (All_calls (heapPg h) (s := s) root hr hI hw) ?_
  rw [show (heapPg h).ops = heapO from rfl, all_tree t h8]
  dsimp only
  rintro _ w ⟨g1, A1, lv, hg1, hI1, rfl, _, _, hgd⟩
  obtain ⟨ts, hln, hgood, hw⟩ := hgd rfl
  obtain ⟨la, lc, rfl, _, _, _⟩ := hw.own_shape
  obtain ⟨g2, hg2, hsn, hw⟩ := sns_freeze (fun x hx => ⟨hgood x hx, seen_wf h8 x hx⟩) hln (hw.xQ : Sat E w (RO g1 :: OwnSl 86 8 (.slice la (seenU hh 1 root u).length lc) (seenU hh 1 root u).length (snCells (seenU hh 1 root u) ts) :: eachOf NdOf ts (seenU hh 1 root u) :: A1 :: L))
  exact ⟨g2, A1, la, lc, hg1.trans hg2, HeapI.mono hg2 hI1, rfl, hsn, hw.xQ⟩
theorem tput_calls {E : Env} {w : World} {L : List As} {g : Hp} {h : Nat} {s : List Nd} {A : As} {root : Rf} {hh : Nat} {u : Un hh} {e : En} {ecs : List Value} (hecs : rdEn g ecs e) (t : TreeAt s root hh u) (hn : (entsU hh u).length < 255) (hb : s.length + 17 ≤ 20000) (hr : root.ok) (hI : HeapI h g s A) (hw : Sat E w (A :: RO g :: L)) :
    Calls Try.prog 43 #[.iface 27 (.pointer (some ⟨h, 0, none⟩)), .agg root.cells.toArray, .agg ecs.toArray] w fun v w' => ∃ g' A' s' root' h' u', g.le g' ∧ HeapI h g' s' A' ∧ v = .returned (.tuple #[.agg root'.cells.toArray, .int .i64 0]) ∧ root'.ok ∧ StepR s root hh u (insE (entsU hh u) e) (2 * hh + 3) s' root' h' u' ∧ (h' = hh ∨ h' = hh + 1) ∧ hh < 7 ∧ Sat E w' (A' :: RO g' :: L) := by
  obtain ⟨s', root', h', u', h1, h2, h3, h4⟩ := step_put e t hn hb
  refine Calls.mono (Put_calls (heapPg h) (s := s) root hr hecs hI hw) ?_
  rw [show (heapPg h).ops = heapO from rfl, h1]
  dsimp only
  rintro _ w ⟨g1, A1, hg1, hI1, rfl, hok, hw⟩
  exact ⟨g1, A1, s', root', h', u', hg1, hI1, rfl, hok, h2, h3, h4, hw⟩
end Go.Proofs.Ytdiocmjhencbpaa
