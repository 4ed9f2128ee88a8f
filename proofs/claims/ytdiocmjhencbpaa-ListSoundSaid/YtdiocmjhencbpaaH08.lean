/-
  Pages in memory as the laws use them; an empty tree.
-/
import Derived.Test.YtdiocmjhencbpaaC07m
import Derived.Test.YtdiocmjhencbpaaX14
namespace Go.Proofs.Ytdiocmjhencbpaa
set_option maxRecDepth 8000
set_option linter.unusedSimpArgs false
set_option linter.unusedVariables false
open Go Xe
theorem HeapI.mono {h : Nat} {g g' : Hp} {s : List Nd} {A : As} (l : g.le g') (hI : HeapI h g s A) : HeapI h g' s A := (heapPg h).mono l hI
theorem tnew_calls {E : Env} {w : World} {L : List As} {g : Hp} (hw : Sat E w (RO g :: L)) :
    Calls Try.prog 9 #[] w fun e w' => ∃ h A, e = .returned (.pointer (some ⟨h, 0, none⟩)) ∧ HeapI h g [] A ∧ Sat E w' (A :: RO g :: L) := by
  refine Calls.mono (newHeap_calls hw) ?_
  rintro _ w ⟨h, rfl, hw⟩
  exact ⟨h, _, rfl, ⟨_, [], rfl, .nil, by simp, by simp⟩, Sat.unflat (X := [_, _]) hw⟩
theorem twrite_calls {E : Env} {w : World} {L : List As} {g : Hp} {h : Nat} {s : List Nd} {A : As} {n : Nd} {ncs : List Value} (hn : rdNd g ncs n) (hsm : n.small) (hI : HeapI h g s A) (hw : Sat E w (A :: RO g :: L)) :
    Calls Try.prog 105 #[.pointer (some ⟨h, 0, none⟩), .agg ncs.toArray] w fun e w' => ∃ g' A', g.le g' ∧ HeapI h g' (wrH s n).2.2 A' ∧ e = .returned (.tuple #[.agg (wrH s n).1.cells.toArray, .int .i64 (wrH s n).2.1]) ∧ (wrH s n).1.ok ∧ Sat E w' (A' :: RO g' :: L) := by
  obtain ⟨lv, cells, rfl, hE, hb, hs⟩ := hI
  refine Calls.mono (hwrite_calls hn hE hb (Sat.flat (X := [_, _]) hw)) ?_
  rintro _ w ⟨g1, lv1, cells1, l1, rfl, hE1, hw⟩
  obtain ⟨f1, f2, f3⟩ := wrH_facts n hb
  exact ⟨g1, _, l1, ⟨lv1, cells1, rfl, hE1, f2, fun m hm => (f3 m hm).elim (hs m) (fun h => h ▸ hsm)⟩, rfl, f1, Sat.unflat (X := [_, _]) hw⟩
theorem Empty_calls {τ : Type} (D : Pg τ) {E : Env} {w : World} {L : List As} {g : Hp} {s : τ} {A : As} (hI : D.I g s A) (hw : Sat E w (A :: RO g :: L)) :
    Calls Try.prog 42 #[.iface D.t D.u] w fun v w' =>
    ∃ g' A', g.le g' ∧ D.I g' (D.ops.wr s ⟨true, [], []⟩).2.2 A' ∧ v = .returned (.tuple #[.agg (D.ops.wr s ⟨true, [], []⟩).1.cells.toArray, .int .i64 (D.ops.wr s ⟨true, [], []⟩).2.1]) ∧ (D.ops.wr s ⟨true, [], []⟩).1.ok ∧ Sat E w' (A' :: RO g' :: L) := by
  refine calls_of_g (n := 9) Try.func42 rfl rfl rfl ?_
  change G _ _ _ _ _ [(0, _)] _
  refine g_seq ?_
  refine g_region ?_
  refine rl_k rfl (k_alloc hw T.zero_26 rfl rfl (fun bk0_0 w hw => ?_))
  refine xV rfl rfl rfl (v_assign rfl) ?_
  refine rl_nil (g_le (xK (xK (Fr.le_refl _))) ?_)
  refine g_seq ?_
  refine g_region ?_
  refine xV rfl rfl rfl (v_move rfl) ?_
  refine xV rfl rfl rfl (v_build rfl (T.build_84_0 ..)) ?_
  refine rl_k rfl (k_callm rfl rfl rfl ?_)
  refine CallsM.mono (D.write (n := ⟨true, [], []⟩) (ncs := [.bool true, .slice none 0 0, .slice none 0 0]) ⟨_, _, _, rfl, rfl, rdSl_nil _, rdSl_nil _⟩ (by simp [Nd.small]) hI (hw.xQ)) ?_
  rintro _ w ⟨g1, A1, hg1, hI1, rfl, hok, hw⟩
  refine ⟨_, rfl, ?_⟩
  refine xV rfl rfl rfl (v_extract rfl rfl) ?_
  refine xV rfl rfl rfl (v_extract rfl rfl) ?_
  refine rl_k rfl (k_storeWhole hw T.agg_26_4 rfl rfl (by simp [Value.oneCell']) rfl (by (repeat first | with_reducible exact xH | apply xT); first | done | fail) rfl (fun w hw => ?_))
  refine xV rfl rfl rfl (v_assign rfl) ?_
  refine rl_nil (g_le (xK (xS rfl (xS rfl (xS rfl (xS rfl (xS rfl (Fr.le_refl _))))))) ?_)
  refine g_res2 Try.func42 rfl ⟨_, rfl, holds_agg (vs := [_, _, _, _]) T.agg_26_4 rfl (by exact sat_cells hw (by (repeat first | with_reducible exact xH | apply xT); first | done | fail) ⟨rfl, rfl, rfl, rfl, trivial⟩)⟩ rfl ?_
  exact ⟨g1, A1, hg1, hI1, rfl, hok, hw.xQ⟩
end Go.Proofs.Ytdiocmjhencbpaa
