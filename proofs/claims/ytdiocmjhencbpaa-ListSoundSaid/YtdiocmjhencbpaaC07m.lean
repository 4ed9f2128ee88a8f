/-
  The search tree on pages in memory.
-/
import Derived.Test.YtdiocmjhencbpaaC07l
import Derived.Test.YtdiocmjhencbpaaH07
namespace Go.Proofs.Ytdiocmjhencbpaa
set_option maxRecDepth 8000
set_option linter.unusedSimpArgs false
set_option linter.unusedVariables false
open Go Xe
@[reducible] def heapO : PgOps (List Nd) := ⟨rdH, wrH⟩
def HeapI (h : Nat) (g : Hp) (s : List Nd) (A : As) : Prop := ∃ lv cells, A = stars [pt h (.cells [(lv : Value)].toArray 69 (0, 0)), OwnSl 84 3 lv s.length cells] ∧ Els rdNd 3 g cells s ∧ s.length ≤ 20000 ∧ ∀ n ∈ s, n.small
theorem rdH_small {s : List Nd} (h : ∀ n ∈ s, n.small) (r : Rf) : (rdH s r).1.small := by
  unfold rdH
  split
  · rename_i hh
    have hlt : (r.key - 1).toNat < s.length := by omega
    simp only [List.getD_eq_getElem?_getD, List.getElem?_eq_getElem hlt, Option.getD_some]
    exact h _ (List.getElem_mem hlt)
  · exact nd0_small
theorem rdH_state (s : List Nd) (r : Rf) : (rdH s r).2.2 = s := by unfold rdH; split <;> rfl
theorem wrH_facts {s : List Nd} (n : Nd) (hb : s.length ≤ 20000) : (wrH s n).1.ok ∧ (wrH s n).2.2.length ≤ 20000 ∧ ∀ m ∈ (wrH s n).2.2, m ∈ s ∨ m = n := by
  unfold wrH
  split
  · exact ⟨rf0_ok, hb, fun m hm => .inl hm⟩
  · refine ⟨refO_ok (by omega), by simp only [List.length_append, List.length_cons, List.length_nil]; omega, fun m hm => ?_⟩
    rcases List.mem_append.1 hm with h | h
    · exact .inl h
    · exact .inr (List.mem_singleton.1 h)
theorem rdH_fine' {g : Hp} {cells : List Value} {s : List Nd} (h : Els rdNd 3 g cells s) (r : Rf) : (rdH s r).1.fine := by
  unfold rdH
  split
  · rename_i hh
    have hlt : (r.key - 1).toNat < s.length := by omega
    simp only [List.getD_eq_getElem?_getD, List.getElem?_eq_getElem hlt, Option.getD_some]
    exact Nd.fine_of (h.at (List.getElem?_eq_getElem hlt)).1
  · exact nd0_fine
/-- Pages in memory. -/
def heapPg (h : Nat) : Pg (List Nd) where
  ops := heapO
  t := 27
  u := .pointer (some ⟨h, 0, none⟩)
  I := HeapI h
  mono := fun l ⟨lv, cells, hA, hE, hb, hs⟩ => ⟨lv, cells, hA, hE.mono mono_Nd l, hb, hs⟩
  read := fun {E w L g s A} r hr ⟨lv, cells, hA, hE, hb, hs⟩ hw => by
    subst hA
    refine CallsM.mk (by kernel_rfl) Try.func104 rfl rfl ?_
    refine Calls.mono (hread_calls r hr hE hb (Sat.flat (X := [_, _]) hw)) ?_
    rintro _ w ⟨ev, kv, vs, rfl, hw⟩
    have hf := rdH_fine' hE r
    obtain ⟨b1, d1, rfl, _, _, _⟩ := hw.own_shape
    obtain ⟨b2, d2, rfl, _, _, _⟩ := (hw.pick .at2).own_shape
    obtain ⟨g1, l1, e1, h1⟩ := each_freeze hf.1 (hw.sub (.cons .at5 (.cons .at1 (.refl _))))
    refine ⟨g1, _, b1, d1, b2, d2, _, l1, ⟨lv, cells, rfl, ?_, ?_, ?_⟩, rfl, e1, hf, rdH_small hs r, ?_⟩
    · dsimp only; rw [rdH_state]; exact hE.mono mono_Nd l1
    · dsimp only; rw [rdH_state]; exact hb
    · dsimp only; rw [rdH_state]; exact hs
    · dsimp only; rw [rdH_state]
      exact Sat.unflat (X := [_, _]) (h1.xQ : Sat E w ([_, _] ++ _))
  write := fun {E w L g s A n ncs} hn hsm ⟨lv, cells, hA, hE, hb, hs⟩ hw => by
    subst hA
    refine CallsM.mk (by kernel_rfl) Try.func105 rfl rfl ?_
    refine Calls.mono (hwrite_calls hn hE hb (Sat.flat (X := [_, _]) hw)) ?_
    rintro _ w ⟨g1, lv1, cells1, l1, rfl, hE1, hw⟩
    obtain ⟨f1, f2, f3⟩ := wrH_facts n hb
    exact ⟨g1, _, l1, ⟨lv1, cells1, rfl, hE1, f2, fun m hm => (f3 m hm).elim (hs m) (fun h => h ▸ hsm)⟩, rfl, f1, Sat.unflat (X := [_, _]) hw⟩
end Go.Proofs.Ytdiocmjhencbpaa
