/-
  Nodes of the call's own that are written no more.
-/
import Derived.Test.YtlgpdglnfjndhaaN06c
namespace Go.Proofs.Ytlgpdglnfjndhaa
set_option maxRecDepth 8000
set_option linter.unusedSimpArgs false
set_option linter.unusedVariables false
open Go Xe
def En.fine (e : En) : Prop := e.name.size ≤ reachBytes ∧ (∀ v ∈ e.versions, v.ok) ∧ e.versions.length * 40 ≤ reachBytes
def Nd.fine (x : Nd) : Prop := (∀ e ∈ x.entries, e.fine) ∧ x.entries.length * 40 ≤ reachBytes ∧ (∀ k ∈ x.kids, k.ok) ∧ x.kids.length * 48 ≤ reachBytes
theorem rdSl_mem {α : Type} {bytes sz : Nat} {R : Rd α} {g : Hp} {v : Value} {xs : List α} (h : rdSl bytes sz R g [v] xs) : (∀ x ∈ xs, ∃ cs, R g cs x) ∧ xs.length * bytes ≤ reachBytes := by
  rcases h with ⟨a, _, rfl⟩ | ⟨b, o, c, _, _, h3, _, h5⟩
  · simp
  · refine ⟨fun x hx => ?_, h3⟩
    obtain ⟨i, hi, rfl⟩ := List.mem_iff_getElem.1 hx
    obtain ⟨cs, _, _, h⟩ := h5 i _ (List.getElem?_eq_getElem hi)
    exact ⟨cs, h⟩
theorem En.fine_of {g : Hp} {cs : List Value} {x : En} (h : rdEn g cs x) : x.fine := by
  obtain ⟨c0, c1, rfl, ⟨_, h0⟩, h1⟩ := h
  obtain ⟨h2, h3⟩ := rdSl_mem h1
  exact ⟨h0, fun v hv => (h2 v hv).elim fun _ h => h.2, h3⟩
theorem Nd.fine_of {g : Hp} {cs : List Value} {x : Nd} (h : rdNd g cs x) : x.fine := by
  obtain ⟨c0, c1, c2, rfl, _, h1, h2⟩ := h
  obtain ⟨h3, h4⟩ := rdSl_mem h1
  obtain ⟨h5, h6⟩ := rdSl_mem h2
  exact ⟨fun e he => (h3 e he).elim fun _ h => En.fine_of h, h4, fun k hk => (h5 k hk).elim fun _ h => h.2, h6⟩
theorem each_freeze {E : Env} {w : World} {L : List As} : ∀ {es : List En} {vs : List Value} {g : Hp}, (∀ e ∈ es, e.fine) → Sat E w (RO g :: eachOf VnsOf vs es :: L) →
    ∃ g', g.le g' ∧ Els rdEn 2 g' (enCells es vs) es ∧ Sat E w (RO g' :: L)
  | [], [], g, _, h => ⟨g, Hp.le_refl g, .nil, h.sub (.cons .at0 (.drop (.refl _)))⟩
  | [], _ :: _, _, _, h => h.drop.fls.elim
  | _ :: _, [], _, _, h => h.drop.fls.elim
  | e :: es, v :: vs, g, hf, h => by
    have h1 : Sat E w (VnsOf v e :: eachOf VnsOf vs es :: RO g :: L) := Sat.each_cons.1 (h.pick .at1)
    obtain ⟨fn, fv, fb⟩ := hf e (by simp)
    obtain ⟨g1, l1, r1, h2⟩ := (h1.sub (.cons .at2 (.cons .at0 (.refl _)))).freeze_sl (bytes := 40) mono_Vn (els_of (f := Vn.cells) (R := rdVn) (fun x => rfl) (fun x hx => ⟨rfl, fv x hx⟩)) rfl fb
    obtain ⟨g2, l2, e2, h3⟩ := each_freeze (fun e he => hf e (by simp [he])) h2
    refine ⟨g2, l1.trans l2, ?_, h3⟩
    exact (Els.one (cs := [.string e.name, v]) rfl ⟨_, _, rfl, ⟨rfl, fn⟩, mono_sl mono_Vn l2 r1⟩).append e2
theorem nd_freeze {E : Env} {w : World} {L : List As} {g : Hp} {ev kv : Value} {vs : List Value} {x : Nd} (hf : x.fine) (h : Sat E w (RO g :: OwnSl 126 2 ev (x).entries.length (enCells (x).entries vs) :: eachOf VnsOf vs (x).entries :: KdsAt kv (x).kids :: L)) :
    ∃ g', g.le g' ∧ rdNd g' [.bool x.leaf, ev, kv] x ∧ Sat E w (RO g' :: L) := by
  obtain ⟨f1, f2, f3, f4⟩ := hf
  obtain ⟨g1, l1, e1, h1⟩ := each_freeze f1 (h.sub (.cons .at0 (.cons .at1 (.refl _))) : Sat E w (RO g :: eachOf VnsOf vs x.entries :: OwnSl 126 2 ev x.entries.length (enCells x.entries vs) :: KdsAt kv x.kids :: L))
  obtain ⟨g2, l2, r2, h2⟩ := h1.freeze_sl (bytes := 40) mono_En e1 rfl f2
  obtain ⟨g3, l3, r3, h3⟩ := h2.freeze_sl (bytes := 48) mono_Kd (els_of (f := Kd.cells) (R := rdKd) (fun x => rfl) (fun x hx => ⟨rfl, f3 x hx⟩)) rfl f4
  exact ⟨g3, l1.trans (l2.trans l3), ⟨_, _, _, rfl, rfl, mono_sl mono_En l3 r2, r3⟩, h3⟩
theorem en_told {g : Hp} {ecs : List Value} {x : En} (h : rdEn g ecs x) : ∃ a n c, ecs = [.string x.name, .slice a n c] ∧ rdEn g [.string x.name, .slice a n c] x := by
  have h0 := h
  obtain ⟨q0, q1, rfl, ⟨p0, _⟩, p1⟩ := h
  simp only [List.cons.injEq, and_true] at p0
  subst p0
  obtain ⟨a, n, c, rfl⟩ := rdSl_shape p1
  exact ⟨a, n, c, rfl, h0⟩
theorem nd_told {g : Hp} {ecs : List Value} {x : Nd} (hrd : rdNd g ecs x) : ∃ ea en ec ka kn kc, ecs = [.bool x.leaf, .slice ea en ec, .slice ka kn kc] ∧ rdNd g [.bool x.leaf, .slice ea en ec, .slice ka kn kc] x := by
  have hnd := hrd
  obtain ⟨n4, n5, n6, rfl, e4, n7, n8⟩ := hrd
  simp only [rdBool, List.cons.injEq, and_true] at e4
  subst e4
  obtain ⟨ea, en, ec, rfl⟩ := rdSl_shape n7
  obtain ⟨ka, kn, kc, rfl⟩ := rdSl_shape n8
  exact ⟨ea, en, ec, ka, kn, kc, rfl, hnd⟩
def nd0 : Nd := ⟨false, [], []⟩
def rf0 : Rf := ⟨0, 0, 0, 0⟩
theorem _root_.Go.Proofs.Ytlgpdglnfjndhaa.Xe.Sat.back {E : Env} {w : World} {L : List As} {A : As} {h' : Hp} (hA : A h') (h : Sat E w (RO h' :: L)) : Sat E w (A :: L) := by
  obtain ⟨e, k, ⟨h1, h2, d, rfl, hR, hL⟩, hs⟩ := h
  have hR : h1 = h' := hR
  subst hR
  exact ⟨e, _, ⟨h1, h2, d, rfl, hA, hL⟩, hs⟩
theorem nd_lend {E : Env} {w : World} {L : List As} {ev kv : Value} {vs : List Value} {x : Nd} (hf : x.fine) (h : Sat E w (OwnSl 126 2 ev (x).entries.length (enCells (x).entries vs) :: eachOf VnsOf vs (x).entries :: KdsAt kv (x).kids :: L)) :
    ∃ h', stars (OwnSl 126 2 ev (x).entries.length (enCells (x).entries vs) :: eachOf VnsOf vs (x).entries :: KdsAt kv (x).kids :: []) h' ∧ rdNd h' [.bool x.leaf, ev, kv] x ∧ Sat E w (RO h' :: L) := by
  obtain ⟨e, k, ⟨h1, h2, d, rfl, hA, hL⟩, hs⟩ := Sat.unflat (X := OwnSl 126 2 ev (x).entries.length (enCells (x).entries vs) :: eachOf VnsOf vs (x).entries :: KdsAt kv (x).kids :: []) h
  have h0 : Sat E w (RO (fun _ => none) :: (OwnSl 126 2 ev (x).entries.length (enCells (x).entries vs) :: eachOf VnsOf vs (x).entries :: KdsAt kv (x).kids :: RO (fun b => if h1 b = none then hpOf w b else none) :: [])) := by
    refine Sat.unflat (X := [RO (fun _ => none)]) ?_ |>.flat
    have h3 : Sat E w (stars (OwnSl 126 2 ev (x).entries.length (enCells (x).entries vs) :: eachOf VnsOf vs (x).entries :: KdsAt kv (x).kids :: []) :: RO (fun b => if h1 b = none then hpOf w b else none) :: []) := by
      refine ⟨e, Hp.un h1 (fun b => if h1 b = none then hpOf w b else none), ⟨h1, _, fun b => ?_, rfl, hA, _, _, fun b => .inr rfl, ?_, rfl, fun b => rfl⟩, fun b o hb => ?_⟩
      · by_cases hb : h1 b = none
        · exact .inl hb
        · exact .inr (if_neg hb)
      · funext b; simp [Hp.un]
      · cases hb1 : h1 b with
        | some o1 => exact hs b o (by simp only [Hp.un, hb1, Option.some_or] at hb ⊢; exact hb)
        | none => simp only [Hp.un, hb1, Option.none_or, if_pos] at hb; exact hb
    obtain ⟨e', k', hk', hs'⟩ := h3.flat
    exact ⟨e', k', ⟨fun _ => none, k', fun b => .inl rfl, by funext b; simp [Hp.un], rfl, hk'⟩, hs'⟩
  obtain ⟨g', _, hr, hw⟩ := nd_freeze hf h0
  obtain ⟨_, _, ⟨k1, k2, d2, rfl, hk1, k3, k4, _, rfl, hk3, _⟩, hs2⟩ := hw
  have hk1 : k1 = g' := hk1
  have hk3 : k3 = _ := hk3
  subst hk1 hk3
  have hle : k1.le h1 := fun b o hb => by
    have hwb : w.heap[b]? = some o := hs2 b o (Hp.un_left hb)
    cases hb1 : h1 b with
    | some o1 =>
      have := hs b o1 (Hp.un_left hb1)
      rw [hwb] at this; exact this.symm ▸ rfl
    | none =>
      rcases d2 b with h | h
      · rw [hb] at h; cases h
      · simp only [Hp.un, hb1, if_pos, Option.or_eq_none_iff] at h
        have h5 : w.heap[b]? = none := h.1
        rw [hwb] at h5; cases h5
  exact ⟨h1, hA, mono_Nd hle hr, e, _, ⟨h1, h2, d, rfl, rfl, hL⟩, hs⟩
end Go.Proofs.Ytlgpdglnfjndhaa
