/-
  The laws' own helpers: a script's beginning, a secret; pages that All showed, written no more.
-/
import Derived.Test.YtdiocmjhencbpaaH08
import Derived.Test.YtdiocmjhencbpaaT07f
namespace Go.Proofs.Ytdiocmjhencbpaa
set_option maxRecDepth 8000
set_option linter.unusedSimpArgs false
set_option linter.unusedVariables false
open Go Xe
theorem sn_told {g : Hp} {ecs : List Value} {x : Sn} (h : rdSn g ecs x) : ∃ ea en ec ka kn kc, ecs = [.int .i64 x.deep, .int .u64 x.ref.key, .int .i64 x.ref.seg, .int .i64 x.ref.off, .int .i64 x.ref.len, .bool x.node.leaf, .slice ea en ec, .slice ka kn kc] ∧ rdNd g [.bool x.node.leaf, .slice ea en ec, .slice ka kn kc] x.node := by
  obtain ⟨c0, c1, c2, c3, c4, c5, c6, c7, rfl, ⟨h0, _⟩, ⟨h1, _⟩, h2⟩ := h
  obtain ⟨ea, en, ec, ka, kn, kc, he, hr⟩ := nd_told h2
  simp only [List.cons.injEq, and_true] at h0 h1 he
  obtain ⟨rfl, rfl, rfl, rfl⟩ := h1
  obtain ⟨rfl, rfl, rfl⟩ := he
  subst h0
  exact ⟨_, _, _, _, _, _, rfl, hr⟩
theorem sns_freeze0 {E : Env} {w : World} {L : List As} : ∀ {xs : List Sn} {ts : List (Value × Value × List Value)} {g : Hp}, (∀ x ∈ xs, x.good ∧ (Lit.int .i64 x.deep).wf = true) → Sat E w (RO g :: eachOf NdOf ts xs :: L) →
    ∃ g', g.le g' ∧ Els rdSn 8 g' (snCells xs ts) xs ∧ Sat E w (RO g' :: L)
  | [], [], g, _, h => ⟨g, Hp.le_refl g, .nil, h.sub (.cons .at0 (.drop (.refl _)))⟩
  | [], _ :: _, _, _, h => h.drop.fls.elim
  | _ :: _, [], _, _, h => h.drop.fls.elim
  | x :: xs, (ev, kv, vs) :: ts, g, hf, h => by
    have h1 : Sat E w (NdOf (ev, kv, vs) x :: eachOf NdOf ts xs :: RO g :: L) := Sat.each_cons.1 (h.pick .at1)
    have h1 : Sat E w ([OwnSl 40 2 ev x.node.entries.length (enCells x.node.entries vs), eachOf VnsOf vs x.node.entries, OwnSl 104 5 kv x.node.kids.length (x.node.kids.flatMap Kd.cells)] ++ (eachOf NdOf ts xs :: RO g :: L)) := Sat.flat h1
    obtain ⟨⟨hfi, hsm, hok⟩, hd⟩ := hf x (by simp)
    obtain ⟨g1, l1, r1, h2⟩ := nd_freeze hfi (h1.xQ : Sat E w (RO g :: OwnSl 40 2 ev x.node.entries.length (enCells x.node.entries vs) :: eachOf VnsOf vs x.node.entries :: KdsAt kv x.node.kids :: eachOf NdOf ts xs :: L))
    obtain ⟨g2, l2, e2, h3⟩ := sns_freeze0 (fun x hx => hf x (by simp [hx])) h2
    refine ⟨g2, l1.trans l2, ?_, h3⟩
    exact (Els.one (cs := [.int .i64 x.deep, .int .u64 x.ref.key, .int .i64 x.ref.seg, .int .i64 x.ref.off, .int .i64 x.ref.len, .bool x.node.leaf, ev, kv]) rfl ⟨_, _, _, _, _, _, _, _, rfl, ⟨rfl, hd⟩, ⟨rfl, hok⟩, mono_Nd l2 r1⟩).append e2
theorem sns_freeze {E : Env} {w : World} {L : List As} {xs : List Sn} {ts : List (Value × Value × List Value)} {lv : Value} {g : Hp} (hf : ∀ x ∈ xs, x.good ∧ (Lit.int .i64 x.deep).wf = true) (hn : xs.length ≤ 100000) (h : Sat E w (RO g :: OwnSl 86 8 lv xs.length (snCells xs ts) :: eachOf NdOf ts xs :: L)) :
    ∃ g', g.le g' ∧ (rdSl 96 8 rdSn) g' [lv] xs ∧ Sat E w (RO g' :: L) := by
  obtain ⟨g1, l1, e1, h1⟩ := sns_freeze0 hf (h.xQ : Sat E w (RO g :: eachOf NdOf ts xs :: OwnSl 86 8 lv xs.length (snCells xs ts) :: L))
  obtain ⟨g2, l2, r2, h2⟩ := h1.freeze_sl (bytes := 96) mono_Sn e1 rfl (by simp only [reachBytes]; omega)
  exact ⟨g2, l1.trans l2, r2, h2⟩
end Go.Proofs.Ytdiocmjhencbpaa
