/-
  XE, part 8: two ways that meet again behind a statement.
-/
import Derived.Test.YtdebodbkggbjeaaX7
namespace Go.Proofs.Ytdebodbkggbjeaa.Xe
open Go

theorem tf_elim {p : Prop} (h : true = false) : p := nomatch h
theorem ft_elim {p : Prop} (h : false = true) : p := nomatch h
/-- What follows a statement is shown once, for all ways out of it. C: what the frame keeps. -/
theorem g_cutc {P : Program} {f : FuncId} {R : Ending → World → Prop} {n : Nat} {k : List Item} {F : Fr} {w : World} {c : Code} {σ : Type} (Fi : Fr → σ → Fr) (C : Fr) (_ : Fr.le C F) (I : σ → World → Prop)
    (rest : ∀ x w, I x w → G P f R n k (Fi C x) w)
    (here : (∀ x w F', Fr.le (Fi C x) F' → I x w → G P f R n k F' w) → G P f R n (.code c :: k) F w) : G P f R n (.code c :: k) F w :=
  here fun x w _ hF hI => g_le hF (rest x w hI)
/-- .. behind two. -/
theorem g_cutc2 {P : Program} {f : FuncId} {R : Ending → World → Prop} {n : Nat} {k : List Item} {F : Fr} {w : World} {c c' : Code} {σ : Type} (Fi : Fr → σ → Fr) (C : Fr) (_ : Fr.le C F) (I : σ → World → Prop)
    (rest : ∀ x w, I x w → G P f R n k (Fi C x) w)
    (here : (∀ x w F', Fr.le (Fi C x) F' → I x w → G P f R n k F' w) → G P f R n (.code c :: .code c' :: k) F w) : G P f R n (.code c :: .code c' :: k) F w :=
  here fun x w _ hF hI => g_le hF (rest x w hI)

end Go.Proofs.Ytdebodbkggbjeaa.Xe
