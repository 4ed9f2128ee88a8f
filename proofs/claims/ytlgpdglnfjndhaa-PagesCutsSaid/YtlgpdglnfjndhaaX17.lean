/-
  XE, part 17: a result in memory, behind loops over functions.
-/
import Derived.Test.YtlgpdglnfjndhaaX15
namespace Go.Proofs.Ytlgpdglnfjndhaa.Xe
open Go
section g
variable {P : Program} {f : FuncId} {R : Ending → World → Prop} {m : Nat} {k : List Item} {F : Fr} {w : World} {E : Env}
theorem g_retMC {fn : Func} {p ty : Nat} {v : Value} {ad : Addr} {bs : List Nat} {L L' : List As} (hf : P.funcs[f]? = some fn) (hr : fn.results = #[.cell p ty]) (hw : Sat E w L) (hp : Pick (marks bs) L L') (hpv : look F p = some (.pointer (some ad)))
    (hv : ∀ w, Sat E w L' → Holds P w ty ad v) (h : ∀ w, Sat E w L' → R (.returned v) w) : G P f R ⟨m, bs.map mark, none⟩ (.code .ret :: k) F w := fun a ha =>
  run_retM hf ha.defers (hw.pick hp) fun w' hw' => ⟨by
    have h2 : (loadVar ty ad).run P w' = .ok v w' := hv w' hw'
    simp [results, hr, ha.slot p _ hpv, asAddr, h2], h w' hw'⟩
end g
end Go.Proofs.Ytlgpdglnfjndhaa.Xe
