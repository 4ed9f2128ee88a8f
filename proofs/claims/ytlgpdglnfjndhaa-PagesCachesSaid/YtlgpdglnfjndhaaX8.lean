/-
  XE, part 8: two ways that meet again behind a statement.
-/
import Derived.Test.YtlgpdglnfjndhaaX7
namespace Go.Proofs.Ytlgpdglnfjndhaa.Xe
open Go

theorem tf_elim {p : Prop} (h : true = false) : p := nomatch h
theorem ft_elim {p : Prop} (h : false = true) : p := nomatch h
/-- What follows a statement is shown once, for all ways out of it. C: what the frame keeps. -/
theorem g_cutc {P : Program} {f : FuncId} {R : Ending → World → Prop} {n : NF} {k : List Item} {F : Fr} {w : World} {c : Code} {σ : Type} (Fi : Fr → σ → Fr) (C : Fr) (_ : Fr.le C F) (I : σ → World → Prop)
    (rest : ∀ x w, I x w → G P f R n k (Fi C x) w)
    (here : (∀ x w F', Fr.le (Fi C x) F' → I x w → G P f R n k F' w) → G P f R n (.code c :: k) F w) : G P f R n (.code c :: k) F w :=
  here fun x w _ hF hI => g_le hF (rest x w hI)
/-- A loop; C: what the frame keeps. -/
theorem g_loopC {P : Program} {f : FuncId} {R : Ending → World → Prop} {n : NF} {k : List Item} {F : Fr} {w : World} {c : Code} {σ : Type} (Fi : Fr → σ → Fr) (C : Fr) (_ : Fr.le C F) (I : σ → World → Prop) (μ : σ → Nat)
    (round : ∀ x w, I x w → (∀ x' w', I x' w' → μ x' < μ x → G P f R n (.inLoop c :: k) (Fi C x') w') → G P f R n (.code c :: .inLoop c :: k) (Fi C x) w)
    (x0 : σ) (hF : Fr.le (Fi C x0) F) (h0 : I x0 w) : G P f R n (.code (.loop c) :: k) F w := g_loop (Fi C) I μ round x0 hF h0
/-! ### Function values -/
/-- A call of the function value v. -/
def CallsV (P : Program) (v : Value) (args : Array Value) (w : World) (R : Ending → World → Prop) : Prop :=
  ∃ (g : FuncId) (fn : Func) (fs cs : Array Value), v = .func (.func g) fs cs ∧ P.funcs[g]? = some fn ∧ (fn.name == "runtime.NumGoroutine") = false ∧ fn.body.isSome = true ∧ Calls P g (fs ++ args ++ cs) w R
theorem CallsV.mono {P : Program} {v : Value} {args : Array Value} {w : World} {R R' : Ending → World → Prop} (h : CallsV P v args w R) (hr : ∀ e w, R e w → R' e w) : CallsV P v args w R' :=
  let ⟨g, fn, fs, cs, h1, h2, h3, h4, h5⟩ := h
  ⟨g, fn, fs, cs, h1, h2, h3, h4, h5.mono hr⟩
theorem CallsV.mk {P : Program} {g : FuncId} {fn : Func} {fs cs args us : Array Value} {w : World} {R : Ending → World → Prop} (h2 : P.funcs[g]? = some fn) (h3 : (fn.name == "runtime.NumGoroutine") = false) (h4 : fn.body.isSome = true)
    (hu : fs ++ args ++ cs = us) (h5 : Calls P g us w R) : CallsV P (.func (.func g) fs cs) args w R := ⟨g, fn, fs, cs, rfl, h2, h3, h4, hu ▸ h5⟩
section k
variable {P : Program} {n : NF} {F : Fr} {w : World} {K : Fr → World → Prop} {d : Option Nat} {ty : TypeId} {pos : String} {af : Array Edge} {gd : Option (Nat × Bool)}
theorem k_callv {x : Operand} {as : List Operand} {ts : Array TypeId} {v : Value} {vs : List Value} (hx : opd F x = some v) (hvs : opds F as = some vs) (hd : okD n d = true)
    (h : CallsV P v vs.toArray w fun e w' => ∃ u, e = .returned u ∧ K (putF d u F) w') :
    OpK P n F ⟨d, .call { callee := .value x, args := as.toArray, argTypes := ts }, ty, pos, af, gd⟩ w K := by
  obtain ⟨g, fn, fs, cs, rfl, hf, hname, hb, hc⟩ := h
  intro a K' Q ha hK
  have hρ := ha.ev
  have hmap := opds_map hρ _ _ hvs
  have hrun : (execOp a.eval ⟨d, .call { callee := .value x, args := as.toArray, argTypes := ts }, ty, pos, af, gd⟩).run P w = .ok (.enter g (fs ++ vs.toArray ++ cs)) w := by
    have e1 : fs ++ as.toArray.map a.eval ++ cs = fs ++ vs.toArray ++ cs := by
      apply Array.ext'
      simp [hmap]
    simp only [execOp, resolve, hρ _ _ hx, Deferred.ofValue, Sem.run_bind, Sem.run_pure, Result.andThen_ok, invoke]
    rw [e1]
    exact run_callFunc hf hname hb _ _
  unfold Oper.wp
  rw [hrun, Oper.upon_enter]
  refine Calls.mono hc fun e w' he => ?_
  obtain ⟨v, rfl, hk⟩ := he
  exact hK _ _ _ hk (ha.putF hd v)
end k

section v
variable {P : Program} {F : Fr} {S : World → Prop} {d : Option Nat} {ty : TypeId} {pos : String} {af : Array Edge} {gd : Option (Nat × Bool)}
  {x y z : Operand} {t t' : TypeId}
/-- A number that both kinds have. -/
theorem v_convU {m : Int} (ht : intB P t' .u64 = true) (hs : intB P t .i64 = true) (hx : opd F x = some (.int .i64 m)) (h0 : 0 ≤ m) (h1 : m ≤ 9223372036854775807) :
    OpV P F S ⟨d, .convert t t' x, ty, pos, af, gd⟩ (.int .u64 m) := by
  have := v_convInt (P := P) (S := S) (d := d) (ty := ty) (pos := pos) (af := af) (gd := gd) ht hs hx
  rwa [show IntKind.u64.wrap m = m by simp [IntKind.wrap, IntKind.bits, IntKind.signed]; omega] at this
theorem v_convS {m : Int} (ht : intB P t' .i64 = true) (hs : intB P t .u64 = true) (hx : opd F x = some (.int .u64 m)) (h0 : 0 ≤ m) (h1 : m ≤ 9223372036854775807) :
    OpV P F S ⟨d, .convert t t' x, ty, pos, af, gd⟩ (.int .i64 m) := by
  have := v_convInt (P := P) (S := S) (d := d) (ty := ty) (pos := pos) (af := af) (gd := gd) ht hs hx
  rwa [i64_in (by omega)] at this
end v

end Go.Proofs.Ytlgpdglnfjndhaa.Xe
