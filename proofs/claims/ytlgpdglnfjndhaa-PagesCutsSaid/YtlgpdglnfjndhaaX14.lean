/-
  XE, part 14: a pointer put into an interface.
-/
import Derived.Test.YtlgpdglnfjndhaaX13
namespace Go.Proofs.Ytlgpdglnfjndhaa.Xe
open Go
section v
variable {P : Program} {F : Fr} {S : World → Prop} {d : Option Nat} {ty : TypeId} {pos : String} {af : Array Edge} {gd : Option (Nat × Bool)}
  {x : Operand} {t : TypeId} {u : Value}
theorem v_mkIface (hp : ptrB P t = true) (hx : opd F x = some u) : OpV P F S ⟨d, .makeInterface t x, ty, pos, af, gd⟩ (.iface t u) := fun ρ w hρ _ => by
  simp [execOp, hρ x _ hx, Instr.makeInterface, underlying, ptrB_spec hp]
end v
end Go.Proofs.Ytlgpdglnfjndhaa.Xe
