/-
  XE, part 14: a pointer put into an interface.
-/
import Derived.Test.YtlgpdglnfjndhaaX13
import Derived.RangeFuncLeaves
import Derived.RangeFuncNested
import Derived.OrdersIn
namespace Go.Proofs.Ytlgpdglnfjndhaa.Xe
open Go
section v
variable {P : Program} {F : Fr} {S : World → Prop} {d : Option Nat} {ty : TypeId} {pos : String} {af : Array Edge} {gd : Option (Nat × Bool)}
  {x : Operand} {t : TypeId} {u : Value}
end v
end Go.Proofs.Ytlgpdglnfjndhaa.Xe

/-
  XE, part 15: loops over functions: a round, the loop, what an iterator owes; a function that leaves with marks.
-/
namespace Go.Proofs.Ytlgpdglnfjndhaa.Xe
open Go

section sat
variable {E : Env} {w : World} {L : List As}
end sat

/-- A call of yield l. -/
def YCalls (P : Program) (l : Nat) (args : List Value) (w : World) (R : Ending → World → Prop) : Prop :=
  ∃ f tmps assign body, (Instr.yield l args.toArray).run P w = .ok (.round l f tmps assign body) w ∧ RoundIn Fence.wide 0 P l f tmps assign body w R
theorem YCalls.mono {P : Program} {l : Nat} {args : List Value} {w : World} {R R' : Ending → World → Prop} (h : YCalls P l args w R) (hr : ∀ e w, R e w → R' e w) : YCalls P l args w R' :=
  let ⟨f, tmps, assign, body, hy, h⟩ := h
  ⟨f, tmps, assign, body, hy, h.mono hr⟩

/-- The jump that a round leaves. -/
def jumpOf : Ending → Option Code
  | .returned (.int .i64 id) => some (.exit id.toNat)
  | .returned (.bool false) => some .ret
  | _ => none
/-- The slots that a round's arguments fill. -/
def zipF : List Nat → List Value → Fr → Fr
  | p :: ps, v :: vs, F => zipF ps vs ((p, v) :: F)
  | _, _, F => F
/-- What an iterator owes: whatever a round turns I i into I (i + 1) by, all rounds are gone through. -/
def IterC (P : Program) (E : Env) (gf : FuncId) (lb : List Value) (xss : List (List Value)) (Own Own' : As) : Prop :=
  ∀ (yl : Nat) (I : Nat → As) (M : List As) (w : World),
    (∀ i args M' w, xss[i]? = some args → Sat E w (I i :: M') → YCalls P yl args w fun e w' => e = .returned (.bool true) ∧ Sat E w' (I (i + 1) :: M')) →
    Sat E w (I 0 :: Own :: M) →
    Calls P gf (.func (.yield yl) #[] #[] :: lb).toArray w fun e w' => (∃ v, e = .returned v) ∧ Sat E w' (I xss.length :: Own' :: M)

section g
variable {P : Program} {f : FuncId} {R : Ending → World → Prop} {m : Nat} {D : List Deferred} {k : List Item} {F : Fr} {w : World} {E : Env} {L : List As}

def mark (b : Nat) : Deferred := { target := .collected b, args := #[] }
/-- The marks of loops over functions that are behind. -/
def marks (bs : List Nat) : As := stars (bs.map fun b => pt b (.deferred (some [])))
end g
end Go.Proofs.Ytlgpdglnfjndhaa.Xe

/-
  XE, part 17: a result in memory, behind loops over functions.
-/
namespace Go.Proofs.Ytlgpdglnfjndhaa.Xe
open Go
section g
variable {P : Program} {f : FuncId} {R : Ending → World → Prop} {m : Nat} {k : List Item} {F : Fr} {w : World} {E : Env}
end g
end Go.Proofs.Ytlgpdglnfjndhaa.Xe

/-
  XE, part 18: loops over functions that are left early, and loops within a round.
-/
namespace Go.Proofs.Ytlgpdglnfjndhaa.Xe
open Go

section rd
variable {P : Program} {ops : Array Oper} {Q : Exit → Act → World → Prop} {md : Region.Mode}
variable {f : FuncId} {R : Ending → World → Prop} {k : List Item} {n : NF} {S : World → Prop} {ds : List Nat} {r : Od} {F : Fr} {w : World}
end rd

/-- What an iterator owes that may be stopped: behind a round that says so nothing more is yielded. Sh: what it lends to the rounds. -/
def IterB (P : Program) (E : Env) (gf : FuncId) (lb : List Value) (xss : List (List Value)) (Own Own' Sh : As) : Prop :=
  ∀ (yl : Nat) (I : Nat → As) (J : As) (M : List As) (w : World),
    (∀ i args M' w, xss[i]? = some args → Sat E w (I i :: Sh :: M') → YCalls P yl args w fun e w' => ∃ b : Bool, e = .returned (.bool b) ∧ (b = true → Sat E w' (I (i + 1) :: Sh :: M')) ∧ (b = false → Sat E w' (J :: Sh :: M'))) →
    Sat E w (I 0 :: Own :: M) →
    Calls P gf (.func (.yield yl) #[] #[] :: lb).toArray w fun e w' => (∃ v, e = .returned v) ∧ (Sat E w' (I xss.length :: Own' :: M) ∨ Sat E w' (J :: Own' :: M))

section g
variable {P : Program} {f : FuncId} {R : Ending → World → Prop} {m : Nat} {D : List Deferred} {k : List Item} {F : Fr} {w : World} {E : Env} {L : List As}

def fnB (P : Program) (t : Nat) : Bool := match P.underlying t with | some (.func _ _ _) => true | _ => false
/-- How a round ends: it goes on, or it is left by a jump. -/
def RoundQ (E : Env) (l : Nat) (rec : Loop) (In : As) (J : Code → As) (M' : List As) : Ending → World → Prop := fun e w' =>
  (e = .returned (.bool true) ∧ Sat E w' (In :: pt l (.loop { rec with state := .busy }) :: M')) ∨ (∃ c, jumpOf e = some c ∧ Sat E w' (J c :: pt l (.loop { rec with state := .busy }) :: M'))

end g
end Go.Proofs.Ytlgpdglnfjndhaa.Xe
