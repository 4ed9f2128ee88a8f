/-
  XE, part 19: bits and shifts of unsigned numbers; one byte behind a row of bytes.
-/
import Derived.Test.YtlgpdglnfjndhaaX18
namespace Go.Proofs.Ytlgpdglnfjndhaa.Xe
open Go Go.Lib
section v
variable {P : Program} {F : Fr} {S : World → Prop} {d : Option Nat} {ty : TypeId} {pos : String} {af : Array Edge} {gd : Option (Nat × Bool)}
  {x y : Operand} {t t' : TypeId} {k : IntKind} {m n : Int}
theorem v_or (hx : opd F x = some (.int k m)) (hy : opd F y = some (.int k n)) : OpV P F S ⟨d, .binOp .or t x y t', ty, pos, af, gd⟩ (.int k (bits .or k m n)) := fun ρ w hρ _ => by
  simp [execOp, hρ x _ hx, hρ y _ hy, eqGuard, binOp, intBits_or]
theorem v_and (hx : opd F x = some (.int k m)) (hy : opd F y = some (.int k n)) : OpV P F S ⟨d, .binOp .and t x y t', ty, pos, af, gd⟩ (.int k (bits .and k m n)) := fun ρ w hρ _ => by
  simp [execOp, hρ x _ hx, hρ y _ hy, eqGuard, binOp, intBits_and]
theorem v_shl {k' : IntKind} (hx : opd F x = some (.int k m)) (hy : opd F y = some (.int k' n)) (h0 : 0 ≤ n) (h1 : n ≤ k.bits) :
    OpV P F S ⟨d, .binOp .shl t x y t', ty, pos, af, gd⟩ (.int k (k.wrap (m * 2 ^ n.toNat))) := fun ρ w hρ _ => by
  have := shift_shl k k' m n h0 h1
  simp [execOp, hρ x _ hx, hρ y _ hy, eqGuard, binOp, this]
theorem v_shrK {k' : IntKind} (hx : opd F x = some (.int k m)) (hy : opd F y = some (.int k' n)) (h0 : 0 ≤ n) (h1 : n ≤ k.bits) :
    OpV P F S ⟨d, .binOp .shr t x y t', ty, pos, af, gd⟩ (.int k (m / 2 ^ n.toNat)) := fun ρ w hρ _ => by
  have := shift_shr k k' m n h0 h1
  simp [execOp, hρ x _ hx, hρ y _ hy, eqGuard, binOp, this]
end v
theorem u8_nat (n : Nat) : IntKind.u8.wrap (n : Int) = ((UInt8.ofNat n).toNat : Int) := by
  rw [IntKind.wrap_u8, UInt8.toNat_ofNat']; omega
set_option maxRecDepth 20000 in
theorem or_u8_all : ∀ n : Fin 256, bits .or .u8 ((n : Nat) : Int) 128 = (((n : Nat) % 128 + 128 : Nat) : Int) := by decide +kernel
set_option maxRecDepth 20000 in
theorem and_u8_all : ∀ n : Fin 256, bits .and .u8 ((n : Nat) : Int) 127 = (((n : Nat) % 128 : Nat) : Int) := by decide +kernel
theorem or_u8 {m : Nat} (h : m < 256) : bits .or .u8 (m : Int) 128 = ((m % 128 + 128 : Nat) : Int) := or_u8_all ⟨m, h⟩
theorem and_u8 {m : Nat} (h : m < 256) : bits .and .u8 (m : Int) 127 = ((m % 128 : Nat) : Int) := and_u8_all ⟨m, h⟩
/-- A number's low part and its high part, put together bit by bit. -/
theorem or_u64 {a b i : Nat} (ha : a < 2 ^ i) (hb : a + b * 2 ^ i < 2 ^ 64) : bits .or .u64 (a : Int) ((b * 2 ^ i : Nat) : Int) = ((a + b * 2 ^ i : Nat) : Int) := by
  have h1 : ∀ x : Nat, x < 2 ^ 64 → (BitVec.ofInt 64 (x : Int)).toNat = x := fun x hx => by
    rw [BitVec.toNat_ofInt]; omega
  have e : bits .or .u64 (a : Int) ((b * 2 ^ i : Nat) : Int) = IntKind.u64.wrap ((BitVec.ofInt 64 (a : Int) ||| BitVec.ofInt 64 ((b * 2 ^ i : Nat) : Int)).toNat : Int) := rfl
  rw [e, BitVec.toNat_or, h1 a (by omega), h1 (b * 2 ^ i) (by omega), Nat.or_comm, Nat.mul_comm b, ← Nat.two_pow_add_eq_or_of_lt ha]
  show ((((2 ^ i * b + a : Nat) : Int)) % 18446744073709551616) = _
  have : 2 ^ i * b = b * 2 ^ i := Nat.mul_comm _ _
  omega
theorem u64_in' {n : Int} (h0 : 0 ≤ n) (h1 : n ≤ 18446744073709551615) : IntKind.u64.wrap n = n := by show n % 18446744073709551616 = n; omega
theorem Sat.own_flat {E : Env} {w : World} {L : List As} {α : Type} {f : α → List Value} {e sz : Nat} {v : Value} {xs : List α} (x : α) (h : Sat E w (OwnSl e sz v (xs.length + 1) (xs.flatMap f ++ f x) :: L)) :
    Sat E w (OwnSl e sz v (xs ++ [x]).length ((xs ++ [x]).flatMap f) :: L) := by
  rw [List.length_append, List.flatMap_append, show [x].flatMap f = f x by simp]; exact h
theorem strCells_one (s : ByteArray) (b : UInt8) : strCells s ++ [Value.int .u8 b.toNat] = strCells (s ++ ByteArray.mk #[b]) := by
  rw [strCells_append]; rfl
theorem Sat.own_byte {E : Env} {w : World} {L : List As} {e : Nat} {v : Value} {s : ByteArray} {b : UInt8} (h : Sat E w (OwnSl e 1 v (s.size + 1) (strCells s ++ [Value.int .u8 b.toNat]) :: L)) :
    Sat E w (OwnSl e 1 v (s ++ ByteArray.mk #[b]).size (strCells (s ++ ByteArray.mk #[b])) :: L) := by
  rw [← strCells_one, ByteArray.size_append]; exact h
theorem Sat.own_text {E : Env} {w : World} {L : List As} {e : Nat} {v : Value} {s t : ByteArray} (h : Sat E w (OwnSl e 1 v (s.size + t.size) (strCells s ++ strCells t) :: L)) :
    Sat E w (OwnSl e 1 v (s ++ t).size (strCells (s ++ t)) :: L) := by
  rw [strCells_append, ByteArray.size_append]; exact h
end Go.Proofs.Ytlgpdglnfjndhaa.Xe

/-
  XE, part 20: a row of the call's own that is only read for a while.
-/
namespace Go.Proofs.Ytlgpdglnfjndhaa.Xe
open Go
section
variable {α : Type} {R : Rd α} {bytes sz : Nat} {g : Hp} {xs : List α}
end
end Go.Proofs.Ytlgpdglnfjndhaa.Xe
