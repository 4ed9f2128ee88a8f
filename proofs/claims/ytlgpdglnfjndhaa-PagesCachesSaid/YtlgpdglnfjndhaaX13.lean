/-
  XE, part 12: what Go's package slices does in place: more of a row's room, append in place and of zeros, clear of a part, overlaps, cap; calls of an interface's methods.
-/
import Derived.Test.YtlgpdglnfjndhaaX11
import Derived.Lib.AppendZerosOnto
import Derived.Lib.Overlaps
namespace Go.Proofs.Ytlgpdglnfjndhaa.Xe
open Go Go.Lib

section
variable {E : Env} {w : World} {L L' : List As}
end

section v
variable {P : Program} {F : Fr} {S : World → Prop} {d : Option Nat} {ty : TypeId} {pos : String} {af : Array Edge} {gd : Option (Nat × Bool)}
  {x y z u : Operand} {t t' : TypeId}
end v

section k
variable {P : Program} {n : NF} {F : Fr} {w : World} {K : Fr → World → Prop} {d : Option Nat} {ty : TypeId} {pos : String} {af : Array Edge} {gd : Option (Nat × Bool)}
  {x y : Operand} {t : TypeId} {E : Env} {L L' : List As}
/-! ### Methods of interface values -/
/-- Method name of the pointer type t is function f, with the pointer for its receiver. -/
def methB (P : Program) (t : Nat) (name : String) (f : Nat) : Bool :=
  match P.underlying t, P.info? t with
  | some (.pointer _), some ti => match ti.methods.find? (·.name == name) with
    | some m => m.path.isEmpty && (match m.func with | some (g, p) => Nat.beq g f && p | none => false)
    | none => false
  | _, _ => false
/-- A call of the method name of the interface value v. -/
def CallsM (P : Program) (v : Value) (name : String) (args : List Value) (w : World) (R : Ending → World → Prop) : Prop :=
  ∃ (t f : Nat) (u : Value) (fn : Func), v = .iface t u ∧ methB P t name f = true ∧ P.funcs[f]? = some fn ∧ (fn.name == "runtime.NumGoroutine") = false ∧ fn.body.isSome = true ∧ Calls P f (u :: args).toArray w R
theorem CallsM.mono {v : Value} {name : String} {args : List Value} {R R' : Ending → World → Prop} (h : CallsM P v name args w R) (hr : ∀ e w, R e w → R' e w) : CallsM P v name args w R' :=
  let ⟨t, f, u, fn, h1, h2, h3, h4, h5, h6⟩ := h
  ⟨t, f, u, fn, h1, h2, h3, h4, h5, h6.mono hr⟩
theorem CallsM.mk {t f : Nat} {u : Value} {name : String} {fn : Func} {args : List Value} {R : Ending → World → Prop} (h2 : methB P t name f = true) (h3 : P.funcs[f]? = some fn) (h4 : (fn.name == "runtime.NumGoroutine") = false) (h5 : fn.body.isSome = true)
    (h6 : Calls P f (u :: args).toArray w R) : CallsM P (.iface t u) name args w R := ⟨t, f, u, fn, rfl, h2, h3, h4, h5, h6⟩
end k
end Go.Proofs.Ytlgpdglnfjndhaa.Xe

/-
  XE, part 13: strings compared by their order.
-/
namespace Go.Proofs.Ytlgpdglnfjndhaa.Xe
open Go
/-- One row of bytes stands ahead of another. -/
def sl (a b : ByteArray) : Bool := Op.bytesLess a.toList b.toList
theorem bl_irrefl : ∀ l : List UInt8, Op.bytesLess l l = false
  | [] => rfl
  | a :: l => by simp [Op.bytesLess, bl_irrefl l]
theorem bl_trans : ∀ {a b c : List UInt8}, Op.bytesLess a b = true → Op.bytesLess b c = true → Op.bytesLess a c = true
  | _, _, [], _, h => by cases ‹List UInt8› <;> simp [Op.bytesLess] at h
  | [], _, _ :: _, _, _ => rfl
  | _ :: _, [], _, h, _ => by simp [Op.bytesLess] at h
  | x :: a, y :: b, z :: c, h1, h2 => by
    simp only [Op.bytesLess, Bool.or_eq_true, decide_eq_true_eq, Bool.and_eq_true, beq_iff_eq] at h1 h2 ⊢
    rcases h1 with h1 | ⟨rfl, h1⟩
    · rcases h2 with h2 | ⟨rfl, h2⟩
      · exact .inl (UInt8.lt_trans h1 h2)
      · exact .inl h1
    · rcases h2 with h2 | ⟨rfl, h2⟩
      · exact .inl h2
      · exact .inr ⟨rfl, bl_trans h1 h2⟩
theorem bl_total : ∀ {a b : List UInt8}, Op.bytesLess a b = false → Op.bytesLess b a = false → a = b
  | [], [], _, _ => rfl
  | [], _ :: _, h, _ => by simp [Op.bytesLess] at h
  | _ :: _, [], _, h => by simp [Op.bytesLess] at h
  | x :: a, y :: b, h1, h2 => by
    simp only [Op.bytesLess, Bool.or_eq_false_iff, decide_eq_false_iff_not, Bool.and_eq_false_iff, beq_eq_false_iff_ne] at h1 h2
    have hxy : x = y := UInt8.le_antisymm (UInt8.not_lt.1 h2.1) (UInt8.not_lt.1 h1.1)
    subst hxy
    rw [bl_total (h1.2.resolve_left (by simp)) (h2.2.resolve_left (by simp))]
theorem toList_inj {a b : ByteArray} (h : a.toList = b.toList) : a = b := (toList_iff a b).1 h
theorem sl_irrefl (a : ByteArray) : sl a a = false := bl_irrefl _
theorem sl_trans {a b c : ByteArray} (h1 : sl a b = true) (h2 : sl b c = true) : sl a c = true := bl_trans h1 h2
theorem sl_total {a b : ByteArray} (h1 : sl a b = false) (h2 : sl b a = false) : a = b := toList_inj (bl_total h1 h2)
theorem sl_asymm {a b : ByteArray} (h : sl a b = true) : sl b a = false := by
  cases h2 : sl b a with
  | false => rfl
  | true => have := sl_trans h h2; rw [sl_irrefl] at this; cases this
theorem sl_gt (a b : ByteArray) : (!(sl a b || decide (a = b))) = sl b a := by
  cases h1 : sl a b with
  | true => simp [sl_asymm h1]
  | false =>
    by_cases h : a = b
    · subst h; simp [sl_irrefl]
    · cases h2 : sl b a with
      | true => simp [h]
      | false => exact absurd (sl_total h1 h2) h
section v
variable {P : Program} {F : Fr} {S : World → Prop} {d : Option Nat} {ty : TypeId} {pos : String} {af : Array Edge} {gd : Option (Nat × Bool)}
  {x y : Operand} {t t' : TypeId} {a b : ByteArray}
theorem v_leqStr (hx : opd F x = some (.string a)) (hy : opd F y = some (.string b)) : OpV P F S ⟨d, .binOp .leq t x y t', ty, pos, af, gd⟩ (.bool (!sl b a)) := fun ρ w hρ _ => by
  rw [← sl_gt a b]
  simp [execOp, hρ x _ hx, hρ y _ hy, eqGuard, binOp, Op.stringOp, sl, toList_beq]
end v
section
variable {E : Env} {w : World} {L : List As} {α : Type} {R : Rd α} {bytes sz : Nat} {g : Hp} {xs : List α}
/-- A slice from a place on. -/
theorem rdSl_from {a : Option Addr} {n c : Nat} (i : Nat) (h : rdSl bytes sz R g [.slice a n c] xs) (hi : i ≤ n) : rdSl bytes sz R g [.slice (if c = i then a else a.map (·.add (i * sz))) (n - i) (c - i)] (xs.drop i) := by
  rcases h with ⟨a', h, rfl⟩ | ⟨b, o, cap, h, h2, h3, h4, h5⟩
  · simp only [List.cons.injEq, and_true, Value.slice.injEq] at h
    obtain ⟨rfl, rfl, rfl⟩ := h
    have : i = 0 := by omega
    subst this
    exact .inl ⟨_, rfl, rfl⟩
  · simp only [List.cons.injEq, and_true, Value.slice.injEq] at h
    obtain ⟨rfl, rfl, rfl⟩ := h
    by_cases hl : i = xs.length
    · subst hl
      rw [List.drop_length]
      by_cases hc : c = xs.length
      · rw [if_pos hc]
        refine .inl ⟨_, by rw [Nat.sub_self, hc, Nat.sub_self], rfl⟩
      · rw [if_neg hc]
        refine .inr ⟨b, o + xs.length * sz, c - xs.length, ?_, by simp, by simp, by omega, fun i x hx => by simp at hx⟩
        simp [Addr.add_plain]
    · rw [if_neg (by omega)]
      refine .inr ⟨b, o + i * sz, c - i, ?_, by rw [List.length_drop]; omega, ?_, by omega, fun j x hx => ?_⟩
      · simp [Addr.add_plain]
      · rw [List.length_drop]; exact Nat.le_trans (Nat.mul_le_mul_right _ (Nat.sub_le _ _)) h3
      · rw [List.getElem?_drop] at hx
        obtain ⟨ecs, h6, h7, h8⟩ := h5 (i + j) x hx
        exact ⟨ecs, by rw [Nat.add_assoc, ← Nat.add_mul]; exact h6, h7, h8⟩
/-- A literal row is written no more. -/
theorem Sat.freeze_lit {b e n : Nat} {cells : List Value} (h : Sat E w (RO g :: pt b (.cells cells.toArray e (0, 0)) :: L)) (hR : R.Mono) (he : Els R sz g cells xs) (hn : n = xs.length) (hm : n ≤ maxLen) (hb : n * bytes ≤ reachBytes) :
    ∃ g', g.le g' ∧ rdSl bytes sz R g' [.slice (some ⟨b, 0, none⟩) n n] xs ∧ Sat E w (RO g' :: L) := by
  have h1 : Sat E w (OwnSl e sz (.slice (some ⟨b, 0, none⟩) n n) n cells :: RO g :: L) := Sat.own_mk (h.pick .at1) (Nat.le_refl _) hm (by rw [hn]; simpa using he.len) (by rw [List.take_of_length_le]; rw [hn]; simpa using Nat.le_of_eq he.len)
  exact (h1.pick .at1).freeze_sl hR he hn hb
end
theorem subAt_flat {α : Type} {f : α → List Value} {sz : Nat} (hl : ∀ x, (f x).length = sz) : ∀ {xs : List α} {i : Nat} {x : α}, xs[i]? = some x → SubAt (xs.flatMap f) (0 + i * sz) (f x) := by
  have key : ∀ (xs : List α) (i : Nat) (x : α), xs[i]? = some x → ((xs.flatMap f).drop (i * sz)).take sz = f x := by
    intro xs
    induction xs with
    | nil => intro i x h; simp at h
    | cons y ys ih =>
      intro i x h
      cases i with
      | zero =>
        simp only [List.getElem?_cons_zero, Option.some.injEq] at h
        subst h
        rw [Nat.zero_mul, List.drop_zero, List.flatMap_cons, List.take_left' (hl y)]
      | succ i =>
        rw [List.flatMap_cons, Nat.add_mul, Nat.one_mul, Nat.add_comm, ← List.drop_drop, List.drop_left' (hl y)]
        exact ih i x (by simpa using h)
  intro xs i x h
  exact subAt_of (key xs i x h)
theorem Sat.lit_own {E : Env} {w : World} {L : List As} {b e sz n : Nat} {cells : List Value} (h : Sat E w (pt b (.cells cells.toArray e (0, 0)) :: L)) (hl : cells.length = n * sz) (hm : n ≤ maxLen) : Sat E w (OwnSl e sz (.slice (some ⟨b, 0, none⟩) n n) n cells :: L) :=
  Sat.own_mk h (Nat.le_refl _) hm (by simpa using hl) (by rw [List.take_of_length_le (by simpa using Nat.le_of_eq hl)])
end Go.Proofs.Ytlgpdglnfjndhaa.Xe
