/-
  XE, part 3: what each operation yields or does.
-/
import Derived.Test.YtlgpdglnfjndhaaX2
import Derived.IntWalk
import Derived.Laws.Strings2
import Derived.Laws.Tables
import Derived.Laws.Concat
import Derived.Laws.Cells
import Derived.Laws.Pointers
import Derived.Laws.Small
import Derived.Laws.StructEq
namespace Go.Proofs.Ytlgpdglnfjndhaa.Xe
open Go

/-! ### Closed facts of the types -/

/-- Field i of struct type s lies off cells behind its begin, and has cells. -/
def fldB (P : Program) (s i off : Nat) : Bool :=
  match P.underlying s with
  | some (.struct fs) => match fs[i]? with
    | some fd => fd.offset == off && (match P.info? fd.type with | some ti => ti.size != 0 | none => false)
    | none => false
  | _ => false
/-- A type of one cell. -/
def scalB (P : Program) (t : Nat) : Bool :=
  match P.underlying t, P.info? t with
  | some (.struct _), _ | some (.array _ _), _ => false
  | some _, some ti => ti.size == 1
  | _, _ => false
/-- A struct or array type of k cells. -/
def aggB (P : Program) (t k : Nat) : Bool :=
  match P.underlying t, P.info? t with
  | some (.struct _), some ti | some (.array _ _), some ti => ti.size == k
  | _, _ => false
/-- A slice type, its element type e of sz cells. -/
def slB (P : Program) (t e sz : Nat) : Bool :=
  match P.underlying t with
  | some (.slice e') => e' == e && (match P.info? e with | some ti => ti.size == sz | none => false)
  | _ => false
def strB (P : Program) (t : Nat) : Bool := match P.underlying t with | some .string => true | _ => false
def boolB (P : Program) (t : Nat) : Bool := match P.underlying t with | some .bool => true | _ => false
def ptrB (P : Program) (t : Nat) : Bool := match P.underlying t with | some (.pointer _) => true | _ => false
def intB (P : Program) (t : Nat) (k : IntKind) : Bool := match P.underlying t with | some (.int k') => k' == k | _ => false
/-- The zero value of a type. -/
abbrev ZeroIs (P : Program) (t : Nat) (z : Value) : Prop := (P.info? t).map (·.zero) = some (some z)

theorem fldB_spec {P : Program} {s i off : Nat} (h : fldB P s i off = true) :
    ∃ fs fd ti, P.underlying s = some (.struct fs) ∧ fs[i]? = some fd ∧ fd.offset = off ∧ P.info? fd.type = some ti ∧ ti.size ≠ 0 := by
  unfold fldB at h
  split at h <;> try contradiction
  rename_i fs hfs
  split at h <;> try contradiction
  rename_i fd hfd
  simp only [Bool.and_eq_true, beq_iff_eq] at h
  obtain ⟨h1, h2⟩ := h
  split at h2 <;> try contradiction
  rename_i ti hti
  exact ⟨fs, fd, ti, hfs, hfd, h1, hti, by simpa using h2⟩
theorem run_isAgg_scal {P : Program} {t : Nat} (h : scalB P t = true) (w : World) : (isAgg t).run P w = .ok false w := by
  unfold scalB at h
  simp only [isAgg, underlying, Sem.run_bind, run_program, Result.andThen_ok]
  cases hu : P.underlying t with
  | none => rw [hu] at h; simp at h
  | some d => rw [hu] at h; cases d <;> simp at h ⊢
theorem run_sizeOf_scal {P : Program} {t : Nat} (h : scalB P t = true) (w : World) : (sizeOf t).run P w = .ok 1 w := by
  unfold scalB at h
  simp only [sizeOf, typeInfo, Sem.run_bind, run_program, Result.andThen_ok]
  cases hi : P.info? t with
  | none => rw [hi] at h; cases hu : P.underlying t with
    | none => rw [hu] at h; simp at h
    | some d => rw [hu] at h; cases d <;> simp at h
  | some ti =>
    rw [hi] at h
    have : ti.size = 1 := by
      cases hu : P.underlying t with
      | none => rw [hu] at h; simp at h
      | some d => rw [hu] at h; cases d <;> simp at h <;> exact h
    simp [this]
theorem run_isAgg_agg {P : Program} {t k : Nat} (h : aggB P t k = true) (w : World) : (isAgg t).run P w = .ok true w := by
  unfold aggB at h
  simp only [isAgg, underlying, Sem.run_bind, run_program, Result.andThen_ok]
  cases hu : P.underlying t with
  | none => rw [hu] at h; simp at h
  | some d => rw [hu] at h; cases d <;> simp at h ⊢
theorem run_sizeOf_agg {P : Program} {t k : Nat} (h : aggB P t k = true) (w : World) : (sizeOf t).run P w = .ok k w := by
  unfold aggB at h
  simp only [sizeOf, typeInfo, Sem.run_bind, run_program, Result.andThen_ok]
  cases hi : P.info? t with
  | none => rw [hi] at h; cases hu : P.underlying t with
    | none => rw [hu] at h; simp at h
    | some d => rw [hu] at h; cases d <;> simp at h
  | some ti =>
    rw [hi] at h
    have : ti.size = k := by
      cases hu : P.underlying t with
      | none => rw [hu] at h; simp at h
      | some d => rw [hu] at h; cases d <;> simp at h <;> exact h
    simp [this]
theorem slB_spec {P : Program} {t e sz : Nat} (h : slB P t e sz = true) : P.underlying t = some (.slice e) ∧ ∃ ti, P.info? e = some ti ∧ ti.size = sz := by
  unfold slB at h
  split at h <;> try contradiction
  rename_i e' hu
  simp only [Bool.and_eq_true, beq_iff_eq] at h
  obtain ⟨rfl, h2⟩ := h
  refine ⟨hu, ?_⟩
  split at h2 <;> try contradiction
  rename_i ti hti
  exact ⟨ti, hti, by simpa using h2⟩
theorem strB_spec {P : Program} {t : Nat} (h : strB P t = true) : P.underlying t = some .string := by
  unfold strB at h
  split at h <;> simp_all
theorem boolB_spec {P : Program} {t : Nat} (h : boolB P t = true) : P.underlying t = some .bool := by
  unfold boolB at h
  split at h <;> simp_all
theorem ptrB_spec {P : Program} {t : Nat} (h : ptrB P t = true) : P.underlying t = some (.pointer (P.pointee t)) := by
  unfold ptrB at h
  split at h <;> try contradiction
  rename_i e hu
  rw [hu]
  simp [Program.pointee, hu]
theorem intB_spec {P : Program} {t : Nat} {k : IntKind} (h : intB P t k = true) : P.underlying t = some (.int k) := by
  unfold intB at h
  split at h <;> simp_all
theorem run_zero {P : Program} {t : Nat} {z : Value} (h : ZeroIs P t z) (w : World) : (zeroValue t).run P w = .ok z w := by
  unfold ZeroIs at h
  simp only [zeroValue, typeInfo, Sem.run_bind, run_program, Result.andThen_ok]
  cases hi : P.info? t with
  | none => rw [hi] at h; simp at h
  | some ti =>
    rw [hi] at h
    simp only [Option.map_some, Option.some.injEq] at h
    simp [h]

section v
variable {P : Program} {F : Fr} {S : World → Prop} {d : Option Nat} {ty : TypeId} {pos : String} {af : Array Edge} {gd : Option (Nat × Bool)}
  {x y : Operand} {t t' : TypeId}

theorem v_move {v : Value} (h : opd F x = some v) : OpV P F S ⟨d, .move x, ty, pos, af, gd⟩ v := fun ρ w hρ _ => by
  simp [execOp, hρ x v h]
theorem v_assign {v : Value} (h : opd F x = some v) : OpV P F S ⟨d, .assign x, ty, pos, af, gd⟩ v := fun ρ w hρ _ => by
  simp [execOp, hρ x v h]
theorem v_nilCheck {a : Addr} (h : opd F x = some (.pointer (some a))) : OpV P F S ⟨d, .nilCheck x, ty, pos, af, gd⟩ (.pointer (some a)) := fun ρ w hρ _ => by
  simp [execOp, hρ x _ h]
theorem v_pick {c : Operand} {b : Bool} {u v : Value} (hc : opd F c = some (.bool b)) (hx : opd F x = some u) (hy : opd F y = some v) :
    OpV P F S ⟨d, .pick c x y, ty, pos, af, gd⟩ (if b then u else v) := fun ρ w hρ _ => by
  simp [execOp, hρ c _ hc, hρ x _ hx, hρ y _ hy, asBool]
theorem v_pick_true {c : Operand} {u : Value} (hc : opd F c = some (.bool true)) (hx : opd F x = some u) :
    OpV P F S ⟨d, .pick c x y, ty, pos, af, gd⟩ u := fun ρ w hρ _ => by
  simp [execOp, hρ c _ hc, hρ x _ hx, asBool]
theorem v_pick_false {c : Operand} {v : Value} (hc : opd F c = some (.bool false)) (hy : opd F y = some v) :
    OpV P F S ⟨d, .pick c x y, ty, pos, af, gd⟩ v := fun ρ w hρ _ => by
  simp [execOp, hρ c _ hc, hρ y _ hy, asBool]
theorem v_not {b : Bool} (h : opd F x = some (.bool b)) : OpV P F S ⟨d, .unOp .not t x, ty, pos, af, gd⟩ (.bool (!b)) := fun ρ w hρ _ => by
  simp [execOp, hρ x _ h, Op.unary]

theorem run_fieldPlace {fd : Field} {ti : TypeInfo} (hi : P.info? fd.type = some ti) (hz : ti.size ≠ 0) (a : Addr) (w : World) :
    (fieldPlace a fd).run P w = .ok (a.add fd.offset) w := by
  simp [fieldPlace, sizeOf, typeInfo, hi, hz]
theorem Addr.add_plain (b o m : Nat) : (⟨b, o, none⟩ : Addr).add m = ⟨b, o + m, none⟩ := by
  unfold Addr.add
  by_cases h : m = 0
  · simp [h]
  · simp [h]
theorem v_fieldAddr {s i off b o : Nat} (hf : fldB P s i off = true) (h : opd F x = some (.pointer (some ⟨b, o, none⟩))) :
    OpV P F S ⟨d, .fieldAddr s x i, ty, pos, af, gd⟩ (.pointer (some ⟨b, o + off, none⟩)) := fun ρ w hρ _ => by
  obtain ⟨fs, fd, ti, hs, hfd, rfl, hi, hz⟩ := fldB_spec hf
  simp [execOp, hρ x _ h, Instr.fieldAt, underlying, hs, hfd, Instr.sureAddr, run_fieldPlace hi hz, Addr.add_plain]
theorem v_fieldAddr0 {s i off b : Nat} (hf : fldB P s i off = true) (h : opd F x = some (.pointer (some ⟨b, 0, none⟩))) :
    OpV P F S ⟨d, .fieldAddr s x i, ty, pos, af, gd⟩ (.pointer (some ⟨b, off, none⟩)) := fun ρ w hρ _ => by
  obtain ⟨fs, fd, ti, hs, hfd, rfl, hi, hz⟩ := fldB_spec hf
  simp [execOp, hρ x _ h, Instr.fieldAt, underlying, hs, hfd, Instr.sureAddr, run_fieldPlace hi hz, Addr.add_plain]
theorem v_indexAddr {e sz b o len cap : Nat} {k : IntKind} {i : Int} (ht : slB P t e sz = true) (h : opd F x = some (.slice (some ⟨b, o, none⟩) len cap))
    (hy : opd F y = some (.int k i)) (h0 : 0 ≤ i) (h1 : i < len) :
    OpV P F S ⟨d, .indexAddr t x y, ty, pos, af, gd⟩ (.pointer (some ⟨b, o + i.toNat * sz, none⟩)) := fun ρ w hρ _ => by
  obtain ⟨hs, ti, hti, rfl⟩ := slB_spec ht
  simp [execOp, hρ x _ h, hρ y _ hy, Instr.indexAt, asIntOf, underlying, hs, h0, h1, sizeOf, typeInfo, hti, Addr.add_plain]
theorem v_load {b o : Nat} {v : Value} (ht : scalB P t = true) (h : opd F x = some (.pointer (some ⟨b, o, none⟩))) :
    OpV P F (fun w => w.cell? ⟨b, o, none⟩ = some v) ⟨d, .load t x, ty, pos, af, gd⟩ v := fun ρ w hρ hS => by
  simp [execOp, hρ x _ h, Instr.loadAt, Instr.sureAddr, loadVar, run_isAgg_scal ht, hS]
/-- The cells of vs stand behind place o. -/
def CellsAt (w : World) (b : Nat) : Nat → List Value → Prop
  | _, [] => True
  | o, v :: vs => w.cell? ⟨b, o, none⟩ = some v ∧ CellsAt w b (o + 1) vs
theorem CellsAt.get {w : World} {b : Nat} : ∀ {o : Nat} {vs : List Value}, CellsAt w b o vs → ∀ j v, vs[j]? = some v → w.cell? ⟨b, o + j, none⟩ = some v
  | o, v :: vs, h, 0, u, hu => by cases hu; exact h.1
  | o, v :: vs, h, j + 1, u, hu => by
    have := h.2.get j u (by simpa using hu)
    rwa [show o + 1 + j = o + (j + 1) by omega] at this
theorem v_loadAgg {b o k : Nat} {vs : List Value} (ht : aggB P t k = true) (h : opd F x = some (.pointer (some ⟨b, o, none⟩))) (hk : vs.length = k) :
    OpV P F (fun w => CellsAt w b o vs) ⟨d, .load t x, ty, pos, af, gd⟩ (.agg vs.toArray) := fun ρ w hρ hS => by
  have e := run_loadCells_list (P := P) w ⟨b, o, none⟩ vs (fun j v hv => by rw [Addr.add_plain]; exact hS.get j v hv)
  simp [execOp, hρ x _ h, Instr.loadAt, Instr.sureAddr, loadVar, run_isAgg_agg ht, run_sizeOf_agg ht, ← hk, e]
theorem v_extract {vs : Array Value} {i : Nat} {v : Value} (h : opd F x = some (.tuple vs)) (hv : vs[i]? = some v) : OpV P F S ⟨d, .extract x i, ty, pos, af, gd⟩ v := fun ρ w hρ _ => by
  simp [execOp, hρ x _ h, Instr.extract, hv]
theorem v_makeFunc {g : Fn} {f1 cs : Array Operand} {vs us : List Value} (h1 : f1.toList.mapM (opd F) = some vs) (h2 : cs.toList.mapM (opd F) = some us) :
    OpV P F S ⟨d, .makeFunc g f1 cs, ty, pos, af, gd⟩ (.func g vs.toArray us.toArray) := fun ρ w hρ _ => by
  have e1 : f1.map ρ = vs.toArray := by apply Array.ext'; simp [mapM_opd hρ _ _ h1]
  have e2 : cs.map ρ = us.toArray := by apply Array.ext'; simp [mapM_opd hρ _ _ h2]
  simp [execOp, Instr.makeFunc, e1, e2]

/-- The values of a literal's parts. -/
def opdParts (F : Fr) : List (Nat × Operand) → Option (List (Nat × Value))
  | [] => some []
  | (i, x) :: r => match opd F x, opdParts F r with
    | some v, some vs => some ((i, v) :: vs)
    | _, _ => none
theorem opdParts_map {F : Fr} {ρ : Operand → Value} (hρ : Ev F ρ) : ∀ (ps : List (Nat × Operand)) (vs : List (Nat × Value)), opdParts F ps = some vs → ps.map (fun (i, x) => (i, ρ x)) = vs
  | [], vs, h => by simp [opdParts] at h; simp [← h]
  | (i, x) :: ps, vs, h => by
    simp only [opdParts] at h
    split at h <;> try contradiction
    rename_i u us hu hus
    cases h
    simp [hρ x u hu, ← opdParts_map hρ ps us hus]
theorem v_build {ps : List (Nat × Operand)} {vs : List (Nat × Value)} {cells : List Value} (hp : opdParts F ps = some vs) (h : P.built t vs = some cells.toArray) :
    OpV P F S ⟨d, .build t ps.toArray, ty, pos, af, gd⟩ (.agg cells.toArray) := fun ρ w hρ _ => by
  have e : (ps.toArray.map fun (i, x) => (i, ρ x)).toList = vs := by simpa using opdParts_map hρ _ _ hp
  simp only [execOp, Sem.run_bind]
  rw [run_build w t (ps.toArray.map fun (i, x) => (i, ρ x)) cells.toArray (by rw [e]; exact h)]
  rfl

theorem OpV.mono {S' : World → Prop} {o : Oper} {v : Value} (h : OpV P F S' o v) (hs : ∀ w, S w → S' w) : OpV P F S o v := fun ρ w hρ hS => h ρ w hρ (hs w hS)

/-! integers -/
theorem i64_in {n : Int} (h : -9223372036854775808 ≤ n ∧ n ≤ 9223372036854775807) : IntKind.i64.wrap n = n := by rw [IntKind.wrap_i64]; omega
section ints
variable {k : IntKind} {m n : Int} (hx : opd F x = some (.int k m)) (hy : opd F y = some (.int k n))
include hx hy
theorem v_addW : OpV P F S ⟨d, .binOp .add t x y t', ty, pos, af, gd⟩ (.int k (k.wrap (m + n))) := fun ρ w hρ _ => by
  simp [execOp, hρ x _ hx, hρ y _ hy, eqGuard, binOp, Op.intArith]
theorem v_subW : OpV P F S ⟨d, .binOp .sub t x y t', ty, pos, af, gd⟩ (.int k (k.wrap (m - n))) := fun ρ w hρ _ => by
  simp [execOp, hρ x _ hx, hρ y _ hy, eqGuard, binOp, Op.intArith]
theorem v_mulW : OpV P F S ⟨d, .binOp .mul t x y t', ty, pos, af, gd⟩ (.int k (k.wrap (m * n))) := fun ρ w hρ _ => by
  simp [execOp, hρ x _ hx, hρ y _ hy, eqGuard, binOp, Op.intArith]
theorem v_eql : OpV P F S ⟨d, .binOp .eql t x y t', ty, pos, af, gd⟩ (.bool (decide (m = n))) := fun ρ w hρ _ => by
  simp [execOp, hρ x _ hx, hρ y _ hy, eqGuard, binOp, Op.intCmp]; rfl
theorem v_neq : OpV P F S ⟨d, .binOp .neq t x y t', ty, pos, af, gd⟩ (.bool (decide (m ≠ n))) := fun ρ w hρ _ => by
  simp [execOp, hρ x _ hx, hρ y _ hy, eqGuard, binOp, Op.intCmp, bne]; rfl
theorem v_lss : OpV P F S ⟨d, .binOp .lss t x y t', ty, pos, af, gd⟩ (.bool (decide (m < n))) := fun ρ w hρ _ => by
  simp [execOp, hρ x _ hx, hρ y _ hy, eqGuard, binOp, Op.intCmp]
theorem v_leq : OpV P F S ⟨d, .binOp .leq t x y t', ty, pos, af, gd⟩ (.bool (decide (m ≤ n))) := fun ρ w hρ _ => by
  simp [execOp, hρ x _ hx, hρ y _ hy, eqGuard, binOp, Op.intCmp]
theorem v_gtr : OpV P F S ⟨d, .binOp .gtr t x y t', ty, pos, af, gd⟩ (.bool (decide (n < m))) := fun ρ w hρ _ => by
  simp [execOp, hρ x _ hx, hρ y _ hy, eqGuard, binOp, Op.intCmp]
theorem v_geq : OpV P F S ⟨d, .binOp .geq t x y t', ty, pos, af, gd⟩ (.bool (decide (n ≤ m))) := fun ρ w hρ _ => by
  simp [execOp, hρ x _ hx, hρ y _ hy, eqGuard, binOp, Op.intCmp]
theorem v_eqlT (h : m = n) : OpV P F S ⟨d, .binOp .eql t x y t', ty, pos, af, gd⟩ (.bool true) := by have := v_eql (P := P) (S := S) (d := d) (t := t) (t' := t') (ty := ty) (pos := pos) (af := af) (gd := gd) hx hy; rwa [decide_eq_true h] at this
theorem v_eqlF (h : m ≠ n) : OpV P F S ⟨d, .binOp .eql t x y t', ty, pos, af, gd⟩ (.bool false) := by have := v_eql (P := P) (S := S) (d := d) (t := t) (t' := t') (ty := ty) (pos := pos) (af := af) (gd := gd) hx hy; rwa [decide_eq_false h] at this
theorem v_neqT (h : m ≠ n) : OpV P F S ⟨d, .binOp .neq t x y t', ty, pos, af, gd⟩ (.bool true) := by have := v_neq (P := P) (S := S) (d := d) (t := t) (t' := t') (ty := ty) (pos := pos) (af := af) (gd := gd) hx hy; rwa [decide_eq_true h] at this
theorem v_neqF (h : m = n) : OpV P F S ⟨d, .binOp .neq t x y t', ty, pos, af, gd⟩ (.bool false) := by have := v_neq (P := P) (S := S) (d := d) (t := t) (t' := t') (ty := ty) (pos := pos) (af := af) (gd := gd) hx hy; rwa [decide_eq_false (not_not_intro h)] at this
theorem v_lssT (h : m < n) : OpV P F S ⟨d, .binOp .lss t x y t', ty, pos, af, gd⟩ (.bool true) := by have := v_lss (P := P) (S := S) (d := d) (t := t) (t' := t') (ty := ty) (pos := pos) (af := af) (gd := gd) hx hy; rwa [decide_eq_true h] at this
theorem v_lssF (h : n ≤ m) : OpV P F S ⟨d, .binOp .lss t x y t', ty, pos, af, gd⟩ (.bool false) := by have := v_lss (P := P) (S := S) (d := d) (t := t) (t' := t') (ty := ty) (pos := pos) (af := af) (gd := gd) hx hy; rwa [decide_eq_false (by omega)] at this
theorem v_leqT (h : m ≤ n) : OpV P F S ⟨d, .binOp .leq t x y t', ty, pos, af, gd⟩ (.bool true) := by have := v_leq (P := P) (S := S) (d := d) (t := t) (t' := t') (ty := ty) (pos := pos) (af := af) (gd := gd) hx hy; rwa [decide_eq_true h] at this
theorem v_gtrT (h : n < m) : OpV P F S ⟨d, .binOp .gtr t x y t', ty, pos, af, gd⟩ (.bool true) := by have := v_gtr (P := P) (S := S) (d := d) (t := t) (t' := t') (ty := ty) (pos := pos) (af := af) (gd := gd) hx hy; rwa [decide_eq_true h] at this
theorem v_gtrF (h : m ≤ n) : OpV P F S ⟨d, .binOp .gtr t x y t', ty, pos, af, gd⟩ (.bool false) := by have := v_gtr (P := P) (S := S) (d := d) (t := t) (t' := t') (ty := ty) (pos := pos) (af := af) (gd := gd) hx hy; rwa [decide_eq_false (by omega)] at this
theorem v_geqT (h : n ≤ m) : OpV P F S ⟨d, .binOp .geq t x y t', ty, pos, af, gd⟩ (.bool true) := by have := v_geq (P := P) (S := S) (d := d) (t := t) (t' := t') (ty := ty) (pos := pos) (af := af) (gd := gd) hx hy; rwa [decide_eq_true h] at this
end ints
section ints64
variable {m n : Int} (hx : opd F x = some (.int .i64 m)) (hy : opd F y = some (.int .i64 n))
include hx hy
theorem v_add (h : -9223372036854775808 ≤ m + n ∧ m + n ≤ 9223372036854775807) : OpV P F S ⟨d, .binOp .add t x y t', ty, pos, af, gd⟩ (.int .i64 (m + n)) := by
  have := v_addW (P := P) (S := S) (d := d) (t := t) (t' := t') (ty := ty) (pos := pos) (af := af) (gd := gd) hx hy; rwa [i64_in h] at this
theorem v_sub (h : -9223372036854775808 ≤ m - n ∧ m - n ≤ 9223372036854775807) : OpV P F S ⟨d, .binOp .sub t x y t', ty, pos, af, gd⟩ (.int .i64 (m - n)) := by
  have := v_subW (P := P) (S := S) (d := d) (t := t) (t' := t') (ty := ty) (pos := pos) (af := af) (gd := gd) hx hy; rwa [i64_in h] at this
theorem v_mul (h : -9223372036854775808 ≤ m * n ∧ m * n ≤ 9223372036854775807) : OpV P F S ⟨d, .binOp .mul t x y t', ty, pos, af, gd⟩ (.int .i64 (m * n)) := by
  have := v_mulW (P := P) (S := S) (d := d) (t := t) (t' := t') (ty := ty) (pos := pos) (af := af) (gd := gd) hx hy; rwa [i64_in h] at this
end ints64
theorem v_convInt {k k' : IntKind} {m : Int} (ht : intB P t' k' = true) (hs : intB P t k = true) (hx : opd F x = some (.int k m)) :
    OpV P F S ⟨d, .convert t t' x, ty, pos, af, gd⟩ (.int k' (k'.wrap m)) := fun ρ w hρ _ => by
  simp [execOp, hρ x _ hx, convert, underlying, intB_spec ht, intB_spec hs, Conv.intToInt]

/-! bools, pointers, strings -/
theorem v_neqBool {b c : Bool} (ht : boolB P t = true) (hx : opd F x = some (.bool b)) (hy : opd F y = some (.bool c)) :
    OpV P F S ⟨d, .binOp .neq t x y t', ty, pos, af, gd⟩ (.bool (!(b == c))) := fun ρ w hρ _ => by
  simp [execOp, hρ x _ hx, hρ y _ hy, eqGuard, run_neq_bool w t b c (boolB_spec ht)]
theorem v_eqlNil {p : Option Addr} (ht : ptrB P t = true) (hx : opd F x = some (.pointer p)) (hy : opd F y = some (.pointer none)) :
    OpV P F S ⟨d, .binOp .eql t x y t', ty, pos, af, gd⟩ (.bool p.isNone) := fun ρ w hρ _ => by
  simp [execOp, hρ x _ hx, hρ y _ hy, eqGuard, run_eql_pointer_nil (P := P) w t p (ptrB_spec ht)]
theorem toList_iff (a b : ByteArray) : a.toList = b.toList ↔ a = b := by
  refine ⟨fun h => ?_, fun h => by rw [h]⟩
  rw [ByteArray.toList_eq, ByteArray.toList_eq] at h
  cases a; cases b
  exact congrArg ByteArray.mk (Array.ext' h)
theorem toList_beq (a b : ByteArray) : (a.toList == b.toList) = decide (a = b) := by
  rw [Bool.eq_iff_iff, beq_iff_eq, decide_eq_true_iff]
  exact toList_iff a b
theorem v_eqlStr {a b : ByteArray} (hx : opd F x = some (.string a)) (hy : opd F y = some (.string b)) :
    OpV P F S ⟨d, .binOp .eql t x y t', ty, pos, af, gd⟩ (.bool (decide (a = b))) := fun ρ w hρ _ => by
  simp [execOp, hρ x _ hx, hρ y _ hy, eqGuard, binOp, Op.stringOp, toList_beq]
theorem v_neqStr {a b : ByteArray} (hx : opd F x = some (.string a)) (hy : opd F y = some (.string b)) :
    OpV P F S ⟨d, .binOp .neq t x y t', ty, pos, af, gd⟩ (.bool (decide (a ≠ b))) := fun ρ w hρ _ => by
  simp [execOp, hρ x _ hx, hρ y _ hy, eqGuard, binOp, Op.stringOp, toList_beq]

/-! len, max, min -/
theorem v_lenSlice {e sz : Nat} {a : Option Addr} {n c : Nat} (ht : slB P t e sz = true) (hx : opd F x = some (.slice a n c)) :
    OpV P F S ⟨d, .call { callee := .builtin .len, args := #[x], argTypes := #[t] }, ty, pos, af, gd⟩ (.int .i64 n) := fun ρ w hρ _ => by
  simp [execOp, resolve, invoke, builtin, Builtin.len_, hρ x _ hx, underlying, (slB_spec ht).1, goInt]
theorem v_lenStr {s : ByteArray} (ht : strB P t = true) (hx : opd F x = some (.string s)) :
    OpV P F S ⟨d, .call { callee := .builtin .len, args := #[x], argTypes := #[t] }, ty, pos, af, gd⟩ (.int .i64 s.size) := fun ρ w hρ _ => by
  simp [execOp, resolve, invoke, builtin, Builtin.len_, hρ x _ hx, underlying, strB_spec ht, goInt]
theorem v_max {k k' : IntKind} {m n : Int} {ts : Array TypeId} (hx : opd F x = some (.int k m)) (hy : opd F y = some (.int k' n)) :
    OpV P F S ⟨d, .call { callee := .builtin .max, args := #[x, y], argTypes := ts }, ty, pos, af, gd⟩ (.int k (max m n)) := fun ρ w hρ _ => by
  have : (if n > m then n else m) = max m n := by split <;> omega
  simp only [execOp, resolve, invoke, builtin, Sem.run_bind, Sem.run_pure, Result.andThen_ok, List.map_toArray, List.map_cons, List.map_nil, hρ x _ hx, hρ y _ hy, run_max_int2, this]
theorem v_min {k k' : IntKind} {m n : Int} {ts : Array TypeId} (hx : opd F x = some (.int k m)) (hy : opd F y = some (.int k' n)) :
    OpV P F S ⟨d, .call { callee := .builtin .min, args := #[x, y], argTypes := ts }, ty, pos, af, gd⟩ (.int k (min m n)) := fun ρ w hρ _ => by
  have : (if n < m then n else m) = min m n := by split <;> omega
  simp only [execOp, resolve, invoke, builtin, Sem.run_bind, Sem.run_pure, Result.andThen_ok, List.map_toArray, List.map_cons, List.map_nil, hρ x _ hx, hρ y _ hy, run_min_int2, this]
end v

/-! ### Operations that change the world -/
section k
variable {P : Program} {n : NF} {F : Fr} {w : World} {K : Fr → World → Prop} {d : Option Nat} {ty : TypeId} {pos : String} {af : Array Edge} {gd : Option (Nat × Bool)}
  {x y : Operand} {t : TypeId} {E : Env} {L L' : List As}

theorem k_of_skip {o : Oper} {w' : World} (hd : o.dst = none) (hrun : ∀ ρ, Ev F ρ → (execOp ρ o).run P w = .ok .skip w') (h : K F w') : OpK P n F o w K :=
  fun a K' Q ha hK => by
    unfold Oper.wp
    rw [hrun a.eval ha.ev, Oper.upon_skip, hd]
    exact hK _ _ _ h ha
theorem k_of_value {o : Oper} {w' : World} {v : Value} (hd : okD n o.dst = true) (hrun : ∀ ρ, Ev F ρ → (execOp ρ o).run P w = .ok (.value v) w') (h : K (putF o.dst v F) w') : OpK P n F o w K :=
  fun a K' Q ha hK => by
    unfold Oper.wp
    rw [hrun a.eval ha.ev, Oper.upon_value]
    exact hK _ _ _ h (ha.putF hd v)

theorem heap_setCell {w : World} {b i : Nat} {cs : List Value} {t : TypeId} {v : Value} (hg : w.heap[b]? = some (.cells cs.toArray t (0, 0))) :
    (w.setCell ⟨b, i, none⟩ v).heap[b]? = some (.cells (cs.set i v).toArray t (0, 0)) := by
  rw [heap_setCell_same w b i cs.toArray t v hg]
  simp

/-- One cell is written. -/
theorem k_store {b i : Nat} {v u : Value} {cs cs' : List Value} {t' : TypeId} (hs : Sat E w L) (ht : scalB P t = true)
    (hx : opd F x = some (.pointer (some ⟨b, i, none⟩))) (hy : opd F y = some v) (hv : v.oneCell' = true)
    (hp : Pick (pt b (.cells cs.toArray t' (0, 0))) L L') (hu : cs[i]? = some u) (hc : cs.set i v = cs')
    (h : ∀ w', Sat E w' (pt b (.cells cs'.toArray t' (0, 0)) :: L') → K F w') :
    OpK P n F ⟨none, .store t x y, ty, pos, af, gd⟩ w K := by
  have h1 := hs.pick hp
  have hcell : w.cell? ⟨b, i, none⟩ = some u := by rw [h1.cell i]; simpa using hu
  have hfr := h1.frozen i
  refine k_of_skip rfl (w' := w.setCell ⟨b, i, none⟩ v) (fun ρ hρ => ?_) (h _ ?_)
  · have hvc : v.cells = #[v] := by cases v <;> simp_all [Value.cells, Value.oneCell']
    simp [execOp, hρ x _ hx, hρ y _ hy, Instr.storeAt, Instr.sureAddr, storeVar, run_sizeOf_scal ht, hvc, storeCells, Addr.add, run_store _ _ _ _ _ hv, hcell, hfr]
  · subst hc
    exact h1.set rfl (heap_setCell h1.block) (fun i' hi => heap_setCell_other _ _ _ _ hi)

/-- A new variable, at its zero value. -/
theorem k_alloc {z : Value} {zs : List Value} (hs : Sat E w L) (hz : ZeroIs P t z) (hc : z.cells = zs.toArray) (hd : okD n d = true)
    (h : ∀ b w', Sat E w' (pt b (.cells zs.toArray t (0, 0)) :: L) → K (putF d (.pointer (some ⟨b, 0, none⟩)) F) w') :
    OpK P n F ⟨d, .alloc t, ty, pos, af, gd⟩ w K := by
  refine k_of_value hd (v := .pointer (some ⟨w.heap.size, 0, none⟩)) (w' := w.alloc (.cells zs.toArray t (0, 0))) (fun ρ _ => ?_) (h _ _ hs.alloc)
  simp [execOp, Instr.alloc, run_zero hz, newVar, newRow, hc]
/-- A new variable that holds a value. -/
theorem k_box {v : Value} {zs : List Value} (hs : Sat E w L) (hx : opd F x = some v) (hc : v.cells = zs.toArray) (hd : okD n d = true)
    (h : ∀ b w', Sat E w' (pt b (.cells zs.toArray t (0, 0)) :: L) → K (putF d (.pointer (some ⟨b, 0, none⟩)) F) w') :
    OpK P n F ⟨d, .box t x, ty, pos, af, gd⟩ w K := by
  refine k_of_value hd (v := .pointer (some ⟨w.heap.size, 0, none⟩)) (w' := w.alloc (.cells zs.toArray t (0, 0))) (fun ρ hρ => ?_) (h _ _ hs.alloc)
  simp [execOp, Instr.box, hρ x _ hx, newVar, newRow, hc]
end k

/-! ### What a load asks for -/
theorem sat_cell {E : Env} {w : World} {L L' : List As} {b i : Nat} {cs : List Value} {t : TypeId} {fr : Nat × Nat} {v : Value} (hs : Sat E w L)
    (hp : Pick (pt b (.cells cs.toArray t fr)) L L') (hv : cs[i]? = some v) : w.cell? ⟨b, i, none⟩ = some v := by
  rw [(hs.pick hp).cell i]; simpa using hv
def SubAt (cs : List Value) : Nat → List Value → Prop
  | _, [] => True
  | o, v :: vs => cs[o]? = some v ∧ SubAt cs (o + 1) vs
theorem sat_cells {E : Env} {w : World} {L L' : List As} {b o : Nat} {cs vs : List Value} {t : TypeId} {fr : Nat × Nat} (hs : Sat E w L)
    (hp : Pick (pt b (.cells cs.toArray t fr)) L L') (hv : SubAt cs o vs) : CellsAt w b o vs := by
  induction vs generalizing o with
  | nil => trivial
  | cons v vs ih => exact ⟨sat_cell hs hp hv.1, ih hv.2⟩
theorem old_cell {E : Env} {w w0 : World} {L L' : List As} {a : Addr} {v : Value} (hs : Sat E w L) (hp : Pick (Old w0) L L') (hv : w0.cell? a = some v) : w.cell? a = some v :=
  (hs.pick hp).old_cell hv
/-- The cells of vs stand behind place o of a heap. -/
def HAt (g : Hp) (b : Nat) : Nat → List Value → Prop
  | _, [] => True
  | o, v :: vs => g.cell b o = some v ∧ HAt g b (o + 1) vs
theorem HAt.get {g : Hp} {b : Nat} : ∀ {o : Nat} {vs : List Value}, HAt g b o vs → ∀ j v, vs[j]? = some v → g.cell b (o + j) = some v
  | o, v :: vs, h, 0, u, hu => by cases hu; exact h.1
  | o, v :: vs, h, j + 1, u, hu => by
    have := h.2.get j u (by simpa using hu)
    rwa [show o + 1 + j = o + (j + 1) by omega] at this
theorem HAt.mono {g h : Hp} (l : g.le h) {b : Nat} : ∀ {o : Nat} {vs : List Value}, HAt g b o vs → HAt h b o vs
  | _, [], _ => trivial
  | _, _ :: _, h => ⟨l.cell h.1, h.2.mono l⟩
theorem HAt.mk {g : Hp} {b : Nat} : ∀ {o : Nat} {vs : List Value}, (∀ j v, vs[j]? = some v → g.cell b (o + j) = some v) → HAt g b o vs
  | _, [], _ => trivial
  | o, v :: vs, h => ⟨h 0 v rfl, HAt.mk fun j u hu => by
      have := h (j + 1) u (by simpa using hu)
      rwa [show o + (j + 1) = o + 1 + j by omega] at this⟩
theorem HAt.of_cells {w : World} {b : Nat} : ∀ {o : Nat} {vs : List Value}, CellsAt w b o vs → HAt (hpOf w) b o vs
  | _, [], _ => trivial
  | _, _ :: _, h => ⟨h.1, HAt.of_cells h.2⟩
theorem HAt.cells {w : World} {b : Nat} : ∀ {o : Nat} {vs : List Value}, HAt (hpOf w) b o vs → CellsAt w b o vs
  | _, [], _ => trivial
  | _, _ :: _, h => ⟨h.1, HAt.cells h.2⟩
/-- A cell of what stands. -/
theorem ro_at {E : Env} {w : World} {L L' : List As} {g : Hp} {b o k : Nat} {vs : List Value} {v : Value} (hs : Sat E w L) (hp : Pick (RO g) L L') (ha : HAt g b o vs) (hk : vs[k]? = some v) : w.cell? ⟨b, o + k, none⟩ = some v :=
  (hs.pick hp).ro_cell (ha.get k v hk)
theorem ro_at0 {E : Env} {w : World} {L L' : List As} {g : Hp} {b o : Nat} {vs : List Value} {v : Value} (hs : Sat E w L) (hp : Pick (RO g) L L') (ha : HAt g b o vs) (hk : vs[0]? = some v) : w.cell? ⟨b, o, none⟩ = some v :=
  (hs.pick hp).ro_cell (ha.get 0 v hk)
theorem ro_ats {E : Env} {w : World} {L L' : List As} {g : Hp} {b o : Nat} {vs : List Value} (hs : Sat E w L) (hp : Pick (RO g) L L') (ha : HAt g b o vs) : CellsAt w b o vs := by
  induction vs generalizing o with
  | nil => trivial
  | cons v vs ih => exact ⟨(hs.pick hp).ro_cell ha.1, ih ha.2⟩
end Go.Proofs.Ytlgpdglnfjndhaa.Xe
