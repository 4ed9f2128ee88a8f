/-
  XE, part 10: results that stand in memory; structs that are compared; slices told by a heap; further operations.
-/
import Derived.Test.YtlgpdglnfjndhaaX9
import Derived.Laws.Cover3
import Derived.Laws.CopyRow
namespace Go.Proofs.Ytlgpdglnfjndhaa.Xe
open Go Go.Lib

/-! ### Results that stand in memory -/
/-- What a variable of type t holds. -/
def Holds (P : Program) (w : World) (t : TypeId) (a : Addr) (v : Value) : Prop := (loadVar t a).run P w = .ok v w
theorem holds_agg {P : Program} {w : World} {t b o k : Nat} {vs : List Value} (ht : aggB P t k = true) (hk : vs.length = k) (h : CellsAt w b o vs) : Holds P w t ⟨b, o, none⟩ (.agg vs.toArray) := by
  have e := run_loadCells_list (P := P) w ⟨b, o, none⟩ vs (fun j v hv => by rw [Addr.add_plain]; exact h.get j v hv)
  simp [Holds, loadVar, run_isAgg_agg ht, run_sizeOf_agg ht, ← hk, e]
section g
variable {P : Program} {f : FuncId} {R : Ending → World → Prop} {n : NF} {k : List Item} {F : Fr} {w : World}
/-- A result, in a slot or in memory. -/
def ResAt (P : Program) (F : Fr) (w : World) : ResultVar → Value → Prop
  | .tmp t, v => look F t = some v
  | .cell p ty, v => ∃ a, look F p = some (.pointer (some a)) ∧ Holds P w ty a v
theorem g_resC {m : Nat} {fn : Func} {p ty : Nat} {v : Value} (hf : P.funcs[f]? = some fn) (hr : fn.results = #[.cell p ty]) (hv : ResAt P F w (.cell p ty) v) (h : R (.returned v) w) :
    G P f R ⟨m, [], none⟩ (.code .ret :: k) F w := fun a ha => run_ret hf ha.defers (v := v) (by
  obtain ⟨ad, h1, h2⟩ := hv
  have h2 : (loadVar ty ad).run P w = .ok v w := h2
  simp [results, hr, ha.slot p _ h1, asAddr, h2]) h
theorem g_res2 {m : Nat} {fn : Func} {r1 r2 : ResultVar} {v1 v2 : Value} (hf : P.funcs[f]? = some fn) (hr : fn.results = #[r1, r2]) (h1 : ResAt P F w r1 v1) (h2 : ResAt P F w r2 v2) (h : R (.returned (.tuple #[v1, v2])) w) :
    G P f R ⟨m, [], none⟩ (.code .ret :: k) F w := fun a ha => run_ret hf ha.defers (v := .tuple #[v1, v2]) (by
  cases r1 <;> cases r2
  · have h1 := ha.slot _ _ h1; have h2 := ha.slot _ _ h2
    simp [results, hr, h1, h2]
  · obtain ⟨ad, h3, h4⟩ := h2
    have h4 : (loadVar _ ad).run P w = .ok v2 w := h4
    have h1 := ha.slot _ _ h1
    simp [results, hr, h1, ha.slot _ _ h3, asAddr, h4]
  · obtain ⟨ad, h3, h4⟩ := h1
    have h4 : (loadVar _ ad).run P w = .ok v1 w := h4
    have h2 := ha.slot _ _ h2
    simp [results, hr, h2, ha.slot _ _ h3, asAddr, h4]
  · obtain ⟨ad, h3, h4⟩ := h1
    obtain ⟨ae, h5, h6⟩ := h2
    have h4 : (loadVar _ ad).run P w = .ok v1 w := h4
    have h6 : (loadVar _ ae).run P w = .ok v2 w := h6
    simp [results, hr, ha.slot _ _ h3, ha.slot _ _ h5, asAddr, h4, h6]) h
end g

section v
variable {P : Program} {F : Fr} {S : World → Prop} {d : Option Nat} {ty : TypeId} {pos : String} {af : Array Edge} {gd : Option (Nat × Bool)}
  {x y z : Operand} {t t' : TypeId}
/-! ### Structs that are compared, and cut -/
inductive CK where
  | i
  | s
  | b
def kindOf : Value → Option CK
  | .int _ _ => some .i
  | .string _ => some .s
  | .bool _ => some .b
  | _ => none
/-- Fields that are compared one by one: their types, all of one cell. -/
def cmpB (P : Program) (t : TypeId) (ks : List CK) : Bool :=
  match P.underlying t with
  | some (.struct fs) => !P.stoodInHeld t && !P.eqGuardType P.depth t && fs.size == ks.length && (List.range ks.length).all (fun i => match fs[i]?, ks[i]? with
      | some fd, some c => fd.name != "_" && fd.offset == i && scalB P fd.type && (match P.underlying fd.type, c with | some (.int _), .i | some .string, .s | some .bool, .b => true | _, _ => false)
      | _, _ => false)
  | _ => false
/-- Two cells are alike. -/
def cellEq : Value → Value → Option Bool
  | .int k a, .int k' b => if k = k' then some (decide (a = b)) else none
  | .string a, .string b => some (decide (a = b))
  | .bool a, .bool b => some (a == b)
  | _, _ => none
def cellsEq : List Value → List Value → Option Bool
  | [], [] => some true
  | x :: xs, y :: ys => match cellEq x y, cellsEq xs ys with
    | some a, some b => some (a && b)
    | _, _ => none
  | _, _ => none
theorem run_cmp {P : Program} (w : World) (d : Nat) (xs ys : Array Value) : ∀ (fs : List Field) (i : Nat) (b : Bool),
    (∀ j fd, fs[j]? = some fd → fd.name ≠ "_" ∧ fd.offset = i + j ∧ scalB P fd.type = true ∧ ∃ ds, P.underlying fd.type = some ds ∧ (match ds with | (.int _) | .string | .bool => true | _ => false) = true) →
    cellsEq ((xs.toList.drop i).take fs.length) ((ys.toList.drop i).take fs.length) = some b → i + fs.length ≤ xs.size → i + fs.length ≤ ys.size → 
    (∀ j fd v, fs[j]? = some fd → (xs[i + j]? = some v ∨ ys[i + j]? = some v) → ∃ ds, P.underlying fd.type = some ds ∧ (match ds, v with | (.int _), .int _ _ => true | .string, .string _ => true | .bool, .bool _ => true | _, _ => false) = true) →
    (Op.eqFields (d + 1) xs ys fs).run P w = .ok b w
  | [], i, b, _, h, _, _, _ => by simp [cellsEq] at h; simp [Op.eqFields, h]
  | f :: fs, i, b, hfs, h, hx, hy, hk => by
    obtain ⟨h1, h2, h3, ds, h4, h5⟩ := hfs 0 f rfl
    simp only [List.length_cons] at hx hy
    have hxi : i < xs.toList.length := by rw [Array.length_toList]; omega
    have hyi : i < ys.toList.length := by rw [Array.length_toList]; omega
    rw [List.drop_eq_getElem_cons hxi, List.drop_eq_getElem_cons hyi] at h
    simp only [List.length_cons, List.take_succ_cons, cellsEq] at h
    split at h <;> try contradiction
    rename_i c e hc he
    cases h
    have ih := run_cmp w d xs ys fs (i + 1) e (fun j fd hj => by
      obtain ⟨a1, a2, a3⟩ := hfs (j + 1) fd (by simpa using hj)
      exact ⟨a1, by omega, a3⟩) he (by omega) (by omega) (fun j fd v hj hv => hk (j + 1) fd v (by simpa using hj) (by rwa [show i + 1 + j = i + (j + 1) by omega] at hv))
    have ex : xs.toList[i] = xs[i]'(by omega) := by simp
    have ey : ys.toList[i] = ys[i]'(by omega) := by simp
    rw [ex, ey] at hc
    obtain ⟨ds1, k1, k2⟩ := hk 0 f xs[i] rfl (.inl (by simp))
    obtain ⟨ds2, k3, k4⟩ := hk 0 f ys[i] rfl (.inr (by simp))
    rw [k1] at k3; cases k3
    have p1 : (part f.type xs f.offset).run P w = .ok xs[i] w := by
      have e0 : xs[f.offset]? = some xs[i] := by rw [h2, Nat.add_zero]; simp
      simp [part, run_isAgg_scal h3, run_sizeOf_scal h3, e0]
    have p2 : (part f.type ys f.offset).run P w = .ok ys[i] w := by
      have e0 : ys[f.offset]? = some ys[i] := by rw [h2, Nat.add_zero]; simp
      simp [part, run_isAgg_scal h3, run_sizeOf_scal h3, e0]
    have e1 : (Op.equalIn (d + 1) f.type xs[i] ys[i]).run P w = .ok c w := by
      generalize xs[i] = u at *
      generalize ys[i] = u' at *
      cases ds1 <;> cases u <;> simp at k2 <;> cases u' <;> simp at k4
      · simp only [cellEq, Option.some.injEq] at hc
        rw [run_equalIn_bool' w d f.type _ _ k1, hc]
      · simp only [cellEq] at hc
        split at hc <;> try contradiction
        rename_i hk'
        subst hk'
        simp only [Option.some.injEq] at hc
        rw [run_equalIn_int w d f.type _ _ _ _ k1, ← hc]
        rfl
      · simp only [cellEq, Option.some.injEq] at hc
        rw [run_equalIn_string w d f.type _ _ k1, ← hc, toList_beq]
    simp only [Op.eqFields, h1, ne_eq, not_false_eq_true, if_true, Sem.run_bind, p1, p2, e1, Result.andThen_ok]
    cases c
    · simp
    · simp [ih]
theorem run_cmpAgg {P : Program} {t : TypeId} {ks : List CK} (w : World) (d : Nat) {xs ys : List Value} {b : Bool} (ht : cmpB P t ks = true) (h1 : xs.map kindOf = ks.map some) (h2 : ys.map kindOf = ks.map some) (h : cellsEq xs ys = some b) :
    (Op.equalIn (d + 2) t (.agg xs.toArray) (.agg ys.toArray)).run P w = .ok b w ∧ P.eqGuardType P.depth t = false := by
  unfold cmpB at ht
  split at ht <;> try contradiction
  rename_i fs hfs
  simp only [Bool.and_eq_true, Bool.not_eq_true', beq_iff_eq, List.all_eq_true, List.mem_range] at ht
  obtain ⟨⟨⟨h3, h4⟩, h5⟩, h6⟩ := ht
  have lx : xs.length = ks.length := by simpa using congrArg List.length h1
  have ly : ys.length = ks.length := by simpa using congrArg List.length h2
  have hfo : P.fieldsOf t = fs := by simp [Program.fieldsOf, hfs]
  refine ⟨?_, h4⟩
  rw [run_equalIn_struct w (d + 1) t _ _ (by rw [hfo]; exact hfs) h3, hfo]
  have info : ∀ (j : Nat) fd, fs.toList[j]? = some fd → ∃ c, ks[j]? = some c ∧ fd.name ≠ "_" ∧ fd.offset = j ∧ scalB P fd.type = true ∧ (match P.underlying fd.type, c with | some (.int _), .i | some .string, .s | some .bool, .b => true | _, _ => false) = true := by
    intro j fd hj
    have hj' : fs[j]? = some fd := by simpa using hj
    have hlt : j < fs.size := (Array.getElem?_eq_some_iff.1 hj').1
    have := h6 j (by omega)
    rw [hj', List.getElem?_eq_getElem (by omega)] at this
    simp only [Bool.and_eq_true, bne_iff_ne, beq_iff_eq] at this
    exact ⟨_, List.getElem?_eq_getElem (by omega), this.1.1.1, this.1.1.2, this.1.2, this.2⟩
  refine run_cmp w d _ _ fs.toList 0 b (fun j fd hj => ?_) ?_ (by simp; omega) (by simp; omega) (fun j fd v hj hv => ?_)
  · obtain ⟨c, k1, k2, k3, k4, k5⟩ := info j fd hj
    refine ⟨k2, by omega, k4, ?_⟩
    cases hu : P.underlying fd.type with
    | none => rw [hu] at k5; simp at k5
    | some ds => rw [hu] at k5; refine ⟨ds, rfl, ?_⟩; cases ds <;> cases c <;> simp_all
  · have e1 : fs.toList.length = xs.length := by simp; omega
    have e2 : fs.toList.length = ys.length := by simp; omega
    rw [List.drop_zero, List.drop_zero, e1, List.toList_toArray, List.toList_toArray, List.take_length, lx, ← ly, List.take_length]
    exact h
  · obtain ⟨c, k1, k2, k3, k4, k5⟩ := info j fd hj
    have hkv : kindOf v = some c := by
      rcases hv with hv | hv
      · have e : xs[j]? = some v := by simpa using hv
        have := congrArg (·[j]?) h1
        simpa [e, k1] using this
      · have e : ys[j]? = some v := by simpa using hv
        have := congrArg (·[j]?) h2
        simpa [e, k1] using this
    cases hu : P.underlying fd.type with
    | none => rw [hu] at k5; simp at k5
    | some ds =>
      rw [hu] at k5
      refine ⟨ds, rfl, ?_⟩
      cases ds <;> cases c <;> simp at k5 <;> cases v <;> simp [kindOf] at hkv ⊢
theorem v_eqlAgg {ks : List CK} {xs ys : List Value} {b : Bool} (ht : cmpB P t ks = true) (hx : opd F x = some (.agg xs.toArray)) (hy : opd F y = some (.agg ys.toArray)) (h1 : xs.map kindOf = ks.map some) (h2 : ys.map kindOf = ks.map some) (h : cellsEq xs ys = some b) :
    OpV P F S ⟨d, .binOp .eql t x y t', ty, pos, af, gd⟩ (.bool b) := fun ρ w hρ _ => by
  obtain ⟨e1, e2⟩ := run_cmpAgg (P := P) w 9998 ht h1 h2 h
  simp only [execOp, hρ x _ hx, hρ y _ hy, Sem.run_bind, run_eqGuard_agg (P := P) w .eql t x y _ _ e2, Result.andThen_ok, run_eql_struct, e1]
  rfl
theorem v_neqAgg {ks : List CK} {xs ys : List Value} {b : Bool} (ht : cmpB P t ks = true) (hx : opd F x = some (.agg xs.toArray)) (hy : opd F y = some (.agg ys.toArray)) (h1 : xs.map kindOf = ks.map some) (h2 : ys.map kindOf = ks.map some) (h : cellsEq xs ys = some b) :
    OpV P F S ⟨d, .binOp .neq t x y t', ty, pos, af, gd⟩ (.bool (!b)) := fun ρ w hρ _ => by
  obtain ⟨e1, e2⟩ := run_cmpAgg (P := P) w 9998 ht h1 h2 h
  simp only [execOp, hρ x _ hx, hρ y _ hy, Sem.run_bind, run_eqGuard_agg (P := P) w .neq t x y _ _ e2, Result.andThen_ok, run_neq_struct, e1]
  rfl
/-- A field of a struct that is no variable. -/
def fldvB (P : Program) (s i off k : Nat) (agg : Bool) : Bool :=
  match P.underlying s with
  | some (.struct fs) => match fs[i]? with
    | some fd => fd.offset == off && (bif agg then aggB P fd.type k else scalB P fd.type && k == 1)
    | none => false
  | _ => false
theorem v_field {s i off k : Nat} {cs : List Value} {v : Value} (hf : fldvB P s i off k false = true) (hx : opd F x = some (.agg cs.toArray)) (hv : cs[off]? = some v) :
    OpV P F S ⟨d, .field s x i, ty, pos, af, gd⟩ v := fun ρ w hρ _ => by
  unfold fldvB at hf
  split at hf <;> try contradiction
  rename_i fs hfs
  split at hf <;> try contradiction
  rename_i fd hfd
  simp only [Bool.and_eq_true, beq_iff_eq, cond_false] at hf
  obtain ⟨rfl, h2, _⟩ := hf
  simp [execOp, hρ x _ hx, Instr.field, underlying, hfs, hfd, asAgg, part, run_isAgg_scal h2, run_sizeOf_scal h2, hv]
/-! ### Slices -/
theorem v_eqlSlNil {e sz : Nat} {a : Option Addr} {n c : Nat} (ht : slB P t e sz = true) (hx : opd F x = some (.slice a n c)) (hy : opd F y = some (.slice none 0 0)) :
    OpV P F S ⟨d, .binOp .eql t x y t', ty, pos, af, gd⟩ (.bool a.isNone) := fun ρ w hρ _ => by
  have := run_equal_slice_nil (P := P) w t e a n c (slB_spec ht).1
  simp [execOp, hρ x _ hx, hρ y _ hy, eqGuard, binOp, this]
/-- x[i:] of any slice. -/
theorem v_sliceFromA {e sz : Nat} {a : Option Addr} {len cap : Nat} {k : IntKind} {i : Int} (ht : slB P t e sz = true) (h : opd F x = some (.slice a len cap)) (hz : opd F z = some (.int k i))
    (h1 : 0 ≤ i) (h2 : i ≤ len) (h3 : len ≤ cap) : OpV P F S ⟨d, .slice t x (some z) none none, ty, pos, af, gd⟩ (.slice (if cap = i.toNat then a else a.map (·.add (i.toNat * sz))) (len - i.toNat) (cap - i.toNat)) := fun ρ w hρ _ => by
  obtain ⟨hu, ti, hti, rfl⟩ := slB_spec ht
  have hj : 0 ≤ i ∧ i ≤ (len : Int) := ⟨h1, h2⟩
  simp [execOp, hρ x _ h, hρ z _ hz, Instr.sliceAt, underlying, hu, Instr.slice, Instr.sliceBounds, Instr.sliceBound, asIntOf, hj, sizeOf, typeInfo, hti]
end v

section k
variable {P : Program} {n : NF} {F : Fr} {w : World} {K : Fr → World → Prop} {d : Option Nat} {ty : TypeId} {pos : String} {af : Array Edge} {gd : Option (Nat × Bool)}
  {x y : Operand} {t : TypeId} {E : Env} {L L' : List As}
/-- A literal without elements. -/
theorem k_buildSlice0 {e sz : Nat} {z : Value} (hs : Sat E w L) (ht : slB P t e sz = true) (hz : ZeroIs P e z) (hd : okD n d = true)
    (h : ∀ b w', Sat E w' (OwnSl e sz (.slice (some ⟨b, 0, none⟩) 0 0) 0 [] :: L) → K (putF d (.slice (some ⟨b, 0, none⟩) 0 0) F) w') :
    OpK P n F ⟨d, .buildSlice t 0 #[], ty, pos, af, gd⟩ w K := by
  obtain ⟨hu, ti, hti, rfl⟩ := slB_spec ht
  have hz' : ti.zero = some z := by simpa [ZeroIs, hti] using hz
  refine k_of_value hd (v := .slice (some ⟨w.heap.size, 0, none⟩) 0 0) (w' := w.alloc (.cells #[] e (0, 0))) (fun ρ hρ => ?_) (h _ _ (Sat.own_mk hs.alloc (by omega) (by simp [maxLen]) (by simp) (by simp)))
  simp [execOp, Instr.buildSlice, underlying, hu, sizeOf, typeInfo, hti, Instr.fill, newRow]
  rw [show (Array.range 0) = #[] from by simp [Array.range]]
  simp
/-- copy of nothing. -/
theorem k_copy0 {e sz dn dc sn sc : Nat} {a a' : Option Addr} (ht : slB P t e sz = true) (hx : opd F x = some (.slice a dn dc)) (hy : opd F y = some (.slice a' sn sc)) (h0 : Nat.min sn dn = 0) (hd : okD n d = true)
    (h : K (putF d (.int .i64 0) F) w) :
    OpK P n F ⟨d, .call { callee := .builtin .copy, args := #[x, y], argTypes := #[t, t] }, ty, pos, af, gd⟩ w K := by
  obtain ⟨hu, ti, hti, rfl⟩ := slB_spec ht
  refine k_of_value hd (v := .int .i64 0) (w' := w) (fun ρ hρ => ?_) h
  have hf : (Builtin.firstCells ti.size 0 (.slice a' sn sc)).run P w = .ok #[] w := by
    cases a' with
    | none => simp [Builtin.firstCells]
    | some a =>
      have := run_loadCells_list (P := P) w a [] (by simp)
      simpa [Builtin.firstCells] using this
  cases a <;> simp [execOp, resolve, invoke, builtin, hρ x _ hx, hρ y _ hy, Builtin.copy_, run_underlying hu, Builtin.lenOf, sizeOf, typeInfo, hti, h0, hf, storeCells, goInt]
/-- copy into a slice of the call's own. -/
theorem k_copyOwn {e sz g o dn dc sn sc m cap k : Nat} {a : Option Addr} {xs vs : List Value} (hs : Sat E w L) (ht : slB P t e sz = true)
    (hx : opd F x = some (.slice (some ⟨g, o, none⟩) dn dc)) (hy : opd F y = some (.slice a sn sc)) (hk : Nat.min sn dn = k) (hp : Pick (OwnSl e sz (.slice (some ⟨g, 0, none⟩) m cap) m xs) L L')
    (hl : vs.length = k * sz) (hsrc : SrcAt w a k vs) (h1 : ∀ u ∈ vs, u.oneCell' = true) (ho : o + vs.length ≤ xs.length) (hd : okD n d = true)
    (h : ∀ w', Sat E w' (OwnSl e sz (.slice (some ⟨g, 0, none⟩) m cap) m (xs.take o ++ vs ++ xs.drop (o + vs.length)) :: L') → K (putF d (.int .i64 k) F) w') :
    OpK P n F ⟨d, .call { callee := .builtin .copy, args := #[x, y], argTypes := #[t, t] }, ty, pos, af, gd⟩ w K := by
  have hs1 := hs.pick hp
  rcases hsrc with ⟨h0, hv⟩ | ⟨b', o', rfl, hc⟩
  · subst h0; subst hv
    refine k_copy0 ht hx hy hk hd (h w ?_)
    simpa using hs1
  · obtain ⟨hu, ti, hti, rfl⟩ := slB_spec ht
    obtain ⟨hxl, ⟨_, _, _, hx0, _⟩ | ⟨g', cap', cur, hv', hs2, h3, h4, h5, h6⟩⟩ := hs1.own_open
    · subst hx0
      have : vs = [] := List.eq_nil_of_length_eq_zero (by have := ho; simp only [List.length_nil] at this; omega)
      subst this
      have hk0 : k * ti.size = 0 := by simpa using hl.symm
      rcases Nat.mul_eq_zero.1 hk0 with h9 | h9
      · subst h9
        refine k_copy0 ht hx hy hk hd (h w ?_)
        simpa using hs1
      · refine k_of_value hd (v := .int .i64 k) (w' := w) (fun ρ hρ => ?_) (h w (by simpa using hs1))
        have hf : (Builtin.firstCells 0 k (.slice (some ⟨b', o', none⟩) sn sc)).run P w = .ok #[] w := by
          have := run_loadCells_list (P := P) w ⟨b', o', none⟩ [] (by simp)
          simpa [Builtin.firstCells] using this
        simp [execOp, resolve, invoke, builtin, hρ x _ hx, hρ y _ hy, Builtin.copy_, run_underlying hu, Builtin.lenOf, sizeOf, typeInfo, hti, h9, hk, hf, storeCells, goInt]
    · simp only [Value.slice.injEq, Option.some.injEq, Addr.mk.injEq, and_true, true_and] at hv'
      obtain ⟨rfl, rfl⟩ := hv'
      have hxc : xs.length ≤ cur.size := by
        have : xs.length ≤ cur.toList.length := by rw [← h6, List.length_take]; omega
        simpa using this
      have hst := run_storeCells_at P g o e vs 0 cur w hs2.block (by simp; omega) h1
      simp only [Nat.add_zero] at hst
      have hlo := run_loadCells_list (P := P) w ⟨b', o', none⟩ vs (fun j v hv => by rw [Addr.add_plain]; exact hc.get j v hv)
      refine k_of_value hd (v := .int .i64 k) (w' := w.setRow g (cur.toList.take o ++ vs ++ cur.toList.drop (o + vs.length)).toArray) (fun ρ hρ => ?_) (h _ ?_)
      · simp [execOp, resolve, invoke, builtin, hρ x _ hx, hρ y _ hy, Builtin.copy_, run_underlying hu, Builtin.lenOf, sizeOf, typeInfo, hti, hk, Builtin.firstCells, ← hl, hlo, hst, goInt]
      · refine Sat.own_mk (hs2.set rfl (setRow_heap w g cur _ e _ hs2.block) (fun i hi => setRow_other w g i _ hi)) h3 h4 ?_ ?_
        · simp; omega
        · rw [← h6]
          apply List.ext_getElem?
          intro j
          simp only [List.getElem?_take, List.getElem?_append, List.length_take, List.getElem?_drop, List.length_append, Array.length_toList]
          have e1 : m * ti.size ≤ cur.size := by rw [h5]; exact Nat.mul_le_mul_right _ h3
          have e2 : o + vs.length ≤ m * ti.size := by rw [← hxl]; exact ho
          simp only [Nat.min_eq_left (show o ≤ cur.size by omega), Nat.min_eq_left e1, Nat.min_eq_left (show o ≤ m * ti.size by omega)]
          by_cases hj : j < m * ti.size
          · simp only [hj, if_true]
            split
            · rename_i h9
              split <;> rfl
            · rename_i h9
              rw [if_pos (by omega)]
          · simp only [hj, if_false]
            rw [if_neg (by omega), if_neg (by omega)]
            first | rfl | (rw [if_neg (by omega)]) | skip
end k
end Go.Proofs.Ytlgpdglnfjndhaa.Xe
