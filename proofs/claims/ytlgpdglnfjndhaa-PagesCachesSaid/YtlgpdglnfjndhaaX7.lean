/-
  XE, part 7: rows of parts, slices cut in general, bytes turned into a string.
-/
import Derived.Test.YtlgpdglnfjndhaaX6
import Derived.Laws.IdiomStrings
namespace Go.Proofs.Ytlgpdglnfjndhaa.Xe
open Go Go.RowKit Go.Lib

/-! ### A part for each pair of two rows -/
def eachOf {α β : Type} (A : α → β → As) : List α → List β → As
  | [], [] => emp
  | x :: xs, y :: ys => stars [A x y, eachOf A xs ys]
  | _, _ => fun _ => False

section each
variable {α β : Type} {A : α → β → As} {E : Env} {w : World}

theorem Sat.fls {L : List As} (h : Sat E w ((fun _ => False) :: L)) : False := by
  obtain ⟨_, _, ⟨_, _, _, _, hA, _⟩, _⟩ := h
  exact hA
theorem Sat.each_cons {x : α} {y : β} {xs : List α} {ys : List β} {L : List As} : Sat E w (eachOf A (x :: xs) (y :: ys) :: L) ↔ Sat E w (A x y :: eachOf A xs ys :: L) :=
  ⟨fun h => h.flat, fun h => Sat.unflat (X := [A x y, eachOf A xs ys]) h⟩
theorem Sat.each_nil {L : List As} (h : Sat E w L) : Sat E w (eachOf A [] [] :: L) := h.emp
theorem Sat.each_len : ∀ {xs : List α} {ys : List β} {L : List As}, Sat E w (eachOf A xs ys :: L) → xs.length = ys.length
  | [], [], _, _ => rfl
  | [], _ :: _, _, h => h.fls.elim
  | _ :: _, [], _, h => h.fls.elim
  | x :: xs, y :: ys, L, h => by
    have := (each_cons.1 h).drop.each_len
    simp [this]
/-- The part of place i is taken out, an empty one left in its stead. -/
theorem Sat.each_take {x0 x : α} {y0 y : β} (h0 : ∀ h, Xe.emp h → A x0 y0 h) : ∀ {xs : List α} {ys : List β} {L : List As} (i : Nat), Sat E w (eachOf A xs ys :: L) → xs[i]? = some x → ys[i]? = some y →
    Sat E w (A x y :: eachOf A (xs.set i x0) (ys.set i y0) :: L)
  | [], _, _, _, _, hx, _ => by simp at hx
  | _ :: _, [], _, _, h, _, _ => h.fls.elim
  | x1 :: xs, y1 :: ys, L, 0, h, hx, hy => by
    simp only [List.getElem?_cons_zero, Option.some.injEq] at hx hy
    subst hx; subst hy
    have h4 : Sat E w (A x0 y0 :: eachOf A xs ys :: A x1 y1 :: L) := (((each_cons.1 h).emp).imp h0).sub (.cons .at0 (.cons .at1 (.cons .at0 (.refl _))))
    exact (each_cons.2 h4).pick .at1
  | x1 :: xs, y1 :: ys, L, i + 1, h, hx, hy => by
    simp only [List.getElem?_cons_succ] at hx hy
    have h1 : Sat E w (eachOf A xs ys :: A x1 y1 :: L) := (each_cons.1 h).pick .at1
    have h2 := Sat.each_take h0 i h1 hx hy
    have h3 : Sat E w (A x1 y1 :: eachOf A (xs.set i x0) (ys.set i y0) :: A x y :: L) := h2.sub (.cons .at2 (.cons .at1 (.cons .at0 (.refl _))))
    exact (each_cons.2 h3).pick .at1
/-- A part is put into place i; what stood there is let go. -/
theorem Sat.each_put {x0 x : α} {y0 y : β} : ∀ {xs : List α} {ys : List β} {L : List As} (i : Nat), Sat E w (A x y :: eachOf A (xs.set i x0) (ys.set i y0) :: L) →
    Sat E w (eachOf A (xs.set i x) (ys.set i y) :: L)
  | [], [], _, _, h => h.drop
  | [], _ :: _, _, 0, h => h.drop.fls.elim
  | [], _ :: _, _, _ + 1, h => h.drop.fls.elim
  | _ :: _, [], _, 0, h => h.drop.fls.elim
  | _ :: _, [], _, _ + 1, h => h.drop.fls.elim
  | x1 :: xs, y1 :: ys, L, 0, h => by
    have h1 : Sat E w (eachOf A (x0 :: xs) (y0 :: ys) :: A x y :: L) := h.pick .at1
    have h2 := each_cons.1 h1
    exact each_cons.2 (h2.sub (.cons .at2 (.cons .at1 (.drop (.refl _)))))
  | x1 :: xs, y1 :: ys, L, i + 1, h => by
    have h1 : Sat E w (eachOf A (x1 :: xs.set i x0) (y1 :: ys.set i y0) :: A x y :: L) := h.pick .at1
    have h2 : Sat E w (A x y :: eachOf A (xs.set i x0) (ys.set i y0) :: A x1 y1 :: L) := (each_cons.1 h1).sub (.cons .at2 (.cons .at1 (.cons .at0 (.refl _))))
    have h3 := Sat.each_put i h2
    exact each_cons.2 (h3.sub (.cons .at1 (.cons .at0 (.refl _))))
theorem Sat.each_rep {x0 : α} {y0 : β} (h0 : ∀ h, Xe.emp h → A x0 y0 h) {L : List As} (h : Sat E w L) : ∀ n : Nat, Sat E w (eachOf A (List.replicate n x0) (List.replicate n y0) :: L)
  | 0 => h.each_nil
  | n + 1 => each_cons.2 ((Sat.each_rep h0 h n).emp.imp h0)
/-- One part more, at the end. -/
theorem Sat.each_snoc {x : α} {y : β} : ∀ {xs : List α} {ys : List β} {L : List As}, Sat E w (A x y :: eachOf A xs ys :: L) → Sat E w (eachOf A (xs ++ [x]) (ys ++ [y]) :: L)
  | [], [], L, h => (each_cons (A := A) (xs := []) (ys := [])).2 h
  | [], _ :: _, _, h => h.drop.fls.elim
  | _ :: _, [], _, h => h.drop.fls.elim
  | x1 :: xs, y1 :: ys, L, h => by
    have h1 : Sat E w (eachOf A (x1 :: xs) (y1 :: ys) :: A x y :: L) := h.pick .at1
    have h2 : Sat E w (A x y :: eachOf A xs ys :: A x1 y1 :: L) := (each_cons.1 h1).sub (.cons .at2 (.cons .at1 (.cons .at0 (.refl _))))
    have h3 := Sat.each_snoc h2
    exact each_cons.2 (h3.sub (.cons .at1 (.cons .at0 (.refl _))))
end each

theorem own_none {e sz : Nat} {xs : List Value} (hx : xs = []) : ∀ h, emp h → OwnSl e sz (.slice none 0 0) 0 xs h := fun _ he => .inr ⟨by simp [hx], .inl ⟨rfl, rfl, he⟩⟩
/-- x[:j] of a slice of the call's own is such a slice again. -/
theorem Sat.own_take {E : Env} {w : World} {L : List As} {e sz n c j : Nat} {a : Option Addr} {xs : List Value} (h : Sat E w (OwnSl e sz (.slice a n c) n xs :: L)) (hj : j ≤ n) :
    Sat E w (OwnSl e sz (.slice a j c) j (xs.take (j * sz)) :: L) := by
  obtain ⟨hl, ⟨va, hv, hn, hx, hs⟩ | ⟨g, cap, cur, hv, hs, h1, h2, h3, h4⟩⟩ := h.own_open
  · simp only [Value.slice.injEq] at hv
    obtain ⟨rfl, _, rfl⟩ := hv
    have : j = 0 := by omega
    subst this; subst hx
    simpa using hs.own_void e sz a
  · simp only [Value.slice.injEq] at hv
    obtain ⟨rfl, _, rfl⟩ := hv
    refine hs.own_mk (by omega) h2 h3 ?_
    rw [← h4, List.take_take]
    congr 1
    have := Nat.mul_le_mul_right sz hj
    omega

/-! ### Bytes -/
/-- The n bytes from a on. -/
def BytesIn (w : World) (a : Option Addr) (n : Nat) (s : ByteArray) : Prop := n = s.size ∧ (n = 0 ∨ ∃ b o, a = some ⟨b, o, none⟩ ∧ CellsAt w b o (strCells s))
def u8B (P : Program) (e : Nat) : Bool := match P.underlying e with | some (.int .u8) => true | _ => false
theorem u8B_spec {P : Program} {e : Nat} (h : u8B P e = true) : P.underlying e = some (.int .u8) := by
  unfold u8B at h
  split at h <;> simp_all

theorem strCells_extract (s : ByteArray) (i j : Nat) (_ : i ≤ j) (_ : j ≤ s.size) : strCells (s.extract i j) = ((strCells s).drop i).take (j - i) := by
  obtain ⟨⟨l⟩⟩ := s
  have e : (ByteArray.extract ⟨⟨l⟩⟩ i j).data = (⟨l⟩ : Array UInt8).extract i j := by
    simp [ByteArray.extract, ByteArray.copySlice]
  simp only [strCells, e]
  simp [List.map_drop, List.map_take, Array.toList_extract]
theorem strCells_append (s t : ByteArray) : strCells (s ++ t) = strCells s ++ strCells t := by
  simp [strCells]
theorem strCells_take (s : ByteArray) (j : Nat) (h : j ≤ s.size) : (strCells s).take j = strCells (s.extract 0 j) := by
  rw [strCells_extract s 0 j (Nat.zero_le _) h]; simp

theorem CellsAt.slice {w : World} {b : Nat} : ∀ {vs : List Value} {o i n : Nat}, CellsAt w b o vs → CellsAt w b (o + i) ((vs.drop i).take n)
  | [], _, _, _, _ => by simp [CellsAt]
  | v :: vs, o, 0, 0, _ => by simp [CellsAt]
  | v :: vs, o, 0, n + 1, h => by
    simp only [List.drop_zero, List.take_succ_cons, Nat.add_zero]
    have := CellsAt.slice (i := 0) (n := n) h.2
    simp only [Nat.add_zero, List.drop_zero] at this
    exact ⟨h.1, this⟩
  | v :: vs, o, i + 1, n, h => by
    have := CellsAt.slice (i := i) (n := n) h.2
    simpa [Nat.add_assoc, Nat.add_comm 1 i] using this

/-- A stretch of a row of bytes of the call's own. -/
theorem own_bytes {E : Env} {w : World} {L L' : List As} {e c i j : Nat} {a : Option Addr} {s : ByteArray} (hs : Sat E w L) (hp : Pick (OwnSl e 1 (.slice a s.size c) s.size (strCells s)) L L') (h1 : i ≤ j) (h2 : j ≤ s.size) :
    BytesIn w (if c = i then a else a.map (·.add (i * 1))) (j - i) (s.extract i j) := by
  have hp := hs.pick hp
  have hsz : (s.extract i j).size = j - i := by rw [ByteArray.size_extract, Nat.min_eq_left h2]
  refine ⟨hsz.symm, ?_⟩
  by_cases h0 : j - i = 0
  · exact .inl h0
  right
  obtain ⟨a', c', hv, hle, _, ha⟩ := hp.own_shape
  simp only [Value.slice.injEq] at hv
  obtain ⟨rfl, _, rfl⟩ := hv
  obtain ⟨g, rfl⟩ := ha (by omega)
  rw [if_neg (by omega)]
  refine ⟨g, i, by simp [Addr.add_plain], ?_⟩
  rw [strCells_extract s i j h1 h2]
  have hc : CellsAt w g 0 (strCells s) := own_cells hp .at0 (by
    have : ∀ (l m : List Value), SubAt (l ++ m) l.length m := by
      intro l m
      induction m generalizing l with
      | nil => exact trivial
      | cons v vs ih =>
        refine ⟨by simp, ?_⟩
        have := ih (l ++ [v])
        simpa using this
    exact this [] _)
  have := CellsAt.slice (i := i) (n := j - i) hc
  simpa using this
/-- All of it. -/
theorem own_bytes_all {E : Env} {w : World} {L L' : List As} {e c : Nat} {a : Option Addr} {s : ByteArray} (hs : Sat E w L) (hp : Pick (OwnSl e 1 (.slice a s.size c) s.size (strCells s)) L L') :
    BytesIn w a s.size s := by
  have hq := hs.pick hp
  refine ⟨rfl, ?_⟩
  by_cases h0 : s.size = 0
  · exact .inl h0
  right
  obtain ⟨a', c', hv, hle, _, ha⟩ := hq.own_shape
  simp only [Value.slice.injEq] at hv
  obtain ⟨rfl, _, rfl⟩ := hv
  obtain ⟨g, rfl⟩ := ha (by omega)
  refine ⟨g, 0, rfl, own_cells hq .at0 ?_⟩
  have : ∀ (l m : List Value), SubAt (l ++ m) l.length m := by
    intro l m
    induction m generalizing l with
    | nil => exact trivial
    | cons v vs ih =>
      refine ⟨by simp, ?_⟩
      have := ih (l ++ [v])
      simpa using this
  exact this [] _

section v
variable {P : Program} {F : Fr} {S : World → Prop} {d : Option Nat} {ty : TypeId} {pos : String} {af : Array Edge} {gd : Option (Nat × Bool)}
  {x y z : Operand} {t t' : TypeId}
/-- x[i:j] of any slice. -/
theorem v_slice {e sz : Nat} {a : Option Addr} {len cap : Nat} {k k' : IntKind} {i j : Int} (ht : slB P t e sz = true) (h : opd F x = some (.slice a len cap)) (hy : opd F y = some (.int k i)) (hz : opd F z = some (.int k' j))
    (h1 : 0 ≤ i) (h2 : i ≤ j) (h3 : j ≤ cap) : OpV P F S ⟨d, .slice t x (some y) (some z) none, ty, pos, af, gd⟩ (.slice (if cap = i.toNat then a else a.map (·.add (i.toNat * sz))) (j.toNat - i.toNat) (cap - i.toNat)) := fun ρ w hρ _ => by
  obtain ⟨hu, ti, hti, rfl⟩ := slB_spec ht
  have hj : 0 ≤ j ∧ j ≤ (cap : Int) := ⟨by omega, h3⟩
  have hi : 0 ≤ i ∧ i ≤ ((j.toNat : Nat) : Int) := ⟨h1, by omega⟩
  simp [execOp, hρ x _ h, hρ y _ hy, hρ z _ hz, Instr.sliceAt, underlying, hu, Instr.slice, Instr.sliceBounds, Instr.sliceBound, asIntOf, hj, sizeOf, typeInfo, hti, hi]
  intro h'
  exact absurd h' (by omega)
/-- string(b) of a row of bytes. -/
theorem v_convBytes {e n c : Nat} {a : Option Addr} {s : ByteArray} (ht : slB P t e 1 = true) (he : u8B P e = true) (hd : strB P t' = true) (h : opd F x = some (.slice a n c)) :
    OpV P F (fun w => BytesIn w a n s) ⟨d, .convert t t' x, ty, pos, af, gd⟩ (.string s) := fun ρ w hρ hS => by
  obtain ⟨hu, _⟩ := slB_spec ht
  obtain ⟨rfl, hS⟩ := hS
  have key : (convert t t' (.slice a s.size c)).run P w = .ok (.string s) w := by
    by_cases h0 : s.size = 0
    · rw [h0, run_convert_bytes_string w t t' e a 0 c hu (u8B_spec he) (strB_spec hd)]
      have : s = ByteArray.empty := by
        obtain ⟨⟨l⟩⟩ := s
        have : l = [] := by simpa [ByteArray.size] using h0
        subst this; rfl
      subst this
      cases a with
      | none => simp [Conv.bytesToString]
      | some a =>
        have h9 := run_loadCells_list (P := P) w a [] (by simp)
        exact run_bytesToString (P := P) w a 0 c [] (by simpa using h9)
    · rcases hS with h1 | ⟨b, o, rfl, hc⟩
      · exact absurd h1 h0
      · have := run_convert_bytes_back (P := P) w t t' e ⟨b, o, none⟩ c s.data.toList hu (u8B_spec he) (strB_spec hd) (fun j hj => by
          rw [Addr.add_plain]
          exact hc.get j _ (by simp [strCells, List.getElem?_map, List.getElem?_eq_getElem hj]))
        have hl : s.data.toList.length = s.size := Array.length_toList
        rw [hl] at this
        rw [this]
  simp [execOp, hρ x _ h, key]
end v

/-- A region whose order is drawn, where not all parts stay as they are. -/
theorem g_drawS {P : Program} {f : FuncId} {R : Ending → World → Prop} {k : List Item} {ops : Array Oper} {n : NF} {F : Fr} {w : World} {id m : Nat} {E : Env} {L L' : List As} (ds : List Nat) (hm : P.follows .mixedOrders = true) (hs : ops.size = m) (_ : ∀ w, Sat E w L → Sat E w L') (hw : Sat E w L)
    (h : ∀ w, Sat E w L → RA P ops n (Qk P f n.rd R k) (fun w => Sat E w L') ds m (Array.replicate m false) F w) (hrd : n.rd = none := by rfl) : G P f R n (.code (.region id ops true) :: k) F w := fun a ha => by
  subst hs
  exact run_wpN hrd (wp_region_any hm (wpAny_of_last _ _ _ _ (h w.drew hw.drew a ha)))

end Go.Proofs.Ytlgpdglnfjndhaa.Xe
