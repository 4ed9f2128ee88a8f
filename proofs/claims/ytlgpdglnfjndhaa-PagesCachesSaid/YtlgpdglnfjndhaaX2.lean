/-
  XE, part 2: memory as a list of separate parts ('Sat').
-/
import Derived.Test.YtlgpdglnfjndhaaX1
namespace Go.Proofs.Ytlgpdglnfjndhaa.Xe
open Go

/-- What stands beside the heap: no step of ours turns it. -/
structure Env where
  os : Os
  tape : Nat → Question → Nat
  output : Array (Nat × ByteArray)
  low : Nat
def envOf (w : World) : Env := ⟨w.os, w.tape, w.output, w.drawn⟩
/-- The world stands in E; and so many orders were drawn at least. -/
def EvIn (w : World) (E : Env) : Prop := w.os = E.os ∧ w.tape = E.tape ∧ w.output = E.output ∧ E.low ≤ w.drawn
theorem EvIn.of_eq {w w' : World} {E : Env} (he : envOf w' = envOf w) (e : EvIn w E) : EvIn w' E := by
  simp only [envOf, Env.mk.injEq] at he
  exact ⟨he.1.trans e.1, he.2.1.trans e.2.1, he.2.2.1.trans e.2.2.1, by rw [he.2.2.2]; exact e.2.2.2⟩

/-- A part of a heap: some blocks. -/
abbrev Hp := Nat → Option Obj
/-- What is said of a part. -/
abbrev As := Hp → Prop

def Hp.dj (h g : Hp) : Prop := ∀ b, h b = none ∨ g b = none
def Hp.un (h g : Hp) : Hp := fun b => (h b).or (g b)
def emp : As := fun h => ∀ b, h b = none
def stars : List As → As
  | [] => emp
  | A :: L => fun h => ∃ h1 h2, Hp.dj h1 h2 ∧ h = Hp.un h1 h2 ∧ A h1 ∧ stars L h2
def pt (b : Nat) (o : Obj) : As := fun h => ∀ i, h i = if i = b then some o else none
def ex {α : Type} (A : α → As) : As := fun h => ∃ x, A x h
def pu (p : Prop) (A : As) : As := fun h => p ∧ A h
def hpOf (w : World) : Hp := fun b => w.heap[b]?
/-- The heap g, as it is (and whatever else beside it). -/
def RO (g : Hp) : As := fun h => h = g
/-- The heap of a world. -/
@[reducible] def Old (w : World) : As := RO (hpOf w)
def Hp.le (g h : Hp) : Prop := ∀ b o, g b = some o → h b = some o
/-- A cell of a heap. -/
def Hp.cell (g : Hp) (b i : Nat) : Option Value := match g b with
  | some (.cells c _ _) => c[i]?
  | _ => none
theorem Hp.le_refl (g : Hp) : g.le g := fun _ _ h => h
theorem Hp.le.trans {g h k : Hp} (a : g.le h) (b : h.le k) : g.le k := fun i o h => b i o (a i o h)
theorem Hp.le.cell {g h : Hp} (l : g.le h) {b i : Nat} {v : Value} (hv : g.cell b i = some v) : h.cell b i = some v := by
  unfold Hp.cell at hv ⊢
  cases hg : g b with
  | none => rw [hg] at hv; cases hv
  | some o => rw [l b o hg]; rw [hg] at hv; exact hv
theorem cell_hp (w : World) (b i : Nat) : w.cell? ⟨b, i, none⟩ = (hpOf w).cell b i := rfl

/-- The world has these parts, apart from one another (and maybe more). -/
def Sat (E : Env) (w : World) (L : List As) : Prop := EvIn w E ∧ ∃ h, stars L h ∧ ∀ b o, h b = some o → w.heap[b]? = some o

theorem Hp.un_assoc (a b c : Hp) : Hp.un (Hp.un a b) c = Hp.un a (Hp.un b c) := by funext i; simp [Hp.un, Option.or_assoc]
theorem Hp.dj.symm {a b : Hp} (h : Hp.dj a b) : Hp.dj b a := fun i => (h i).symm
theorem Hp.un_comm {a b : Hp} (h : Hp.dj a b) : Hp.un a b = Hp.un b a := by
  funext i
  rcases h i with h | h <;> simp [Hp.un, h]
theorem Hp.dj_un {a b c : Hp} : Hp.dj a (Hp.un b c) ↔ Hp.dj a b ∧ Hp.dj a c := by
  constructor
  · intro h
    refine ⟨fun i => ?_, fun i => ?_⟩ <;> rcases h i with h | h <;> simp_all [Hp.un]
  · rintro ⟨h1, h2⟩ i
    rcases h1 i with h | h
    · exact .inl h
    · rcases h2 i with h' | h'
      · exact .inl h'
      · exact .inr (by simp [Hp.un, h, h'])
theorem Hp.un_left {a b : Hp} {i : Nat} {o : Obj} (h : a i = some o) : Hp.un a b i = some o := by simp [Hp.un, h]
theorem Hp.un_right {a b : Hp} {i : Nat} {o : Obj} (d : Hp.dj a b) (h : b i = some o) : Hp.un a b i = some o := by
  rcases d i with h' | h'
  · simp [Hp.un, h, h']
  · rw [h] at h'; cases h'

/-- A stands in L; L' is the rest. -/
inductive Pick (A : As) : List As → List As → Prop
  | here (L : List As) : Pick A (A :: L) L
  | there {B : As} {L L' : List As} : Pick A L L' → Pick A (B :: L) (B :: L')

theorem stars_pick {A : As} {L L' : List As} (p : Pick A L L') : ∀ h, stars L h → stars (A :: L') h := by
  induction p with
  | here L => exact fun h hh => hh
  | @there B L L' p ih =>
    rintro h ⟨h1, h2, d, rfl, hB, hL⟩
    obtain ⟨g1, g2, d', rfl, hA, hL'⟩ := ih h2 hL
    rw [Hp.dj_un] at d
    refine ⟨g1, Hp.un h1 g2, Hp.dj_un.2 ⟨d.1.symm, d'⟩, ?_, hA, h1, g2, d.2, rfl, hB, hL'⟩
    rw [← Hp.un_assoc, ← Hp.un_assoc, Hp.un_comm d.1]

/-- The parts of T stand in L, the rest of L aside. -/
inductive Sub : List As → List As → Prop
  | refl (L : List As) : Sub L L
  | nil (L : List As) : Sub [] L
  | cons {A : As} {T L L' : List As} : Pick A L L' → Sub T L' → Sub (A :: T) L
  | drop {A : As} {T L : List As} : Sub T L → Sub T (A :: L)

theorem Pick.at0 {A : As} {L : List As} : Pick A (A :: L) (L) := .here _
theorem Pick.at1 {A B0 : As} {L : List As} : Pick A (B0 :: A :: L) (B0 :: L) := .there (.here _)
theorem Pick.at2 {A B0 B1 : As} {L : List As} : Pick A (B0 :: B1 :: A :: L) (B0 :: B1 :: L) := .there (.there (.here _))
theorem Pick.at3 {A B0 B1 B2 : As} {L : List As} : Pick A (B0 :: B1 :: B2 :: A :: L) (B0 :: B1 :: B2 :: L) := .there (.there (.there (.here _)))
theorem Pick.at4 {A B0 B1 B2 B3 : As} {L : List As} : Pick A (B0 :: B1 :: B2 :: B3 :: A :: L) (B0 :: B1 :: B2 :: B3 :: L) := .there (.there (.there (.there (.here _))))
section sat
variable {E : Env} {w : World} {L L' : List As} {A B : As}

theorem Sat.pick (h : Sat E w L) (p : Pick A L L') : Sat E w (A :: L') :=
  let ⟨e, g, hg, hs⟩ := h
  ⟨e, g, stars_pick p g hg, hs⟩
theorem Sat.drop (h : Sat E w (A :: L)) : Sat E w L :=
  let ⟨e, _, ⟨h1, h2, d, hu, _, hL⟩, hs⟩ := h
  ⟨e, h2, hL, fun b o hb => hs b o (by rw [hu]; exact Hp.un_right d hb)⟩
theorem Sat.imp (h : Sat E w (A :: L)) (i : ∀ h, A h → B h) : Sat E w (B :: L) :=
  let ⟨e, g, ⟨h1, h2, d, hu, hA, hL⟩, hs⟩ := h
  ⟨e, g, ⟨h1, h2, d, hu, i _ hA, hL⟩, hs⟩
theorem Sat.ex {α : Type} {A : α → As} (h : Sat E w (ex A :: L)) : ∃ x, Sat E w (A x :: L) :=
  let ⟨e, g, ⟨h1, h2, d, hu, ⟨x, hA⟩, hL⟩, hs⟩ := h
  ⟨x, e, g, ⟨h1, h2, d, hu, hA, hL⟩, hs⟩
theorem Sat.mk_ex {α : Type} {A : α → As} (x : α) (h : Sat E w (A x :: L)) : Sat E w (Xe.ex A :: L) := h.imp fun _ hA => ⟨x, hA⟩
theorem Sat.pu {p : Prop} (h : Sat E w (pu p A :: L)) : p ∧ Sat E w (A :: L) :=
  let ⟨e, g, ⟨h1, h2, d, hu, hA, hL⟩, hs⟩ := h
  ⟨hA.1, e, g, ⟨h1, h2, d, hu, hA.2, hL⟩, hs⟩
theorem Sat.mk_pu {p : Prop} (hp : p) (h : Sat E w (A :: L)) : Sat E w (Xe.pu p A :: L) := h.imp fun _ hA => ⟨hp, hA⟩

theorem stars_append (X L : List As) : ∀ h, stars (X ++ L) h ↔ ∃ h1 h2, Hp.dj h1 h2 ∧ h = Hp.un h1 h2 ∧ stars X h1 ∧ stars L h2 := by
  induction X with
  | nil =>
    intro h
    refine ⟨fun hh => ⟨fun _ => none, h, fun _ => .inl rfl, by funext i; simp [Hp.un], fun _ => rfl, hh⟩, ?_⟩
    rintro ⟨h1, h2, d, rfl, he, hL⟩
    have : Hp.un h1 h2 = h2 := by funext i; simp [Hp.un, he i]
    rw [List.nil_append, this]; exact hL
  | cons A X ih =>
    intro h
    constructor
    · rintro ⟨h1, h2, d, rfl, hA, hX⟩
      obtain ⟨g1, g2, d', rfl, hX, hL⟩ := (ih h2).1 hX
      rw [Hp.dj_un] at d
      exact ⟨Hp.un h1 g1, g2, (Hp.dj_un.2 ⟨d.2.symm, d'.symm⟩).symm, (Hp.un_assoc ..).symm, ⟨h1, g1, d.1, rfl, hA, hX⟩, hL⟩
    · rintro ⟨h1, h2, d, rfl, ⟨g1, g2, d', rfl, hA, hX⟩, hL⟩
      have d2 := Hp.dj_un.1 d.symm
      exact ⟨g1, Hp.un g2 h2, Hp.dj_un.2 ⟨d', d2.1.symm⟩, Hp.un_assoc .., hA, (ih _).2 ⟨g2, h2, d2.2.symm, rfl, hX, hL⟩⟩

theorem stars_sub {T L : List As} (s : Sub T L) : ∀ h, stars L h → ∃ h1 h2, Hp.dj h1 h2 ∧ h = Hp.un h1 h2 ∧ stars T h1 := by
  induction s with
  | refl L => exact fun h hh => ⟨h, fun _ => none, fun _ => .inr rfl, by funext i; simp [Hp.un], hh⟩
  | nil L => exact fun h _ => ⟨fun _ => none, h, fun _ => .inl rfl, by funext i; simp [Hp.un], fun _ => rfl⟩
  | @drop A T L s ih =>
    rintro h ⟨g1, g2, d, rfl, hA, hL⟩
    obtain ⟨k1, k2, d', rfl, hT⟩ := ih g2 hL
    rw [Hp.dj_un] at d
    exact ⟨k1, Hp.un g1 k2, Hp.dj_un.2 ⟨d.1.symm, d'⟩, by rw [← Hp.un_assoc, ← Hp.un_assoc, Hp.un_comm d.1], hT⟩
  | @cons A T L L' p s ih =>
    intro h hh
    obtain ⟨g1, g2, d, rfl, hA, hL'⟩ := stars_pick p h hh
    obtain ⟨k1, k2, d', rfl, hT⟩ := ih g2 hL'
    rw [Hp.dj_un] at d
    exact ⟨Hp.un g1 k1, k2, (Hp.dj_un.2 ⟨d.2.symm, d'.symm⟩).symm, (Hp.un_assoc ..).symm, g1, k1, d.1, rfl, hA, hT⟩
theorem Sat.sub {T : List As} (h : Sat E w L) (s : Sub T L) : Sat E w T :=
  let ⟨e, g, hg, hs⟩ := h
  let ⟨h1, _, _, hu, hT⟩ := stars_sub s g hg
  ⟨e, h1, hT, fun b o hb => hs b o (by rw [hu]; exact Hp.un_left hb)⟩

/-- A part that is several parts. -/
theorem Sat.flat {X : List As} (h : Sat E w (stars X :: L)) : Sat E w (X ++ L) :=
  let ⟨e, g, hg, hs⟩ := h
  ⟨e, g, (stars_append X L g).2 hg, hs⟩
theorem Sat.unflat {X : List As} (h : Sat E w (X ++ L)) : Sat E w (stars X :: L) :=
  let ⟨e, g, hg, hs⟩ := h
  ⟨e, g, (stars_append X L g).1 hg, hs⟩

theorem Sat.block {b : Nat} {o : Obj} (h : Sat E w (pt b o :: L)) : w.heap[b]? = some o :=
  let ⟨_, g, ⟨h1, h2, _, hu, hA, _⟩, hs⟩ := h
  hs b o (by rw [hu]; exact Hp.un_left (by rw [hA b, if_pos rfl]))
theorem Sat.cell {b : Nat} {cs : Array Value} {t : TypeId} {fr : Nat × Nat} (h : Sat E w (pt b (.cells cs t fr) :: L)) (i : Nat) : w.cell? ⟨b, i, none⟩ = cs[i]? :=
  cell_of_row w b i cs t fr h.block
theorem Sat.frozen {b : Nat} {cs : Array Value} {t : TypeId} (h : Sat E w (pt b (.cells cs t (0, 0)) :: L)) (i : Nat) : w.frozen? ⟨b, i, none⟩ = false :=
  frozen_of_row w b i cs t h.block

/-- The block b is written. -/
theorem Sat.set {w' : World} {b : Nat} {o o' : Obj} (h : Sat E w (pt b o :: L)) (he : envOf w' = envOf w) (hb : w'.heap[b]? = some o')
    (hn : ∀ i, i ≠ b → w'.heap[i]? = w.heap[i]?) : Sat E w' (pt b o' :: L) := by
  obtain ⟨e, g, ⟨h1, h2, d, rfl, hA, hL⟩, hs⟩ := h
  have d' : Hp.dj (fun i => if i = b then some o' else none) h2 := fun i => by
    by_cases hi : i = b
    · subst hi
      refine .inr ((d i).resolve_left ?_)
      rw [hA i, if_pos rfl]; simp
    · exact .inl (if_neg hi)
  refine ⟨e.of_eq he, _, ⟨_, h2, d', rfl, fun _ => rfl, hL⟩, fun i p hp => ?_⟩
  by_cases hi : i = b
  · subst hi
    have : p = o' := by simpa [Hp.un] using hp.symm
    rw [this]; exact hb
  · rw [hn i hi]
    refine hs i p (Hp.un_right d ?_)
    simpa [Hp.un, hi] using hp

/-- A new block. -/
theorem Sat.alloc {o : Obj} (h : Sat E w L) : Sat E (w.alloc o) (pt w.heap.size o :: L) := by
  obtain ⟨e, g, hL, hs⟩ := h
  have d' : Hp.dj (fun i => if i = w.heap.size then some o else none) g := fun i => by
    by_cases hi : i = w.heap.size
    · subst hi
      refine .inr ?_
      cases hg : g w.heap.size with
      | none => rfl
      | some p => have := hs _ _ hg; simp at this
    · exact .inl (if_neg hi)
  refine ⟨e, _, ⟨_, g, d', rfl, fun _ => rfl, hL⟩, fun i p hp => ?_⟩
  by_cases hi : i = w.heap.size
  · subst hi
    have : p = o := by simpa [Hp.un] using hp.symm
    rw [this]; exact heap_alloc_new w o
  · have hg : g i = some p := by simpa [Hp.un, hi] using hp
    have := hs i p hg
    rw [heap_alloc_old w o i (by rcases Nat.lt_or_ge i w.heap.size with h | h; exact h; rw [Array.getElem?_eq_none h] at this; cases this)]
    exact this

theorem Sat.drew (h : Sat E w L) : Sat E w.drew L := ⟨⟨h.1.1, h.1.2.1, h.1.2.2.1, Nat.le_succ_of_le h.1.2.2.2⟩, h.2⟩

theorem Sat.env (h : Sat E w L) : EvIn w E := h.1
theorem Sat.old (w : World) : Sat (envOf w) w [Old w] :=
  ⟨⟨rfl, rfl, rfl, Nat.le_refl _⟩, hpOf w, ⟨hpOf w, fun _ => none, fun _ => .inr rfl, by funext i; simp [Hp.un], rfl, fun _ => rfl⟩, fun _ _ h => h⟩
theorem Sat.old_block {w0 : World} (h : Sat E w (Old w0 :: L)) {b : Nat} (hb : b < w0.heap.size) : w.heap[b]? = w0.heap[b]? := by
  obtain ⟨_, g, ⟨h1, h2, _, rfl, hA, _⟩, hs⟩ := h
  have e : w0.heap[b]? = some w0.heap[b] := Array.getElem?_eq_getElem hb
  rw [e]
  exact hs b _ (Hp.un_left (by rw [hA]; exact e))
theorem Sat.old_cell {w0 : World} (h : Sat E w (Old w0 :: L)) {a : Addr} {v : Value} (ha : w0.cell? a = some v) : w.cell? a = some v := by
  rw [← ha]
  exact World.cell?_of_block (w := w0) (h.old_block (block_lt_of_cell ha))

theorem Sat.ro_cell {g : Hp} (h : Sat E w (RO g :: L)) {b i : Nat} {v : Value} (hv : g.cell b i = some v) : w.cell? ⟨b, i, none⟩ = some v := by
  obtain ⟨_, _, ⟨h1, h2, _, rfl, hA, _⟩, hs⟩ := h
  have hA : h1 = g := hA
  subst hA
  rw [cell_hp]
  refine Hp.le.cell (g := h1) (fun b o hb => ?_) hv
  exact hs b o (Hp.un_left hb)
/-- A part that is written no more is counted to what stands. -/
theorem Sat.freeze {g : Hp} {A : As} (h : Sat E w (RO g :: A :: L)) : ∃ g' a : Hp, g.le g' ∧ a.le g' ∧ A a ∧ Sat E w (RO g' :: L) := by
  obtain ⟨e, _, ⟨h1, h2, d, rfl, hg, ⟨h3, h4, d2, rfl, hA, hL⟩⟩, hs⟩ := h
  have hg : h1 = g := hg
  subst hg
  have d' := Hp.dj_un.1 d
  refine ⟨Hp.un h1 h3, h3, fun b o h => Hp.un_left h, fun b o h => Hp.un_right d'.1 h, hA, e, _, ⟨Hp.un h1 h3, h4, (Hp.dj_un.2 ⟨d'.2.symm, d2.symm⟩).symm, (Hp.un_assoc ..).symm, rfl, hL⟩, hs⟩
/-- Less is said to stand. -/
theorem Sat.shrink {g g' : Hp} (h : Sat E w (RO g' :: L)) (l : g.le g') : Sat E w (RO g :: L) := by
  obtain ⟨e, _, ⟨h1, h2, d, rfl, hg, hL⟩, hs⟩ := h
  have hg : h1 = g' := hg
  subst hg
  refine ⟨e, _, ⟨g, h2, fun b => ?_, rfl, rfl, hL⟩, fun b o hb => hs b o ?_⟩
  · rcases d b with h | h
    · refine .inl ?_
      cases hg : g b with
      | none => rfl
      | some o => rw [l b o hg] at h; cases h
    · exact .inr h
  · cases hg : g b with
    | some p =>
      rw [Hp.un_left hg] at hb
      cases hb
      exact Hp.un_left (l b o hg)
    | none =>
      have : h2 b = some o := by simpa [Hp.un, hg] using hb
      exact Hp.un_right d this

/-- What a call that began in w has left: the old heap and B beside it; so whatever w was known to have stands beside B. -/
theorem Sat.ext {w' : World} {B : List As} (h : Sat E w L) (h' : Sat E w' (Old w :: B)) : Sat E w' (L ++ B) := by
  obtain ⟨e, g, hL, hs⟩ := h
  obtain ⟨e', _, ⟨h1, h2, d, rfl, hA, hB⟩, hs'⟩ := h'
  subst hA
  refine ⟨e', Hp.un g h2, (stars_append L B _).2 ⟨g, h2, fun i => ?_, rfl, hL, hB⟩, fun i p hp => ?_⟩
  · rcases d i with h | h
    · refine .inl ?_
      cases hg : g i with
      | none => rfl
      | some p => have := hs i p hg; simp only [hpOf] at h; rw [h] at this; cases this
    · exact .inr h
  · cases hg : g i with
    | some q =>
      rw [Hp.un_left hg] at hp; cases hp
      exact hs' i p (Hp.un_left (hs i p hg))
    | none => exact hs' i p (Hp.un_right d (by simpa [Hp.un, hg] using hp))
end sat

/-! shorter names for long rows of steps -/
theorem xH {A : As} {L : List As} : Pick A (A :: L) L := Pick.here L
theorem xT {A B : As} {L L' : List As} (h : Pick A L L') : Pick A (B :: L) (B :: L') := Pick.there h
theorem Sat.xP {E : Env} {w : World} {A : As} {L L' : List As} (h : Sat E w L) (p : Pick A L L' := by (repeat (first | with_reducible exact Pick.here _ | apply Pick.there)); first | done | fail) : Sat E w (A :: L') := h.pick p
theorem Sat.xQ {E : Env} {w : World} {T L : List As} (h : Sat E w L) (s : Sub T L := by (repeat (first | with_reducible exact Sub.refl _ | exact Sub.nil _ | (apply Sub.cons; focus ((repeat (first | with_reducible exact Pick.here _ | apply Pick.there)); (first | done | fail))) | with_reducible apply Sub.drop)); first | done | fail) : Sat E w T := h.sub s
end Go.Proofs.Ytlgpdglnfjndhaa.Xe
