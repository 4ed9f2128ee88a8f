/-
  XE, part 5: what the arguments of a statement hold, read in the world in which it is called; and what a call leaves.
-/
import Derived.Test.YtlgpdglnfjndhaaX4
import Derived.ProofKit
import Derived.Deep.Slices
import Derived.SizedLaws
import Derived.Below
import Derived.OpenShut
import Derived.ShutString
namespace Go.Proofs.Ytlgpdglnfjndhaa.Xe
open Go Go.RowKit

/-- Cells of a heap tell a thing. -/
abbrev Rd (α : Type) := Hp → List Value → α → Prop
/-- What is told stays told. -/
def Rd.Mono {α : Type} (R : Rd α) : Prop := ∀ {g h : Hp}, g.le h → ∀ {cs : List Value} {x : α}, R g cs x → R h cs x

def rdInt (k : IntKind) : Rd Int := fun _ cs x => cs = [.int k x] ∧ (Lit.int k x).wf = true
def rdBool : Rd Bool := fun _ cs x => cs = [.bool x]
def rdStr : Rd ByteArray := fun _ cs x => cs = [.string x] ∧ x.size ≤ reachBytes
/-- A slice whose elements, of so many bytes and cells each, are told by R. -/
def rdSl {α : Type} (bytes sz : Nat) (R : Rd α) : Rd (List α) := fun g cs xs =>
  (∃ a, cs = [.slice a 0 0] ∧ xs = []) ∨
  ∃ b o cap, cs = [.slice (some ⟨b, o, none⟩) xs.length cap] ∧ xs.length ≤ cap ∧ xs.length * bytes ≤ reachBytes ∧ cap ≤ maxLen ∧
    ∀ i x, xs[i]? = some x → ∃ ecs, HAt g b (o + i * sz) ecs ∧ ecs.length = sz ∧ R g ecs x
theorem mono_int {k : IntKind} : Rd.Mono (rdInt k) := fun _ _ _ h => h
theorem mono_bool : Rd.Mono rdBool := fun _ _ _ h => h
theorem mono_str : Rd.Mono rdStr := fun _ _ _ h => h
theorem mono_sl {α : Type} {bytes sz : Nat} {R : Rd α} (hR : R.Mono) : Rd.Mono (rdSl bytes sz R) := fun l cs xs h => by
  rcases h with h | ⟨b, o, cap, h1, h2, h3, h4, h5⟩
  · exact .inl h
  · refine .inr ⟨b, o, cap, h1, h2, h3, h4, fun i x hx => ?_⟩
    obtain ⟨ecs, h6, h7, h8⟩ := h5 i x hx
    exact ⟨ecs, h6.mono l, h7, hR l h8⟩

section
variable {H : Type} {enc : TypeId × Value → H} {P : Program} {w : World}

/-- What is read of a type is told by R. -/
def Reads (enc : TypeId × Value → H) (P : Program) (t : TypeId) {α : Type} (R : Rd α) : Prop :=
  ∀ (w : World) (fuel : Nat) (cs : List Value) (d : DataW H) (ps : List MemPlace), DataW.trod enc P w 0 (fun _ => true) true fuel t cs = some (d, ps) →
    (d.weights P t).all (· ≤ reachBytes) = true → ∃ x, R (hpOf w) cs x

theorem reads_int {t : TypeId} {k : IntKind} (ht : intB P t k = true) : Reads enc P t (rdInt k) := fun w fuel cs d ps h _ => by
  obtain ⟨n, rfl, _, hw⟩ := DataW.trod_int (intB_spec ht) h
  exact ⟨n, rfl, hw⟩
theorem reads_bool {t : TypeId} (ht : boolB P t = true) : Reads enc P t rdBool := fun w fuel cs d ps h _ => by
  obtain ⟨b, rfl, _⟩ := DataW.trod_bool (boolB_spec ht) h
  exact ⟨b, rfl⟩
theorem reads_str {t : TypeId} (ht : strB P t = true) : Reads enc P t rdStr := fun w fuel cs d ps h hz => by
  obtain ⟨s, rfl, hx, _⟩ := DataW.trod_string (strB_spec ht) h
  cases hx
  refine ⟨s, rfl, ?_⟩
  simpa [DataW.weights] using hz

theorem cells?_spec {base : Nat} {a : Addr} {n : Nat} {cs : List Value} (h : w.cells? base a n = some cs) : cs.length = n ∧ ∀ j, j < n → w.cell? (a.add j) = cs[j]? := by
  obtain ⟨_, h1, h2⟩ := World.cells?_some h
  exact ⟨h1, fun j hj => h2 j hj⟩
theorem cellsAt_of {b o : Nat} : ∀ {cs : List Value} , (∀ j, j < cs.length → w.cell? ⟨b, o + j, none⟩ = cs[j]?) → CellsAt w b o cs := by
  intro cs
  induction cs generalizing o with
  | nil => intro _; trivial
  | cons c cs ih =>
    intro h
    refine ⟨by simpa using h 0 (by simp), ih fun j hj => ?_⟩
    have := h (j + 1) (by simpa using hj)
    rw [show o + 1 + j = o + (j + 1) by omega]
    simpa using this

theorem choose_list {α : Type} {n : Nat} {p : Nat → α → Prop} (h : ∀ i, i < n → ∃ x, p i x) : ∃ xs : List α, xs.length = n ∧ ∀ i x, xs[i]? = some x → p i x := by
  induction n with
  | zero => exact ⟨[], rfl, fun i x hx => by simp at hx⟩
  | succ n ih =>
    obtain ⟨xs, hl, hp⟩ := ih fun i hi => h i (by omega)
    obtain ⟨y, hy⟩ := h n (by omega)
    refine ⟨xs ++ [y], by simp [hl], fun i x hx => ?_⟩
    rcases Nat.lt_or_ge i n with hi | hi
    · rw [List.getElem?_append_left (by omega)] at hx; exact hp i x hx
    · rw [List.getElem?_append_right (by omega)] at hx
      have : i = n := by
        rcases Nat.lt_or_ge n i with h' | h'
        · rw [List.getElem?_eq_none (by simp; omega)] at hx; cases hx
        · omega
      subst this
      simp [hl] at hx
      exact hx ▸ hy

theorem weightsAll_mem {e : TypeId} {ds : List (DataW H)} {d : DataW H} (hd : d ∈ ds) : ∀ n ∈ d.weights P e, n ∈ DataW.weightsAll P e ds := by
  induction ds with
  | nil => cases hd
  | cons c ds ih =>
    intro n hn
    simp only [DataW.weightsAll, List.mem_append]
    rcases List.mem_cons.1 hd with rfl | hd
    · exact .inl hn
    · exact .inr (ih hd n hn)

theorem bytesOf_of {e bytes : Nat} (h : (P.info? e).map (·.bytes) = some bytes) : P.bytesOf e = bytes := by simp [Program.bytesOf, h]

theorem reads_sl {t e sz bytes : Nat} {α : Type} {R : Rd α} (ht : slB P t e sz = true) (hb : (P.info? e).map (·.bytes) = some bytes) (hsz : 0 < sz) (he : Reads enc P e R) : Reads enc P t (rdSl bytes sz R) := by
  intro w fuel cs d ps h hz
  obtain ⟨hu, ti, hti, hsz'⟩ := slB_spec ht
  have hcells : P.cellsOf e = sz := by simp [Program.cellsOf, hti, hsz']
  rcases Deep.open_slice hu h with ⟨rfl, hx⟩ | ⟨a, len, cap, m, n, D, Pl, rfl, _, hl, hm, hmm, hx, hel⟩
  · exact ⟨[], .inl ⟨none, rfl, rfl⟩⟩
  simp only [if_true] at hmm
  subst hmm
  cases hx
  rw [hcells] at hel
  have hw := hz
  simp only [DataW.weights, hu, List.all_cons, Bool.and_eq_true, decide_eq_true_eq, List.length_map, List.length_range, bytesOf_of hb] at hw
  obtain ⟨hcap, hall⟩ := hw
  by_cases h0 : m = 0
  · subst h0
    have : len = 0 := by omega
    subst this
    exact ⟨[], .inl ⟨some a, rfl, rfl⟩⟩
  have hspot : a.spot = none ∧ a.block < w.heap.size := by
    obtain ⟨cs', h1, _⟩ := hel 0 (by omega)
    have h2 := (cells?_spec h1).2 0 hsz
    rw [Nat.zero_mul] at h2
    have h3 : w.cell? a = cs'[0]? := by simpa [Addr.add] using h2
    rw [List.getElem?_eq_getElem (by rw [(cells?_spec h1).1]; exact hsz)] at h3
    exact ⟨World.cell?_spot h3, block_lt_of_cell h3⟩
  obtain ⟨b, o, spot⟩ := a
  obtain ⟨hspot, hlt⟩ := hspot
  simp only at hspot
  subst hspot
  obtain ⟨xs, hxl, hxs⟩ := choose_list (n := len) (p := fun i x => ∃ ecs, HAt (hpOf w) b (o + i * sz) ecs ∧ ecs.length = sz ∧ R (hpOf w) ecs x) (fun i hi => by
    obtain ⟨cs', h1, h2⟩ := hel i (by omega)
    obtain ⟨h3, h4⟩ := cells?_spec h1
    obtain ⟨x, hx⟩ := he w n cs' (D i) (Pl i) h2 (by
      rw [List.all_eq_true] at hall ⊢
      intro k hk
      refine hall k (List.mem_append.2 (.inl (weightsAll_mem (d := D i) (by simp; exact ⟨i, hi, rfl⟩) k hk))))
    refine ⟨x, cs', HAt.of_cells (cellsAt_of fun j hj => ?_), h3, hx⟩
    have := h4 j (by omega)
    rw [Addr.add_plain, Addr.add_plain] at this
    exact this)
  subst hxl
  refine ⟨xs, .inr ⟨b, o, m, rfl, hl, ?_, hm, hxs⟩⟩
  rw [show xs.length + (m - xs.length) = m by omega] at hcap
  exact Nat.le_trans (Nat.mul_le_mul_right _ hl) hcap

/-- A field of a struct that was read. -/
theorem reads_fields {t : TypeId} {fs : Array Field} {fuel : Nat} {cs : List Value} {d : DataW H} {ps : List MemPlace} (ht : P.underlying t = some (.struct fs))
    (h : DataW.trod enc P w 0 (fun _ => true) true fuel t cs = some (d, ps)) (hz : (d.weights P t).all (· ≤ reachBytes) = true) :
    cs.length = P.cellsOf t ∧ ∀ (i : Nat) (fd : Field), fs[i]? = some fd → ∃ n y q, DataW.trod enc P w 0 (fun _ => true) true n fd.type ((cs.drop fd.offset).take (P.cellsOf fd.type)) = some (y, q) ∧
      (y.weights P fd.type).all (· ≤ reachBytes) = true := by
  obtain ⟨xs, n, _, hx, hl, hxl, hf⟩ := DataW.trod_struct ht h
  cases hx
  refine ⟨hl, fun i fd hfd => ?_⟩
  have hi : i < fs.size := (Array.getElem?_eq_some_iff.1 hfd).1
  have e := hf i fd hfd
  have hxi : xs[i]? = some xs[i] := List.getElem?_eq_getElem (by omega)
  rw [hxi] at e
  refine ⟨n, xs[i].1, xs[i].2, e, ?_⟩
  rw [List.all_eq_true] at hz ⊢
  intro k hk
  refine hz k ?_
  simp only [DataW.weights, ht]
  refine DataW.weights_mem_each (j := i) (t := fd.type) (d := xs[i].1) ?_ ?_ k hk
  · have hfd' : fs.toList[i]? = some fd := by simpa using hfd
    simp [hfd']
  · simp [hxi]

/-- Field i of struct type s has type ft, lies off cells behind its begin and has k cells. -/
def fieldB (P : Program) (s i ft off k : Nat) : Bool :=
  match P.underlying s with
  | some (.struct fs) => match fs[i]? with
    | some fd => fd.type == ft && fd.offset == off && P.cellsOf ft == k
    | none => false
  | _ => false
theorem reads_field {t i ft off k : Nat} {fuel : Nat} {cs : List Value} {d : DataW H} {ps : List MemPlace} {α : Type} {R : Rd α} (hf : fieldB P t i ft off k = true)
    (h : DataW.trod enc P w 0 (fun _ => true) true fuel t cs = some (d, ps)) (hz : (d.weights P t).all (· ≤ reachBytes) = true) (hR : Reads enc P ft R) :
    ∃ x, R (hpOf w) ((cs.drop off).take k) x := by
  unfold fieldB at hf
  split at hf <;> try contradiction
  rename_i fs hfs
  split at hf <;> try contradiction
  rename_i fd hfd
  simp only [Bool.and_eq_true, beq_iff_eq] at hf
  obtain ⟨⟨h1, h2⟩, h3⟩ := hf
  obtain ⟨_, hall⟩ := reads_fields hfs h hz
  obtain ⟨n, y, q, hy, hw⟩ := hall i fd hfd
  subst h1; subst h2; subst h3
  exact hR w n _ y q hy hw
theorem reads_length {t k : Nat} {fuel : Nat} {cs : List Value} {d : DataW H} {ps : List MemPlace} (ht : aggB P t k = true) (hs : (match P.underlying t with | some (.struct _) => true | _ => false) = true)
    (h : DataW.trod enc P w 0 (fun _ => true) true fuel t cs = some (d, ps)) (hz : (d.weights P t).all (· ≤ reachBytes) = true) : cs.length = k := by
  split at hs <;> try contradiction
  rename_i fs hfs
  obtain ⟨hl, _⟩ := reads_fields hfs h hz
  rw [hl]
  unfold aggB at ht
  rw [hfs] at ht
  cases hi : P.info? t with
  | none => rw [hi] at ht; simp at ht
  | some ti => rw [hi] at ht; simp [Program.cellsOf, hi]; simpa using ht

/-- An argument, told by R. -/
def rdArg {α : Type} (R : Rd α) (w : World) (v : Value) (x : α) : Prop := R (hpOf w) v.cells.toList x
theorem arg_of {t : TypeId} {α : Type} {R : Rd α} {ts : List TypeId} {ds : List (DataW H)} {j : Nat} {v : Value} {d : DataW H} {ps : List MemPlace} (hR : Reads enc P t R)
    (h : DataW.Trod enc P w 0 (fun _ => true) true t v d ps) (hz : (DataW.weightsEach P ts ds).all (· ≤ reachBytes) = true) (ht : ts[j]? = some t) (hd : ds[j]? = some d) : ∃ x, rdArg R w v x := by
  obtain ⟨fuel, hf⟩ := h
  refine hR w fuel _ d ps hf ?_
  rw [List.all_eq_true] at hz ⊢
  exact fun k hk => hz k (DataW.weights_mem_each ht hd k hk)
theorem okWide_agg {r : Reach} {b t k : Nat} {v : Value} (ht : aggB P t k = true) (h : Value.okWide P w r b t v) : ∃ cs, v = .agg cs := by
  unfold aggB at ht
  unfold Value.okWide at h
  split at h
  · obtain ⟨cs, rfl, _⟩ := h; exact ⟨cs, rfl⟩
  · obtain ⟨cs, rfl, _⟩ := h; exact ⟨cs, rfl⟩
  · rename_i h1 h2
    split at ht
    · rename_i hu _; exact absurd hu (h1 _)
    · rename_i hu _; exact absurd hu (h2 _ _)
    · cases ht
end

/-- An element of a slice that is told. -/
theorem rdSl_get {α : Type} {bytes sz : Nat} {R : Rd α} {g : Hp} {a : Option Addr} {len cap : Nat} {xs : List α} (h : rdSl bytes sz R g [.slice a len cap] xs) :
    len = xs.length ∧ len * bytes ≤ reachBytes ∧ len ≤ cap ∧ cap ≤ maxLen ∧ ∀ i : Int, 0 ≤ i → i < len → ∃ b o x ecs, a = some ⟨b, o, none⟩ ∧ xs[i.toNat]? = some x ∧ HAt g b (o + i.toNat * sz) ecs ∧ ecs.length = sz ∧ R g ecs x := by
  rcases h with ⟨a', h, rfl⟩ | ⟨b, o, c, h, hl, hc, hm, hx⟩
  · simp only [List.cons.injEq, and_true, Value.slice.injEq] at h
    obtain ⟨_, rfl, rfl⟩ := h
    exact ⟨rfl, by simp, Nat.le_refl _, by simp [maxLen], fun i h0 h1 => by omega⟩
  · simp only [List.cons.injEq, and_true, Value.slice.injEq] at h
    obtain ⟨rfl, rfl, rfl⟩ := h
    refine ⟨rfl, hc, hl, hm, fun i h0 h1 => ?_⟩
    have hi : i.toNat < xs.length := by omega
    obtain ⟨ecs, h2, h3, h4⟩ := hx i.toNat xs[i.toNat] (List.getElem?_eq_getElem hi)
    exact ⟨b, o, xs[i.toNat], ecs, rfl, List.getElem?_eq_getElem hi, h2, h3, h4⟩
theorem Sat.below {w w' : World} {L : List As} (h : Sat (envOf w) w' (Old w :: L)) : Below w.heap.size w w' := by
  have he := h.env
  refine ⟨he.1, he.2.1, he.2.2.1, ?_, fun k hk => h.old_block hk⟩
  rcases Nat.eq_zero_or_pos w.heap.size with h0 | h0
  · omega
  · have := h.old_block (b := w.heap.size - 1) (by omega)
    have e : w.heap[w.heap.size - 1]? = some (w.heap[w.heap.size - 1]'(by omega)) := Array.getElem?_eq_getElem (by omega)
    rw [e] at this
    have := (Array.getElem?_eq_some_iff.1 this).1
    omega

/-- What a statement must be shown: called with arguments that can be read, it answers true, and what was there stands. -/
def Law (P : Program) (n : FuncId) (vs : List Value) (w : World) : Prop :=
  Calls P n vs.toArray w fun e w' => e = .returned (.bool true) ∧ Sat (envOf w) w' [Old w]

end Go.Proofs.Ytlgpdglnfjndhaa.Xe
