/-
  XE, part 6: arrays, slices that the call itself made, append, make, strings cut.
-/
import Derived.Test.YtlgpdglnfjndhaaX5
import Derived.Laws.OwnMore
import Derived.Laws.MakeOwn
import Derived.Laws.Slices
import Derived.Lib.AppendStr
import Derived.Great.BuildSlice
import Derived.Great.FillDense
namespace Go.Proofs.Ytlgpdglnfjndhaa.Xe
open Go Go.RowKit Go.Lib

/-! ### Arrays -/
/-- An array type: n elements of type e, sz cells each. -/
def arrB (P : Program) (t n e sz : Nat) : Bool :=
  match P.underlying t with
  | some (.array n' e') => n' == n && e' == e && (match P.info? e with | some ti => ti.size == sz | none => false)
  | _ => false
section v
variable {P : Program} {F : Fr} {S : World → Prop} {d : Option Nat} {ty : TypeId} {pos : String} {af : Array Edge} {gd : Option (Nat × Bool)}
  {x y z : Operand} {t t' : TypeId}

theorem v_indexStr {s : ByteArray} {k : IntKind} {i : Int} {c : UInt8} (ht : strB P t = true) (h : opd F x = some (.string s))
    (hy : opd F y = some (.int k i)) (h0 : 0 ≤ i) (hv : s[i.toNat]? = some c) :
    OpV P F S ⟨d, .index t x y, ty, pos, af, gd⟩ (.int .u8 c.toNat) := fun ρ w hρ _ => by
  simp [execOp, hρ x _ h, hρ y _ hy, Instr.index, asIntOf, underlying, strB_spec ht, h0, hv]

/-! ### Cutting strings and slices -/
theorem v_sliceStrTo {s : ByteArray} {k' : IntKind} {j : Int} (ht : strB P t = true) (h : opd F x = some (.string s)) (hz : opd F z = some (.int k' j))
    (h1 : 0 ≤ j) (h2 : j ≤ s.size) : OpV P F S ⟨d, .slice t x none (some z) none, ty, pos, af, gd⟩ (.string (s.extract 0 j.toNat)) := fun ρ w hρ _ => by
  have hj : 0 ≤ j ∧ j ≤ (s.size : Int) := ⟨h1, h2⟩
  simp [execOp, hρ x _ h, hρ z _ hz, Instr.sliceAt, underlying, strB_spec ht, Instr.slice, Instr.sliceBounds, Instr.sliceBound, asIntOf, hj]
theorem v_sliceStrFrom {s : ByteArray} {k' : IntKind} {j : Int} (ht : strB P t = true) (h : opd F x = some (.string s)) (hz : opd F z = some (.int k' j))
    (h1 : 0 ≤ j) (h2 : j ≤ s.size) : OpV P F S ⟨d, .slice t x (some z) none none, ty, pos, af, gd⟩ (.string (s.extract j.toNat s.size)) := fun ρ w hρ _ => by
  have hj : 0 ≤ j ∧ j ≤ (s.size : Int) := ⟨h1, h2⟩
  simp [execOp, hρ x _ h, hρ z _ hz, Instr.sliceAt, underlying, strB_spec ht, Instr.slice, Instr.sliceBounds, Instr.sliceBound, asIntOf, hj]
/-- x[:j] of a slice. -/
theorem v_sliceTo {e sz : Nat} {a : Option Addr} {len cap : Nat} {k : IntKind} {j : Int} (ht : slB P t e sz = true) (h : opd F x = some (.slice a len cap)) (hz : opd F z = some (.int k j))
    (h1 : 0 ≤ j) (h2 : j ≤ cap) : OpV P F S ⟨d, .slice t x none (some z) none, ty, pos, af, gd⟩ (.slice a j.toNat cap) := fun ρ w hρ _ => by
  obtain ⟨hu, ti, hti, _⟩ := slB_spec ht
  have hj : 0 ≤ j ∧ j ≤ (cap : Int) := ⟨h1, h2⟩
  have ha : (if cap = 0 then a else a.map (·.add 0)) = a := by cases a <;> simp [Addr.add]
  simp [execOp, hρ x _ h, hρ z _ hz, Instr.sliceAt, underlying, hu, Instr.slice, Instr.sliceBounds, Instr.sliceBound, asIntOf, hj, sizeOf, typeInfo, hti]
  cases a <;> simp [Addr.add]
/-- x[i:] of a slice that leads somewhere. -/
theorem v_sliceFrom {e sz b o : Nat} {len cap : Nat} {k : IntKind} {i : Int} (ht : slB P t e sz = true) (h : opd F x = some (.slice (some ⟨b, o, none⟩) len cap)) (hz : opd F z = some (.int k i))
    (h1 : 0 ≤ i) (h2 : i ≤ len) (h3 : i < cap) : OpV P F S ⟨d, .slice t x (some z) none none, ty, pos, af, gd⟩ (.slice (some ⟨b, o + i.toNat * sz, none⟩) (len - i.toNat) (cap - i.toNat)) := fun ρ w hρ _ => by
  obtain ⟨hu, ti, hti, rfl⟩ := slB_spec ht
  have hj : 0 ≤ i ∧ i ≤ (len : Int) := ⟨h1, h2⟩
  have hc : ¬ cap = i.toNat := by omega
  simp [execOp, hρ x _ h, hρ z _ hz, Instr.sliceAt, underlying, hu, Instr.slice, Instr.sliceBounds, Instr.sliceBound, asIntOf, hj, sizeOf, typeInfo, hti, hc, Addr.add_plain]
end v

/-! ### A slice of the call's own -/
/-- v is a slice of n elements (type e, sz cells each) that begins at the head of a block of its own; xs: the cells of its elements. -/
def OwnSl0 (e sz : Nat) (v : Value) (n : Nat) (xs : List Value) : As := fun h => xs.length = n * sz ∧
  ((v = .slice none 0 0 ∧ n = 0 ∧ emp h) ∨
   ∃ g cap cur, v = .slice (some ⟨g, 0, none⟩) n cap ∧ pt g (.cells cur e (0, 0)) h ∧ n ≤ cap ∧ cap ≤ maxLen ∧ cur.size = cap * sz ∧ cur.toList.take (n * sz) = xs)

theorem Sat.emp {E : Env} {w : World} {L : List As} (h : Sat E w L) : Sat E w (emp :: L) := by
  obtain ⟨e, g, hg, hs⟩ := h
  exact ⟨e, g, ⟨fun _ => none, g, fun _ => .inl rfl, by funext i; simp [Hp.un], fun _ => rfl, hg⟩, hs⟩
theorem Sat.own_nil0 {E : Env} {w : World} {L : List As} (e sz : Nat) (h : Sat E w L) : Sat E w (OwnSl0 e sz (.slice none 0 0) 0 [] :: L) :=
  h.emp.imp fun _ he => ⟨by simp, .inl ⟨rfl, rfl, he⟩⟩
theorem Sat.own_mk0 {E : Env} {w : World} {L : List As} {e sz g n cap : Nat} {cur : Array Value} {xs : List Value} (h : Sat E w (pt g (.cells cur e (0, 0)) :: L)) (h1 : n ≤ cap) (h2 : cap ≤ maxLen)
    (h3 : cur.size = cap * sz) (h4 : cur.toList.take (n * sz) = xs) : Sat E w (OwnSl0 e sz (.slice (some ⟨g, 0, none⟩) n cap) n xs :: L) :=
  h.imp fun _ hp => ⟨by rw [← h4, List.length_take, Array.length_toList, h3]; exact Nat.min_eq_left (Nat.mul_le_mul_right _ h1), .inr ⟨g, cap, cur, rfl, hp, h1, h2, h3, h4⟩⟩
theorem Sat.own_open0 {E : Env} {w : World} {L : List As} {e sz : Nat} {v : Value} {n : Nat} {xs : List Value} (h : Sat E w (OwnSl0 e sz v n xs :: L)) :
    xs.length = n * sz ∧ ((v = .slice none 0 0 ∧ n = 0 ∧ xs = [] ∧ Sat E w L) ∨
      ∃ g cap cur, v = .slice (some ⟨g, 0, none⟩) n cap ∧ Sat E w (pt g (.cells cur e (0, 0)) :: L) ∧ n ≤ cap ∧ cap ≤ maxLen ∧ cur.size = cap * sz ∧ cur.toList.take (n * sz) = xs) := by
  have hd := h.drop
  obtain ⟨he, g, ⟨h1, h2, d, hu, ⟨hl, hA⟩, hL⟩, hs⟩ := h
  refine ⟨hl, ?_⟩
  rcases hA with ⟨hv, hn, _⟩ | ⟨g', cap, cur, hv, hp, h5, h6, h7, h8⟩
  · exact .inl ⟨hv, hn, List.eq_nil_of_length_eq_zero (by rw [hl, hn]; simp), hd⟩
  · exact .inr ⟨g', cap, cur, hv, ⟨he, g, ⟨h1, h2, d, hu, hp, hL⟩, hs⟩, h5, h6, h7, h8⟩
theorem Sat.own_row0 {E : Env} {w : World} {L : List As} {e sz : Nat} {v : Value} {n : Nat} {xs : List Value} (h : Sat E w (OwnSl0 e sz v n xs :: L)) : w.ownsRow 0 e sz v n xs := by
  obtain ⟨hl, ⟨hv, hn, _, _⟩ | ⟨g, cap, cur, hv, hp, h1, h2, h3, h4⟩⟩ := h.own_open0
  · exact ⟨hl, .inl ⟨hv, hn⟩⟩
  · exact ⟨hl, .inr ⟨g, cap, cur, hv, Nat.zero_le _, hp.block, h1, h2, h3, h4⟩⟩
/-- Behind an append or a make: the row that may have been written is the slice's own. -/
theorem Sat.own_grown0 {E : Env} {w w' : World} {L : List As} {e sz : Nat} {v v' : Value} {n m : Nat} {xs ys : List Value} (h : Sat E w (OwnSl0 e sz v n xs :: L)) (hg : w.grownBy w' v.ownBlock)
    (ho : w'.ownsRow 0 e sz v' m ys) (hb : (∀ g, v'.ownBlock = some g → v.ownBlock = some g ∨ w.heap.size ≤ g) ∧ w.drawn ≤ w'.drawn) : Sat E w' (OwnSl0 e sz v' m ys :: L) := by
  obtain ⟨hb, hdr⟩ := hb
  obtain ⟨he, g0, ⟨h1, h2, d, hu, ⟨_, hA⟩, hL⟩, hs⟩ := h
  have hL2 : ∀ b o, h2 b = some o → w.heap[b]? = some o := fun b o hb' => hs b o (by rw [hu]; exact Hp.un_right d hb')
  have hne : ∀ b o, h2 b = some o → some b ≠ v.ownBlock := by
    intro b o hbo heq
    rcases hA with ⟨hv, _, _⟩ | ⟨g', cap, cur, hv, hp, _⟩
    · rw [hv] at heq; simp [Value.ownBlock] at heq
    · rw [hv] at heq
      simp only [Value.ownBlock, Option.some.injEq] at heq
      subst heq
      rcases d b with h | h
      · rw [hp b, if_pos rfl] at h; cases h
      · rw [h] at hbo; cases hbo
  have hL' : ∀ b o, h2 b = some o → w'.heap[b]? = some o := fun b o hbo => by
    have hlt : b < w.heap.size := (Array.getElem?_eq_some_iff.1 (hL2 b o hbo)).1
    rw [hg.block b hlt (hne b o hbo)]
    exact hL2 b o hbo
  have henv : EvIn w' E := ⟨hg.os.trans he.1, hg.tape.trans he.2.1, hg.output.trans he.2.2.1, Nat.le_trans he.2.2.2 hdr⟩
  obtain ⟨hl, ⟨hv', hm⟩ | ⟨g, cap, cur, hv', _, hbl, h5, h6, h7, h8⟩⟩ := ho
  · exact ⟨henv, h2, ⟨fun _ => none, h2, fun _ => .inl rfl, by funext i; simp [Hp.un], ⟨hl, .inl ⟨hv', hm, fun _ => rfl⟩⟩, hL⟩, hL'⟩
  · have hfree : h2 g = none := by
      cases hh : h2 g with
      | none => rfl
      | some o =>
        rcases hb g (by rw [hv']; rfl) with hb' | hb'
        · exact absurd hb'.symm (hne g o hh)
        · have := (Array.getElem?_eq_some_iff.1 (hL2 g o hh)).1
          omega
    refine ⟨henv, _, ⟨fun i => if i = g then some (.cells cur e (0, 0)) else none, h2, fun i => ?_, rfl, ⟨hl, .inr ⟨g, cap, cur, hv', fun _ => rfl, h5, h6, h7, h8⟩⟩, hL⟩, fun i p hp => ?_⟩
    · by_cases hi : i = g
      · subst hi; exact .inr hfree
      · exact .inl (if_neg hi)
    · by_cases hi : i = g
      · subst hi
        have : p = .cells cur e (0, 0) := by simpa [Hp.un] using hp.symm
        rw [this]; exact hbl
      · exact hL' i p (by simpa [Hp.un, hi] using hp)

section k
variable {P : Program} {n : NF} {F : Fr} {w : World} {K : Fr → World → Prop} {d : Option Nat} {ty : TypeId} {pos : String} {af : Array Edge} {gd : Option (Nat × Bool)}
  {x y : Operand} {t : TypeId} {E : Env} {L L' : List As}

/-- The cells of a slice literal all of whose places are given, in order. -/
def catParts (sz : Nat) : Nat → List (Nat × Value) → Option (List Value)
  | _, [] => some []
  | i, (j, v) :: r => bif Nat.beq j i && Nat.beq v.cells.size sz then
      match catParts sz (i + 1) r with
      | some l => some (v.cells.toList ++ l)
      | none => none
    else none
theorem catParts_spec {sz : Nat} : ∀ (ps : List (Nat × Value)) (i : Nat) (l : List Value), catParts sz i ps = some l →
    ∃ vs : List Value, ps = (vs.zipIdx i).map (fun x => (x.2, x.1)) ∧ (∀ v ∈ vs, v.cells.size = sz) ∧ l = vs.flatMap (fun v => v.cells.toList)
  | [], i, l, h => by simp [catParts] at h; subst h; exact ⟨[], rfl, by simp, rfl⟩
  | (j, v) :: ps, i, l, h => by
    simp only [catParts, cond_eq_ite, Bool.and_eq_true] at h
    split at h <;> try contradiction
    rename_i hc
    split at h <;> try contradiction
    rename_i l' hl'
    cases h
    obtain ⟨vs, h1, h2, h3⟩ := catParts_spec ps (i + 1) l' hl'
    have e1 : j = i := Nat.eq_of_beq_eq_true hc.1
    have e2 : v.cells.size = sz := Nat.eq_of_beq_eq_true hc.2
    subst e1
    refine ⟨v :: vs, by simp [h1], fun u hu => ?_, by simp [h3]⟩
    rcases List.mem_cons.1 hu with rfl | hu
    · exact e2
    · exact h2 u hu

/-- A slice literal: a new block. -/
theorem k_buildSlice {e sz len : Nat} {z : Value} {ps : List (Nat × Operand)} {vs : List (Nat × Value)} {cells : List Value} (hs : Sat E w L) (ht : slB P t e sz = true) (hz : ZeroIs P e z)
    (hp : opdParts F ps = some vs) (hlen : vs.length = len) (hpos : Nat.ble 1 (len * sz) = true) (hsm : Nat.ble (len * sz) 16777216 = true)
    (hf : catParts sz 0 vs = some cells) (hd : okD n d = true)
    (h : ∀ b w', Sat E w' (pt b (.cells cells.toArray e (0, 0)) :: L) → K (putF d (.slice (some ⟨b, 0, none⟩) len len) F) w') :
    OpK P n F ⟨d, .buildSlice t len ps.toArray, ty, pos, af, gd⟩ w K := by
  obtain ⟨hu, ti, hti, rfl⟩ := slB_spec ht
  have hz' : ti.zero = some z := by simpa [ZeroIs, hti] using hz
  have h1 := Nat.le_of_ble_eq_true hpos
  have h2 := Nat.le_of_ble_eq_true hsm
  obtain ⟨us, hvs, hsz, rfl⟩ := catParts_spec vs 0 cells hf
  have hul : us.length = len := by rw [← hlen, hvs]; simp
  have hpos' : 0 < ti.size := Nat.pos_of_ne_zero fun e => by rw [e] at h1; simp at h1
  refine k_of_value hd (v := .slice (some ⟨w.heap.size, 0, none⟩) len len) (w' := w.alloc (.cells (us.flatMap fun v => v.cells.toList).toArray e)) (fun ρ hρ => ?_) (h _ _ hs.alloc)
  have e1 : (ps.toArray.map fun (i, x) => (i, ρ x)).toList = vs := by simpa using opdParts_map hρ _ _ hp
  have hfill := Go.Great.fill_whole hpos' us ((Array.range (len * ti.size)).map (z.cells[· % z.cells.size]!)) hsz (by simp [hul])
  have hr := run_buildSlice (P := P) w t e len (ps.toArray.map fun (i, x) => (i, ρ x)) (us.flatMap fun v => v.cells.toList).toArray ti z hu hti hz' (by omega) (by omega) (by rw [e1, hvs]; exact hfill)
  simp only [execOp, Sem.run_bind]
  rw [hr]
  rfl

/-- Where an append's result lies: where the slice lay, or in a new block. -/
theorem append_block {A : Sem Value} {v v' : Value} {w' : World} {k m e sz : Nat} {xs : List Value} (hr : A.run P w = .ok v' w') (hnil : v' = .slice none 0 0 ↔ v = .slice none 0 0 ∧ k = 0)
    (ho : w.ownsRow 0 e sz v m xs)
    (c0 : v = .slice none 0 0 → k = 0 → ∃ v1, A.run P w = .ok v1 w)
    (c1 : v = .slice none 0 0 → 0 < k → ∃ l c w1, A.run P w = .ok (.slice (some ⟨w.heap.size, 0, none⟩) l c) w1 ∧ w.drawn ≤ w1.drawn)
    (c2 : ∀ g cap cur, v = .slice (some ⟨g, 0, none⟩) m cap → w.heap[g]? = some (.cells cur e (0, 0)) → m ≤ cap → cur.size = cap * sz → m + k ≤ cap → ∃ l c w1, A.run P w = .ok (.slice (some ⟨g, 0, none⟩) l c) w1 ∧ w.drawn ≤ w1.drawn)
    (c3 : ∀ g cap cur, v = .slice (some ⟨g, 0, none⟩) m cap → w.heap[g]? = some (.cells cur e (0, 0)) → cap < m + k → ∃ l c w1, A.run P w = .ok (.slice (some ⟨w.heap.size, 0, none⟩) l c) w1 ∧ w.drawn ≤ w1.drawn) :
    (∀ g, v'.ownBlock = some g → v.ownBlock = some g ∨ w.heap.size ≤ g) ∧ w.drawn ≤ w'.drawn := by
  have keyd : ∀ {v1 w1}, A.run P w = .ok v1 w1 → w' = w1 := fun h => by
    rw [hr] at h
    simp only [Result.ok.injEq] at h
    exact h.2
  have key : ∀ {b l c w1}, A.run P w = .ok (.slice (some ⟨b, 0, none⟩) l c) w1 → ∀ g', v'.ownBlock = some g' → g' = b := fun h g' hg' => by
    rw [hr] at h
    simp only [Result.ok.injEq] at h
    rw [h.1] at hg'
    simpa [Value.ownBlock] using hg'.symm
  rcases ho.2 with ⟨hv, _⟩ | ⟨g, cap, cur, hv, _, hbl, h1, _, h3, _⟩
  · by_cases h0 : k = 0
    · obtain ⟨v1, h⟩ := c0 hv h0
      refine ⟨fun g' hg' => ?_, by rw [keyd h]; exact Nat.le_refl _⟩
      rw [hnil.2 ⟨hv, h0⟩] at hg'; simp [Value.ownBlock] at hg'
    · obtain ⟨l, c, w1, h, hd⟩ := c1 hv (by omega)
      exact ⟨fun g' hg' => .inr (by rw [key h g' hg']; exact Nat.le_refl _), by rw [keyd h]; exact hd⟩
  · by_cases hroom : m + k ≤ cap
    · obtain ⟨l, c, w1, h, hd⟩ := c2 g cap cur hv hbl h1 h3 hroom
      exact ⟨fun g' hg' => .inl (by rw [key h g' hg', hv]; rfl), by rw [keyd h]; exact hd⟩
    · obtain ⟨l, c, w1, h, hd⟩ := c3 g cap cur hv hbl (by omega)
      exact ⟨fun g' hg' => .inr (by rw [key h g' hg']; exact Nat.le_refl _), by rw [keyd h]; exact hd⟩

/-- append(s, y...) onto a slice of the call's own; y's cells are read from one block. -/
theorem k_append0 {e sz bytes : Nat} {z : Value} {v : Value} {m : Nat} {xs : List Value} {b o c k : Nat} {news : List Value} (hs : Sat E w L) (ht : slB P t e sz = true) (hz : ZeroIs P e z)
    (hb : (P.info? e).map (·.bytes) = some bytes) (hzc : z.cells.size = sz) (hsz : 0 < sz) (hx : opd F x = some v) (hy : opd F y = some (.slice (some ⟨b, o, none⟩) k c))
    (hp : Pick (OwnSl0 e sz v m xs) L L') (hn : news.length = k * sz) (hc : CellsAt w b o news) (h1 : ∀ u ∈ news, u.oneCell' = true) (hm : (m + k) * bytes ≤ 140737488355328) (hm' : m + k ≤ maxLen) (hd : okD n d = true)
    (h : ∀ v' w', Sat E w' (OwnSl0 e sz v' (m + k) (xs ++ news) :: L') → (v' = .slice none 0 0 ↔ v = .slice none 0 0 ∧ k = 0) → K (putF d v' F) w') :
    OpK P n F ⟨d, .call { callee := .builtin .append, args := #[x, y], argTypes := #[t, t] }, ty, pos, af, gd⟩ w K := by
  obtain ⟨hu, ti, hti, hsz'⟩ := slB_spec ht
  have hz' : ti.zero = some z := by simpa [ZeroIs, hti] using hz
  have hb' : ti.bytes = bytes := by simpa [hti] using hb
  have hs1 := hs.pick hp
  obtain ⟨v', w', hr, ho, hg, hnil⟩ := run_append_own (P := P) w 0 t ty e ti z sz bytes hu hti hz' hsz' hb' hzc hsz v m xs hs1.own_row0 ⟨b, o, none⟩ k c news hn
    (fun j u hj => by rw [Addr.add_plain]; exact hc.get j u hj) h1 hm' hm (Nat.zero_le _)
  have hcells : ∀ j u, news[j]? = some u → w.cell? ((⟨b, o, none⟩ : Addr).add j) = some u := fun j u hj => by rw [Addr.add_plain]; exact hc.get j u hj
  have hblk := append_block hr hnil hs1.own_row0 (fun hv h0 => by
      subst hv
      subst h0
      have hne : news = [] := List.eq_nil_of_length_eq_zero (by rw [hn]; exact Nat.zero_mul _)
      exact ⟨.slice none 0 0, by simp [Builtin.append_, run_underlying hu, sizeOf, typeInfo, hti, Builtin.lenOf, Builtin.firstCells, loadCells, loadCellsFrom]⟩) (fun hv h0 => by
      subst hv
      exact ⟨_, _, _, ⟨run_append_nil (P := P) w t ty e ti z hu hti hz' ⟨b, o, none⟩ k c news (by rw [hn, hsz']) hcells h0 (by have := hm'; simp only [maxLen] at this; omega) (by
        rw [hb']
        have h1 : k * bytes ≤ (m + k) * bytes := Nat.mul_le_mul_right _ (by omega)
        omega), Nat.le_succ _⟩⟩)
    (fun g cap cur hv hbl hcap hcs hroom => by
      subst hv
      exact ⟨_, _, _, ⟨run_append_room (P := P) w t ty e ti hu hti g m cap cur hbl ⟨b, o, none⟩ k c news (by rw [hn, hsz']) hcells h1 hroom (by
        rw [hn, hcs, hsz', ← Nat.add_mul]; exact Nat.mul_le_mul_right _ hroom), Nat.le_refl _⟩⟩)
    (fun g cap cur hv hbl hroom => by
      subst hv
      exact ⟨_, _, _, ⟨run_append_grow (P := P) w t ty e ti z hu hti hz' ⟨g, 0, none⟩ m cap xs (by rw [hs1.own_row0.1, hsz']) (hs1.own_row0.cells (g := g) rfl) ⟨b, o, none⟩ k c news (by rw [hn, hsz']) hcells hroom
        (by have := hm'; simp only [maxLen] at this; omega) (growslice_fits hroom (by rw [hb']; exact hm)), Nat.le_succ _⟩⟩)
  refine k_of_value hd (v := v') (w' := w') (fun ρ hρ => ?_) (h v' w' (hs1.own_grown0 hg ho hblk) hnil)
  simp [execOp, resolve, invoke, builtin, hρ x _ hx, hρ y _ hy, hr]

/-- append(s, t...): the bytes of a string behind a row of bytes. -/
theorem k_appendStr0 {e : Nat} {tu : TypeId} {v : Value} {m : Nat} {xs : List Value} {str : ByteArray} (hs : Sat E w L) (ht : slB P t e 1 = true) (hu' : strB P tu = true) (hz : ZeroIs P e (.int .u8 0))
    (hb : (P.info? e).map (·.bytes) = some 1) (hx : opd F x = some v) (hy : opd F y = some (.string str))
    (hp : Pick (OwnSl0 e 1 v m xs) L L') (hm : m + str.size ≤ 140737488355328) (hd : okD n d = true)
    (h : ∀ v' w', Sat E w' (OwnSl0 e 1 v' (m + str.size) (xs ++ strCells str) :: L') → (v' = .slice none 0 0 ↔ v = .slice none 0 0 ∧ str.size = 0) → K (putF d v' F) w') :
    OpK P n F ⟨d, .call { callee := .builtin .append, args := #[x, y], argTypes := #[t, tu] }, ty, pos, af, gd⟩ w K := by
  obtain ⟨hu, ti, hti, hsz'⟩ := slB_spec ht
  have hz' : ti.zero = some (.int .u8 0) := by simpa [ZeroIs, hti] using hz
  have hb' : ti.bytes = 1 := by simpa [hti] using hb
  have hs1 := hs.pick hp
  have hus := strB_spec hu'
  have hmax : m + str.size ≤ maxLen := by simp only [maxLen]; omega
  obtain ⟨v', w', hr, ho, hg, hnil⟩ := run_append_own_string (P := P) (w := w) 0 t tu ty e ti hu hus hti hz' hsz' hb' v m xs hs1.own_row0 str hmax hm (Nat.zero_le _)
  have hblk := append_block hr hnil hs1.own_row0 (fun hv h0 => by
      subst hv
      have hf := run_firstCells_string (P := P) (w := w) ti.size str
      rw [h0] at hf
      exact ⟨.slice none 0 0, by simp [Builtin.append_, run_underlying hu, run_underlying hus, sizeOf, typeInfo, hti, Builtin.lenOf, h0, hf]⟩) (fun hv h0 => by
      subst hv
      have hm0 : m = 0 := by
        rcases hs1.own_row0.2 with ⟨_, h⟩ | ⟨g, cap, cur, h, _⟩
        · exact h
        · cases h
      subst hm0
      have hn : ¬ str.size = 0 := by omega
      have h63' : ¬ (9223372036854775807 < (str.size : Int)) := by omega
      have h48' : ¬ (281474976710656 < Builtin.nextslicecap str.size 0 * ti.bytes) := by rw [nextslicecap_zero h0, hb']; omega
      have hf := run_firstCells_string (P := P) (w := w.drew) ti.size str
      refine ⟨str.size, grownCap w str.size 0 e, w.drew.alloc (.cells ((strCells str).toArray ++ Builtin.zeroCells (Value.int .u8 0).cells (grownCap w str.size 0 e - str.size)) e), ?_, Nat.le_succ _⟩
      simp [Builtin.append_, run_underlying hu, run_underlying hus, sizeOf, typeInfo, zeroValue, hti, hz', Builtin.lenOf, hn, h63', h48', Question.forced, run_firstCells_none, hf, newRow, grownCap])
    (fun g cap cur hv hbl hcap hcs hroom => by
      subst hv
      exact ⟨_, _, _, ⟨run_append_room_string (P := P) (w := w) t tu ty e ti hu hus hti hsz' g m cap cur hbl str hroom (by rw [hcs]; omega), Nat.le_refl _⟩⟩)
    (fun g cap cur hv hbl hroom => by
      subst hv
      exact ⟨_, _, _, ⟨run_append_grow_string (P := P) (w := w) t tu ty e ti (.int .u8 0) hu hus hti hz' ⟨g, 0, none⟩ m cap xs (by rw [hs1.own_row0.1, hsz']) (hs1.own_row0.cells (g := g) rfl) str hroom
        (by simp only [maxLen] at hmax; omega) (growslice_fits hroom (by rw [hb']; omega)), Nat.le_succ _⟩⟩)
  refine k_of_value hd (v := v') (w' := w') (fun ρ hρ => ?_) (h v' w' (hs1.own_grown0 hg ho hblk) hnil)
  simp [execOp, resolve, invoke, builtin, hρ x _ hx, hρ y _ hy, hr]

end k

/-- v is a slice of n elements (type e, sz cells each) that begins at the head of a block of its own, or is empty and has no room; xs: the cells of its elements. -/
def OwnSl (e sz : Nat) (v : Value) (n : Nat) (xs : List Value) : As := fun h => (∃ a, v = .slice (some a) 0 0 ∧ n = 0 ∧ xs = [] ∧ Xe.emp h) ∨ OwnSl0 e sz v n xs h
theorem Sat.own_old {E : Env} {w : World} {L : List As} {e sz : Nat} {v : Value} {n : Nat} {xs : List Value} (h : Sat E w (OwnSl0 e sz v n xs :: L)) : Sat E w (OwnSl e sz v n xs :: L) := h.imp fun _ h => .inr h
theorem Sat.own_nil {E : Env} {w : World} {L : List As} (e sz : Nat) (h : Sat E w L) : Sat E w (OwnSl e sz (.slice none 0 0) 0 [] :: L) := (h.own_nil0 e sz).own_old
theorem Sat.own_mk {E : Env} {w : World} {L : List As} {e sz g n cap : Nat} {cur : Array Value} {xs : List Value} (h : Sat E w (pt g (.cells cur e (0, 0)) :: L)) (h1 : n ≤ cap) (h2 : cap ≤ maxLen)
    (h3 : cur.size = cap * sz) (h4 : cur.toList.take (n * sz) = xs) : Sat E w (OwnSl e sz (.slice (some ⟨g, 0, none⟩) n cap) n xs :: L) := (h.own_mk0 h1 h2 h3 h4).own_old
/-- An empty slice without room, wherever it leads. -/
theorem Sat.own_void {E : Env} {w : World} {L : List As} (e sz : Nat) (a : Option Addr) (h : Sat E w L) : Sat E w (OwnSl e sz (.slice a 0 0) 0 [] :: L) := by
  cases a with
  | none => exact h.own_nil e sz
  | some a => exact h.emp.imp fun _ he => .inl ⟨a, rfl, rfl, rfl, he⟩
theorem Sat.own_case {E : Env} {w : World} {L : List As} {e sz : Nat} {v : Value} {n : Nat} {xs : List Value} (h : Sat E w (OwnSl e sz v n xs :: L)) :
    (∃ a, v = .slice (some a) 0 0 ∧ n = 0 ∧ xs = [] ∧ Sat E w L) ∨ Sat E w (OwnSl0 e sz v n xs :: L) := by
  have hd := h.drop
  obtain ⟨he, g, ⟨h1, h2, d, hu, hA, hL⟩, hs⟩ := h
  rcases hA with ⟨a, h3, h4, h5, _⟩ | hA
  · exact .inl ⟨a, h3, h4, h5, hd⟩
  · exact .inr ⟨he, g, ⟨h1, h2, d, hu, hA, hL⟩, hs⟩
theorem Sat.own_open {E : Env} {w : World} {L : List As} {e sz : Nat} {v : Value} {n : Nat} {xs : List Value} (h : Sat E w (OwnSl e sz v n xs :: L)) :
    xs.length = n * sz ∧ ((∃ a, v = .slice a 0 0 ∧ n = 0 ∧ xs = [] ∧ Sat E w L) ∨
      ∃ g cap cur, v = .slice (some ⟨g, 0, none⟩) n cap ∧ Sat E w (pt g (.cells cur e (0, 0)) :: L) ∧ n ≤ cap ∧ cap ≤ maxLen ∧ cur.size = cap * sz ∧ cur.toList.take (n * sz) = xs) := by
  rcases h.own_case with ⟨a, h3, h4, h5, hd⟩ | h
  · exact ⟨by rw [h5, h4]; simp, .inl ⟨_, h3, h4, h5, hd⟩⟩
  · obtain ⟨hl, ⟨h1, h2, h3, h4⟩ | h⟩ := h.own_open0
    · exact ⟨hl, .inl ⟨_, h1, h2, h3, h4⟩⟩
    · exact ⟨hl, .inr h⟩
theorem Sat.own_shape {E : Env} {w : World} {L : List As} {e sz : Nat} {v : Value} {n : Nat} {xs : List Value} (h : Sat E w (OwnSl e sz v n xs :: L)) :
    ∃ a c, v = .slice a n c ∧ n ≤ c ∧ c ≤ maxLen ∧ (0 < n → ∃ g, a = some ⟨g, 0, none⟩) := by
  obtain ⟨_, ⟨a, hv, hn, _⟩ | ⟨g, cap, cur, hv, _, h1, h2, _⟩⟩ := h.own_open
  · exact ⟨a, 0, by rw [hv, hn], by omega, by simp [maxLen], fun h0 => by omega⟩
  · exact ⟨_, cap, hv, h1, h2, fun _ => ⟨g, rfl⟩⟩
/-- A cell of an element of a slice of the call's own. -/
theorem own_cell {E : Env} {w : World} {L L' : List As} {e sz g n cap j : Nat} {xs : List Value} {u : Value} (hs : Sat E w L) (hp : Pick (OwnSl e sz (.slice (some ⟨g, 0, none⟩) n cap) n xs) L L') (hu : xs[j]? = some u) :
    w.cell? ⟨g, j, none⟩ = some u := by
  rcases (hs.pick hp).own_case with ⟨_, _, _, h, _⟩ | h
  · rw [h] at hu; simp at hu
  · have := h.own_row0.cells (g := g) rfl j u hu
    rwa [Addr.add_plain, Nat.zero_add] at this
/-- The cells of element i. -/
theorem own_cells {E : Env} {w : World} {L L' : List As} {e sz g n cap : Nat} {xs : List Value} (hs : Sat E w L) (hp : Pick (OwnSl e sz (.slice (some ⟨g, 0, none⟩) n cap) n xs) L L') :
    ∀ {vs : List Value} {o : Nat}, SubAt xs o vs → CellsAt w g o vs := by
  intro vs
  induction vs with
  | nil => exact fun _ => trivial
  | cons v vs ih => exact fun h => ⟨own_cell hs hp h.1, ih h.2⟩

section k
variable {P : Program} {n : NF} {F : Fr} {w : World} {K : Fr → World → Prop} {d : Option Nat} {ty : TypeId} {pos : String} {af : Array Edge} {gd : Option (Nat × Bool)}
  {x y : Operand} {t : TypeId} {E : Env} {L L' : List As}
/-- What is appended: nothing, or k elements' cells that stand in one block. -/
def SrcAt (w : World) (a : Option Addr) (k : Nat) (news : List Value) : Prop := (k = 0 ∧ news = []) ∨ ∃ b o, a = some ⟨b, o, none⟩ ∧ CellsAt w b o news

/-- append(s, y...) onto a slice of the call's own. -/
theorem k_appendS {e sz bytes : Nat} {z : Value} {v : Value} {m : Nat} {xs : List Value} {a : Option Addr} {c k : Nat} {news : List Value} (hs : Sat E w L) (ht : slB P t e sz = true) (hz : ZeroIs P e z)
    (hb : (P.info? e).map (·.bytes) = some bytes) (hzc : z.cells.size = sz) (hsz : 0 < sz) (hx : opd F x = some v) (hy : opd F y = some (.slice a k c))
    (hp : Pick (OwnSl e sz v m xs) L L') (hn : news.length = k * sz) (hc : SrcAt w a k news) (h1 : ∀ u ∈ news, u.oneCell' = true) (hm : (m + k) * bytes ≤ 140737488355328) (hm' : m + k ≤ maxLen) (hd : okD n d = true)
    (h : ∀ v' w', Sat E w' (OwnSl e sz v' (m + k) (xs ++ news) :: L') → (v' = .slice none 0 0 ↔ v = .slice none 0 0 ∧ k = 0) → K (putF d v' F) w') :
    OpK P n F ⟨d, .call { callee := .builtin .append, args := #[x, y], argTypes := #[t, t] }, ty, pos, af, gd⟩ w K := by
  have hs1 := hs.pick hp
  obtain ⟨hu, ti, hti, hsz'⟩ := slB_spec ht
  have hz' : ti.zero = some z := by simpa [ZeroIs, hti] using hz
  have hb' : ti.bytes = bytes := by simpa [hti] using hb
  by_cases hk : k = 0
  · subst hk
    have hn0 : news = [] := List.eq_nil_of_length_eq_zero (by simpa using hn)
    subst hn0
    obtain ⟨va, vc, rfl, hle, _, _⟩ := hs1.own_shape
    refine k_of_value hd (v := .slice va m vc) (w' := w) (fun ρ hρ => ?_) (h _ w (by simpa using hs1) (by simp))
    have hsrc : ∀ w : World, (Builtin.append_ #[t, t] ty #[.slice va m vc, .slice a 0 c]).run P w = .ok (.slice va m vc) w := fun w => by
      have hf : (Builtin.firstCells sz 0 (.slice a 0 c)).run P w = .ok #[] w := by
        cases a with
        | none => exact run_firstCells_none ..
        | some a => exact run_firstCells_some (P := P) w sz 0 a 0 c [] (by simp) (by simp)
      cases va <;> simp [Builtin.append_, run_underlying hu, sizeOf, typeInfo, hti, hsz', Builtin.lenOf, hle, hf, storeCells]
    simp [execOp, resolve, invoke, builtin, hρ x _ hx, hρ y _ hy, hsrc]
  · rcases hc with ⟨h0, _⟩ | ⟨b, o, rfl, hc⟩
    · exact absurd h0 hk
    rcases hs1.own_case with ⟨va, rfl, rfl, rfl, hd'⟩ | hs0
    · have hcells : ∀ j u, news[j]? = some u → w.cell? ((⟨b, o, none⟩ : Addr).add j) = some u := fun j u hj => by rw [Addr.add_plain]; exact hc.get j u hj
      have hr := run_append_grow (P := P) w t ty e ti z hu hti hz' va 0 0 [] (by simp) (by simp) ⟨b, o, none⟩ k c news (by rw [hn, hsz']) hcells (by omega) (by simp only [maxLen] at hm'; omega) (growslice_fits (by omega) (by rw [hb']; exact hm))
      have hge := grownCap_ge w (0 + k) 0 e
      have hcm : grownCap w (0 + k) 0 e ≤ maxLen := grownCap_le_maxLen w (0 + k) 0 e hm'
      simp only [Nat.zero_add] at hr hge hcm
      refine k_of_value hd (v := .slice (some ⟨w.heap.size, 0, none⟩) k (grownCap w k 0 e)) (w' := w.drew.alloc (.cells (#[] ++ news.toArray ++ Builtin.zeroCells z.cells (grownCap w k 0 e - k)) e (0, 0))) (fun ρ hρ => ?_) (h _ _ ?_ ?_)
      · simp [execOp, resolve, invoke, builtin, hρ x _ hx, hρ y _ hy, hr]
      · rw [Nat.zero_add, List.nil_append]
        refine Sat.own_mk (cap := grownCap w k 0 e) (hd'.drew.alloc) hge hcm ?_ ?_
        · simp [hn, hzc, Builtin.zeroCells]
          rw [← Nat.add_mul]; congr 1; omega
        · simp [← hn]
      · simp
    · refine k_append0 hs0 ht hz hb hzc hsz hx hy .at0 hn hc h1 hm hm' hd (fun v' w' hw' hnil => h v' w' hw'.own_old hnil)
theorem k_append {e sz bytes : Nat} {z : Value} {v : Value} {m : Nat} {xs : List Value} {b o c k : Nat} {news : List Value} (hs : Sat E w L) (ht : slB P t e sz = true) (hz : ZeroIs P e z)
    (hb : (P.info? e).map (·.bytes) = some bytes) (hzc : z.cells.size = sz) (hsz : 0 < sz) (hx : opd F x = some v) (hy : opd F y = some (.slice (some ⟨b, o, none⟩) k c))
    (hp : Pick (OwnSl e sz v m xs) L L') (hn : news.length = k * sz) (hc : CellsAt w b o news) (h1 : ∀ u ∈ news, u.oneCell' = true) (hm : (m + k) * bytes ≤ 140737488355328) (hm' : m + k ≤ maxLen) (hd : okD n d = true)
    (h : ∀ v' w', Sat E w' (OwnSl e sz v' (m + k) (xs ++ news) :: L') → (v' = .slice none 0 0 ↔ v = .slice none 0 0 ∧ k = 0) → K (putF d v' F) w') :
    OpK P n F ⟨d, .call { callee := .builtin .append, args := #[x, y], argTypes := #[t, t] }, ty, pos, af, gd⟩ w K :=
  k_appendS hs ht hz hb hzc hsz hx hy hp hn (.inr ⟨b, o, rfl, hc⟩) h1 hm hm' hd h
/-- append(s, t...): the bytes of a string behind a row of bytes. -/
theorem k_appendStr {e : Nat} {tu : TypeId} {v : Value} {m : Nat} {xs : List Value} {str : ByteArray} (hs : Sat E w L) (ht : slB P t e 1 = true) (hu' : strB P tu = true) (hz : ZeroIs P e (.int .u8 0))
    (hb : (P.info? e).map (·.bytes) = some 1) (hx : opd F x = some v) (hy : opd F y = some (.string str))
    (hp : Pick (OwnSl e 1 v m xs) L L') (hm : m + str.size ≤ 140737488355328) (hd : okD n d = true)
    (h : ∀ v' w', Sat E w' (OwnSl e 1 v' (m + str.size) (xs ++ strCells str) :: L') → (v' = .slice none 0 0 ↔ v = .slice none 0 0 ∧ str.size = 0) → K (putF d v' F) w') :
    OpK P n F ⟨d, .call { callee := .builtin .append, args := #[x, y], argTypes := #[t, tu] }, ty, pos, af, gd⟩ w K := by
  have hs1 := hs.pick hp
  obtain ⟨hu, ti, hti, hsz'⟩ := slB_spec ht
  have hz' : ti.zero = some (.int .u8 0) := by simpa [ZeroIs, hti] using hz
  have hb' : ti.bytes = 1 := by simpa [hti] using hb
  have hus := strB_spec hu'
  rcases hs1.own_case with ⟨va, rfl, rfl, rfl, hd'⟩ | hs0
  · by_cases hk : str.size = 0
    · have hn0 : strCells str = [] := List.eq_nil_of_length_eq_zero (by simpa [strCells, Array.length_toList] using hk)
      have hf : (Builtin.firstCells 1 0 (.string str)).run P w = .ok #[] w := by
        have := run_firstCells_string (P := P) (w := w) 1 str
        rw [hk] at this
        rw [this, hn0]
      have hr : (Builtin.append_ #[t, tu] ty #[.slice (some va) 0 0, .string str]).run P w = .ok (.slice (some va) 0 0) w := by
        simp [Builtin.append_, run_underlying hu, run_underlying hus, sizeOf, typeInfo, hti, hsz', Builtin.lenOf, hk, hf, storeCells]
      refine k_of_value hd (v := .slice (some va) 0 0) (w' := w) (fun ρ hρ => ?_) (h _ w (by rw [hn0, hk]; simpa using hs1) (by simp))
      simp [execOp, resolve, invoke, builtin, hρ x _ hx, hρ y _ hy, hr]
    · have hr := run_append_grow_string (P := P) (w := w) t tu ty e ti (.int .u8 0) hu hus hti hz' va 0 0 [] (by simp) (by simp) str (by omega) (by omega) (growslice_fits (by omega) (by rw [hb']; omega))
      have hge := grownCap_ge w (0 + str.size) 0 e
      have hcm : grownCap w (0 + str.size) 0 e ≤ maxLen := grownCap_le_maxLen w (0 + str.size) 0 e (by simp only [maxLen]; omega)
      simp only [Nat.zero_add] at hr hge hcm
      have hl : (strCells str).length = str.size := by simp [strCells, Array.length_toList]
      refine k_of_value hd (v := .slice (some ⟨w.heap.size, 0, none⟩) str.size (grownCap w str.size 0 e)) (w' := w.drew.alloc (.cells (#[] ++ (strCells str).toArray ++ Builtin.zeroCells (Value.int .u8 0).cells (grownCap w str.size 0 e - str.size)) e (0, 0))) (fun ρ hρ => ?_) (h _ _ ?_ ?_)
      · simp [execOp, resolve, invoke, builtin, hρ x _ hx, hρ y _ hy, hr]
      · rw [Nat.zero_add, List.nil_append]
        refine Sat.own_mk (cap := grownCap w str.size 0 e) (hd'.drew.alloc) hge hcm ?_ ?_
        · simp [hl, Builtin.zeroCells, Value.cells]
          omega
        · simp [← hl]
      · simp
  · exact k_appendStr0 hs0 ht hu' hz hb hx hy .at0 hm hd (fun v' w' hw' hnil => h v' w' hw'.own_old hnil)
end k

section k
variable {P : Program} {n : NF} {F : Fr} {w : World} {K : Fr → World → Prop} {d : Option Nat} {ty : TypeId} {pos : String} {af : Array Edge} {gd : Option (Nat × Bool)}
  {x y : Operand} {t : TypeId} {E : Env} {L L' : List As}
/-- make([]T, l, c). -/
theorem k_makeSlice {e sz bytes : Nat} {z : Value} {kl kc : IntKind} {l c : Int} (hs : Sat E w L) (ht : slB P t e sz = true) (hz : ZeroIs P e z)
    (hb : (P.info? e).map (·.bytes) = some bytes) (hx : opd F x = some (.int kl l)) (hy : opd F y = some (.int kc c))
    (h0 : 0 ≤ l) (h1 : l ≤ c) (hm : (bytes : Int) * c ≤ 281474976710656) (h63 : c ≤ 9223372036854775807) (hd : okD n d = true)
    (h : ∀ b w', Sat E w' (OwnSl e sz (.slice (some ⟨b, 0, none⟩) l.toNat c.toNat) l.toNat ((madeCells z.cells (c.toNat * sz)).toList.take (l.toNat * sz)) :: L) → K (putF d (.slice (some ⟨b, 0, none⟩) l.toNat c.toNat) F) w') :
    OpK P n F ⟨d, .makeSlice t x y, ty, pos, af, gd⟩ w K := by
  obtain ⟨hu, ti, hti, rfl⟩ := slB_spec ht
  have hz' : ti.zero = some z := by simpa [ZeroIs, hti] using hz
  have hb' : ti.bytes = bytes := by simpa [hti] using hb
  have hr := run_make (P := P) w t e ti z hu hti hz' kl kc l c h0 h1 (by rw [hb']; exact hm) h63
  refine k_of_value hd (v := .slice (some ⟨w.heap.size, 0, none⟩) l.toNat c.toNat) (w' := w.alloc (.cells (madeCells z.cells (c.toNat * ti.size)) e)) (fun ρ hρ => ?_) (h _ _ ?_)
  · simp [execOp, hρ x _ hx, hρ y _ hy, hr]
  · exact Sat.own_mk hs.alloc (by omega) (by simp only [maxLen]; omega) (size_madeCells _ _) rfl
theorem made_one (z : Value) (hz : z.cells = #[z]) (n m : Nat) (h : n ≤ m) : (madeCells z.cells (m * 1)).toList.take (n * 1) = List.replicate n z := by
  rw [hz, toList_madeCells_one]
  simp [List.take_replicate, Nat.min_eq_left h]

/-- One cell of an element of a slice of the call's own is written. -/
theorem k_storeOwn {e sz g m cap j : Nat} {v : Value} {xs : List Value} (hs : Sat E w L) (ht : scalB P t = true)
    (hx : opd F x = some (.pointer (some ⟨g, j, none⟩))) (hy : opd F y = some v) (hv : v.oneCell' = true)
    (hp : Pick (OwnSl e sz (.slice (some ⟨g, 0, none⟩) m cap) m xs) L L') (hj : j < xs.length)
    (h : ∀ w', Sat E w' (OwnSl e sz (.slice (some ⟨g, 0, none⟩) m cap) m (xs.set j v) :: L') → K F w') :
    OpK P n F ⟨none, .store t x y, ty, pos, af, gd⟩ w K := by
  have h1 := hs.pick hp
  obtain ⟨hl, ⟨_, _, _, hx0, _⟩ | ⟨g', cap', cur, hv', hs2, h3, h4, h5, h6⟩⟩ := h1.own_open
  · rw [hx0] at hj; exact absurd hj (by simp)
  · simp only [Value.slice.injEq, Option.some.injEq, Addr.mk.injEq, and_true, true_and] at hv'
    obtain ⟨rfl, rfl⟩ := hv'
    have hjc : j < cur.toList.length := by
      have : xs.length ≤ cur.toList.length := by rw [← h6, List.length_take]; omega
      omega
    refine k_store (cs := cur.toList) (cs' := cur.toList.set j v) (u := cur.toList[j]) hs2 ht hx hy hv (by rw [Array.toArray_toList]; exact .here _) (List.getElem?_eq_getElem hjc) rfl (fun w' hw' => h w' ?_)
    refine Sat.own_mk hw' h3 h4 (by simp [h5]) ?_
    rw [← h6]
    simp [List.take_set]
/-- A struct is written over a block's cells, from o on. -/
theorem k_storeAgg {b o k : Nat} {vs cs cs' : List Value} {t' : TypeId} (hs : Sat E w L) (ht : aggB P t k = true)
    (hx : opd F x = some (.pointer (some ⟨b, o, none⟩))) (hy : opd F y = some (.agg vs.toArray)) (hv : ∀ u ∈ vs, u.oneCell' = true) (hk : vs.length = k)
    (hp : Pick (pt b (.cells cs.toArray t' (0, 0))) L L') (ho : Nat.ble (o + k) cs.length = true) (hc : cs.take o ++ vs ++ cs.drop (o + vs.length) = cs')
    (h : ∀ w', Sat E w' (pt b (.cells cs'.toArray t' (0, 0)) :: L') → K F w') :
    OpK P n F ⟨none, .store t x y, ty, pos, af, gd⟩ w K := by
  have h1 := hs.pick hp
  have ho' := Nat.le_of_ble_eq_true ho
  have hst := run_storeCells_at P b o t' vs 0 cs.toArray w h1.block (by simp; omega) hv
  simp only [Nat.add_zero, List.toList_toArray] at hst
  refine k_of_skip rfl (w' := w.setRow b cs'.toArray) (fun ρ hρ => ?_) (h _ ?_)
  · subst hc
    simp only [execOp, hρ x _ hx, hρ y _ hy, Instr.storeAt, Instr.sureAddr, storeVar, Sem.run_bind, Sem.run_pure, Result.andThen_ok, run_sizeOf_agg ht, Value.cells, List.size_toArray, hk,
      ne_eq, not_true_eq_false, if_false, List.toList_toArray]
    rw [hst, ← hk]
    rfl
  · exact h1.set rfl (setRow_heap w b cs.toArray cs'.toArray t' _ h1.block) (fun i hi => setRow_other w b i _ hi)
/-- .. over all of it. -/
theorem k_storeWhole {b k : Nat} {vs cs : List Value} {t' : TypeId} (hs : Sat E w L) (ht : aggB P t k = true)
    (hx : opd F x = some (.pointer (some ⟨b, 0, none⟩))) (hy : opd F y = some (.agg vs.toArray)) (hv : ∀ u ∈ vs, u.oneCell' = true) (hk : vs.length = k)
    (hp : Pick (pt b (.cells cs.toArray t' (0, 0))) L L') (ho : cs.length = k)
    (h : ∀ w', Sat E w' (pt b (.cells vs.toArray t' (0, 0)) :: L') → K F w') :
    OpK P n F ⟨none, .store t x y, ty, pos, af, gd⟩ w K :=
  k_storeAgg hs ht hx hy hv hk hp (by rw [Nat.zero_add, ho]; exact Nat.ble_self_eq_true k) (by simp [hk, ho]) h
end k

end Go.Proofs.Ytlgpdglnfjndhaa.Xe
