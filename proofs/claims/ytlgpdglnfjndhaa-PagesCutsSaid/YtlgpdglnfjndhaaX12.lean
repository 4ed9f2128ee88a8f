/-
  XE, part 12: what Go's package slices does in place: more of a row's room, append in place and of zeros, clear of a part, overlaps, cap; calls of an interface's methods.
-/
import Derived.Test.YtlgpdglnfjndhaaX11
import Derived.Lib.AppendZerosOnto
import Derived.Lib.Overlaps
namespace Go.Proofs.Ytlgpdglnfjndhaa.Xe
open Go Go.Lib

section
variable {E : Env} {w : World} {L L' : List As}
/-- A slice of the call's own, as far as its room goes. -/
theorem Sat.own_more {e sz n c j : Nat} {a : Option Addr} {xs : List Value} (h : Sat E w (OwnSl e sz (.slice a n c) n xs :: L)) (h1 : n ≤ j) (h2 : j ≤ c) :
    ∃ ys : List Value, ys.length = (j - n) * sz ∧ Sat E w (OwnSl e sz (.slice a j c) j (xs ++ ys) :: L) := by
  obtain ⟨hl, ⟨a', hv, hn, hx, hL⟩ | ⟨g, cap, cur, hv, hs, h3, h4, h5, h6⟩⟩ := h.own_open
  · simp only [Value.slice.injEq] at hv
    obtain ⟨rfl, rfl, rfl⟩ := hv
    have : j = 0 := by omega
    subst this; subst hx
    exact ⟨[], by simp, h⟩
  · simp only [Value.slice.injEq] at hv
    obtain ⟨rfl, _, rfl⟩ := hv
    have e1 : j * sz ≤ cur.size := by rw [h5]; exact Nat.mul_le_mul_right _ h2
    have e2 : n * sz ≤ j * sz := Nat.mul_le_mul_right _ h1
    refine ⟨(cur.toList.take (j * sz)).drop (n * sz), ?_, Sat.own_mk hs h2 h4 h5 ?_⟩
    · rw [List.length_drop, List.length_take, Array.length_toList, Nat.min_eq_left e1, Nat.sub_mul]
    · rw [← h6]
      conv => lhs; rw [← List.take_append_drop (n * sz) (cur.toList.take (j * sz))]
      rw [List.take_take, Nat.min_eq_left e2]
end

section v
variable {P : Program} {F : Fr} {S : World → Prop} {d : Option Nat} {ty : TypeId} {pos : String} {af : Array Edge} {gd : Option (Nat × Bool)}
  {x y z u : Operand} {t t' : TypeId}
theorem v_capSlice {e sz : Nat} {a : Option Addr} {n c : Nat} (ht : slB P t e sz = true) (hx : opd F x = some (.slice a n c)) :
    OpV P F S ⟨d, .call { callee := .builtin .cap, args := #[x], argTypes := #[t] }, ty, pos, af, gd⟩ (.int .i64 c) := fun ρ w hρ _ => by
  obtain ⟨hu, _⟩ := slB_spec ht
  simp [execOp, resolve, invoke, builtin, hρ x _ hx, Builtin.cap_, run_underlying hu, goInt]
/-- x[i:j:m] of a slice that leads somewhere. -/
theorem v_sliceAll {e sz b o len cap : Nat} {k k' k'' : IntKind} {i j m : Int} (ht : slB P t e sz = true) (h : opd F x = some (.slice (some ⟨b, o, none⟩) len cap)) (hy : opd F y = some (.int k i)) (hz : opd F z = some (.int k' j)) (hu : opd F u = some (.int k'' m))
    (h1 : 0 ≤ i) (h2 : i ≤ j) (h3 : j ≤ m) (h4 : m ≤ cap) (h5 : i < m) : OpV P F S ⟨d, .slice t x (some y) (some z) (some u), ty, pos, af, gd⟩ (.slice (some ⟨b, o + i.toNat * sz, none⟩) (j.toNat - i.toNat) (m.toNat - i.toNat)) := fun ρ w hρ _ => by
  obtain ⟨hu', ti, hti, rfl⟩ := slB_spec ht
  have hm : 0 ≤ m ∧ m ≤ (cap : Int) := ⟨by omega, h4⟩
  have hj : j ≤ max m 0 := by omega
  have hi : i ≤ max j 0 := by omega
  have hj0 : 0 ≤ j := by omega
  have hc : ¬ m.toNat = i.toNat := by omega
  simp [execOp, hρ x _ h, hρ y _ hy, hρ z _ hz, hρ u _ hu, Instr.sliceAt, underlying, hu', Instr.slice, Instr.sliceBounds, Instr.sliceBound, asIntOf, hj, hm, hi, h1, hj0, hc, sizeOf, typeInfo, hti, Addr.add_plain]
end v

section k
variable {P : Program} {n : NF} {F : Fr} {w : World} {K : Fr → World → Prop} {d : Option Nat} {ty : TypeId} {pos : String} {af : Array Edge} {gd : Option (Nat × Bool)}
  {x y : Operand} {t : TypeId} {E : Env} {L L' : List As}
/-- append where there is room. -/
theorem k_appendIn {e sz g m cap k c : Nat} {a : Option Addr} {xs news : List Value} (hs : Sat E w L) (ht : slB P t e sz = true)
    (hx : opd F x = some (.slice (some ⟨g, 0, none⟩) m cap)) (hy : opd F y = some (.slice a k c)) (hp : Pick (OwnSl e sz (.slice (some ⟨g, 0, none⟩) m cap) m xs) L L')
    (hl : news.length = k * sz) (hsrc : SrcAt w a k news) (h1 : ∀ u ∈ news, u.oneCell' = true) (hroom : m + k ≤ cap) (hd : okD n d = true)
    (h : ∀ w', Sat E w' (OwnSl e sz (.slice (some ⟨g, 0, none⟩) (m + k) cap) (m + k) (xs ++ news) :: L') → K (putF d (.slice (some ⟨g, 0, none⟩) (m + k) cap) F) w') :
    OpK P n F ⟨d, .call { callee := .builtin .append, args := #[x, y], argTypes := #[t, t] }, ty, pos, af, gd⟩ w K := by
  obtain ⟨hu, ti, hti, rfl⟩ := slB_spec ht
  have hs1 := hs.pick hp
  obtain ⟨ys, hyl, hs2⟩ := hs1.own_more (j := m + k) (by omega) hroom
  have hf : (Builtin.firstCells ti.size k (.slice a k c)).run P w = .ok news.toArray w := by
    rcases hsrc with ⟨h0, hv⟩ | ⟨b', o', rfl, hc⟩
    · subst h0; subst hv
      cases a with
      | none => simp [Builtin.firstCells]
      | some a =>
        have := run_loadCells_list (P := P) w a [] (by simp)
        simpa [Builtin.firstCells] using this
    · have := run_loadCells_list (P := P) w ⟨b', o', none⟩ news (fun j v hv => by rw [Addr.add_plain]; exact hc.get j v hv)
      simpa [Builtin.firstCells, ← hl] using this
  obtain ⟨hxl, hcase⟩ := hs2.own_open
  have hxl1 := hs1.own_len
  have key : ∃ w', (storeCells ⟨g, m * ti.size, none⟩ news 0).run P w = .ok () w' ∧ Sat E w' (OwnSl e ti.size (.slice (some ⟨g, 0, none⟩) (m + k) cap) (m + k) (xs ++ news) :: L') := by
    rcases hcase with ⟨a', hv, hn0, hx0, hL⟩ | ⟨g', cap', cur, hv', hs3, h3, h4, h5, h6⟩
    · have hk0 : k = 0 := by omega
      have hn : news = [] := List.eq_nil_of_length_eq_zero (by rw [hl, hk0]; simp)
      subst hn
      have hx9 : xs = [] := by cases xs with | nil => rfl | cons _ _ => simp at hx0
      subst hx9
      have hm0 : m = 0 := by omega
      subst hm0; subst hk0
      exact ⟨w, by simp [storeCells], by simpa using hs1⟩
    · simp only [Value.slice.injEq, Option.some.injEq, Addr.mk.injEq, and_true, true_and] at hv'
      obtain ⟨rfl, rfl⟩ := hv'
      have e1 : m * ti.size + k * ti.size ≤ cur.size := by rw [h5, ← Nat.add_mul]; exact Nat.mul_le_mul_right _ h3
      have hst := run_storeCells_at P g (m * ti.size) e news 0 cur w hs3.block (by rw [hl]; omega) h1
      simp only [Nat.add_zero] at hst
      refine ⟨_, hst, Sat.own_mk (hs3.set rfl (setRow_heap w g cur _ e _ hs3.block) (fun i hi => setRow_other w g i _ hi)) h3 h4 ?_ ?_⟩
      · simp only [List.size_toArray, List.length_append, List.length_take, Array.length_toList, List.length_drop, hl]
        omega
      · have e2 : xs = cur.toList.take (m * ti.size) := by
          have := congrArg (List.take (m * ti.size)) h6
          rw [List.take_take, Nat.min_eq_left (Nat.mul_le_mul_right _ (by omega)), List.take_append_of_le_length (by omega), List.take_of_length_le (l := xs) (by omega)] at this
          exact this.symm
        have e3 : (xs ++ news).length = (m + k) * ti.size := by rw [List.length_append, hxl1, hl, Nat.add_mul]
        rw [← e2]
        show List.take ((m + k) * ti.size) (xs ++ news ++ _) = _
        rw [List.take_append_of_le_length (by omega), List.take_of_length_le (by omega)]
  obtain ⟨w', hst, hs3⟩ := key
  refine k_of_value hd (v := .slice (some ⟨g, 0, none⟩) (m + k) cap) (w' := w') (fun ρ hρ => ?_) (h w' hs3)
  have hst' : (storeCells ((⟨g, 0, none⟩ : Addr).add (m * ti.size)) news 0).run P w = .ok () w' := by rw [Addr.add_plain, Nat.zero_add]; exact hst
  simp [execOp, resolve, invoke, builtin, hρ x _ hx, hρ y _ hy, Builtin.append_, run_underlying hu, Builtin.lenOf, sizeOf, typeInfo, hti, hroom, hf, hst']
/-- append(s[:m], make(.., k)...) where there is no room: a new row; the old one stays. -/
theorem k_appendZ {e sz bytes m n' c k tn : Nat} {z : Value} {kn kq : IntKind} {a : Option Addr} {xs : List Value} (hs : Sat E w L) (ht : slB P t e sz = true) (htn : intB P tn kn = true) (hz : ZeroIs P e z)
    (hb : (P.info? e).map (·.bytes) = some bytes) (hzs : z.cells.size = sz) (hsz : 0 < sz)
    (hx : opd F x = some (.slice a m c)) {q : Int} (hy : opd F y = some (.int kq q)) (hq : q = k) (hp : Pick (OwnSl e sz (.slice a n' c) n' xs) L L')
    (hmn : m ≤ n') (h0 : 0 < k) (hg : c < m + k) (hbig : (m + k) * bytes ≤ 140737488355328) (hmax : m + k ≤ maxLen) (hd : okD n d = true)
    (h : ∀ b c' zs w', zs.length = k * sz → Sat E w' (OwnSl e sz (.slice (some ⟨b, 0, none⟩) (m + k) c') (m + k) (xs.take (m * sz) ++ zs) :: L) → K (putF d (.slice (some ⟨b, 0, none⟩) (m + k) c') F) w') :
    OpK P n F ⟨d, .call { callee := .builtin .append, args := #[x, y], argTypes := #[t, tn] }, ty, pos, af, gd⟩ w K := by
  subst hq
  obtain ⟨hu, ti, hti, rfl⟩ := slB_spec ht
  have hz' : ti.zero = some z := by simpa [ZeroIs, hti] using hz
  have hb' : ti.bytes = bytes := by simpa [hti] using hb
  have hs1 := hs.pick hp
  have hxl := hs1.own_len
  have hm1 : m * ti.size ≤ n' * ti.size := Nat.mul_le_mul_right _ hmn
  have hold : (Builtin.firstCells ti.size m (.slice a m c)).run P w.drew = .ok (xs.take (m * ti.size)).toArray w.drew := by
    rcases hs1.own_open.2 with ⟨a', hv, hn0, hx0, hL⟩ | ⟨g', cap', cur, hv', hs3, h3, h4, h5, h6⟩
    · have : m = 0 := by omega
      subst this
      cases a with
      | none => simp [Builtin.firstCells]
      | some a =>
        have := run_loadCells_list (P := P) w.drew a [] (by simp)
        simpa [Builtin.firstCells] using this
    · simp only [Value.slice.injEq] at hv'
      obtain ⟨rfl, _, rfl⟩ := hv'
      have := run_loadCells_list (P := P) w.drew ⟨g', 0, none⟩ (xs.take (m * ti.size)) (fun j v hv => by
        rw [Addr.add_plain, Nat.zero_add]
        have h9 : xs[j]? = some v := by
          rw [List.getElem?_take] at hv
          split at hv
          · exact hv
          · cases hv
        exact own_cell hs1.drew .at0 h9)
      have e9 : (xs.take (m * ti.size)).length = m * ti.size := by rw [List.length_take, hxl]; omega
      rw [e9] at this
      simpa [Builtin.firstCells] using this
  have hr := run_append_grow_zeros (P := P) w t tn ty e ti z kq kn hu (intB_spec htn) hti hz' a m c _ hold k h0 hsz hg (by have := hmax; simp only [maxLen] at this; omega) (by
      rw [hb']
      have h1 : k * bytes ≤ (m + k) * bytes := Nat.mul_le_mul_right _ (by omega)
      omega) (growslice_fits hg (by rw [hb']; exact hbig))
  have hge := grownCap_ge w (m + k) c e
  have e1 : (Builtin.zeroCells z.cells k).toList.length = k * ti.size := by rw [Array.length_toList, size_zeroCells, hzs]
  have e9 : (xs.take (m * ti.size)).length = m * ti.size := by rw [List.length_take, hxl]; omega
  refine k_of_value hd (v := .slice (some ⟨w.heap.size, 0, none⟩) (m + k) (grownCap w (m + k) c e)) (w' := w.drew.alloc (.cells ((xs.take (m * ti.size)).toArray ++ Builtin.zeroCells z.cells k ++ Builtin.zeroCells z.cells (grownCap w (m + k) c e - (m + k))) e)) (fun ρ hρ => ?_) (h w.heap.size (grownCap w (m + k) c e) (Builtin.zeroCells z.cells k).toList _ e1 ?_)
  · simp only [execOp, resolve, invoke, builtin, hρ x _ hx, hρ y _ hy, Sem.run_bind, Sem.run_pure, Result.andThen_ok, List.map_toArray, List.map_cons, List.map_nil]
    rw [hr]
    rfl
  · refine Sat.own_mk (Sat.alloc (w := w.drew) (hs.drew)) hge (grownCap_le_maxLen w (m + k) c e hmax) ?_ ?_
    · simp only [Array.size_append, List.size_toArray, size_zeroCells, hzs, e9]
      rw [← Nat.add_mul, ← Nat.add_mul]
      congr 1
      omega
    · simp only [Array.toList_append]
      rw [List.take_append_of_le_length (by rw [List.length_append, e9, e1, Nat.add_mul]; omega), List.take_of_length_le (by rw [List.length_append, e9, e1, Nat.add_mul]; omega)]
/-- clear of a part of a slice of the call's own. -/
theorem k_clearPart {e sz g o k c' m cap : Nat} {z : Value} {xs : List Value} (hs : Sat E w L) (ht : slB P t e sz = true) (hz : ZeroIs P e z) (hzs : z.cells.size = sz) (h1 : ∀ u ∈ z.cells.toList, u.oneCell' = true)
    (hx : opd F x = some (.slice (some ⟨g, o, none⟩) k c')) (hp : Pick (OwnSl e sz (.slice (some ⟨g, 0, none⟩) m cap) m xs) L L') (ho : o + k * sz ≤ xs.length) (hd : okD n d = true)
    (h : ∀ zs w', zs.length = k * sz → Sat E w' (OwnSl e sz (.slice (some ⟨g, 0, none⟩) m cap) m (xs.take o ++ zs ++ xs.drop (o + k * sz)) :: L') → K (putF d (.tuple #[]) F) w') :
    OpK P n F ⟨d, .call { callee := .builtin .clear, args := #[x], argTypes := #[t] }, ty, pos, af, gd⟩ w K := by
  have hs1 := hs.pick hp
  obtain ⟨hu, ti, hti, rfl⟩ := slB_spec ht
  have hz' : ti.zero = some z := by simpa [ZeroIs, hti] using hz
  by_cases h0 : k = 0
  · subst h0
    refine k_of_value hd (v := .tuple #[]) (w' := w) (fun ρ hρ => ?_) (h [] w (by simp) (by simpa using hs1))
    simp [execOp, resolve, invoke, builtin, hρ x _ hx, Builtin.clear_, run_underlying hu]
  · have e2 : (Builtin.zeroCells z.cells k).toList.length = k * ti.size := by rw [Array.length_toList, size_zeroCells, hzs]
    obtain ⟨hl, ⟨_, _, hm0, hx0, _⟩ | ⟨g', cap', cur, hv', hs2, h3, h4, h5, h6⟩⟩ := hs1.own_open
    · have hk0 : k * ti.size = 0 := by rw [hx0] at ho; simp at ho; simp [ho.2]
      refine k_of_value hd (v := .tuple #[]) (w' := w) (fun ρ hρ => ?_) (h [] w (by simp [hk0]) (by simpa [hk0] using hs1))
      have hnil : (Builtin.zeroCells z.cells k).toList = [] := List.eq_nil_of_length_eq_zero (by rw [e2, hk0])
      simp [execOp, resolve, invoke, builtin, hρ x _ hx, Builtin.clear_, run_underlying hu, h0, zeroValue, typeInfo, hti, hz', hnil, storeCells]
    · simp only [Value.slice.injEq, Option.some.injEq, Addr.mk.injEq, and_true, true_and] at hv'
      obtain ⟨rfl, rfl⟩ := hv'
      have e1 : m * ti.size ≤ cur.size := by rw [h5]; exact Nat.mul_le_mul_right _ h3
      have hst := run_storeCells_at P g o e (Builtin.zeroCells z.cells k).toList 0 cur w hs2.block (by rw [e2]; omega) (fun u hu => h1 u (mem_zeroCells hu))
      simp only [Nat.add_zero] at hst
      refine k_of_value hd (v := .tuple #[]) (w' := w.setRow g (cur.toList.take o ++ (Builtin.zeroCells z.cells k).toList ++ cur.toList.drop (o + (Builtin.zeroCells z.cells k).toList.length)).toArray) (fun ρ hρ => ?_) (h (Builtin.zeroCells z.cells k).toList _ e2 ?_)
      · simp [execOp, resolve, invoke, builtin, hρ x _ hx, Builtin.clear_, run_underlying hu, h0, zeroValue, typeInfo, hti, hz', hst]
      · refine Sat.own_mk (hs2.set rfl (setRow_heap w g cur _ e _ hs2.block) (fun i hi => setRow_other w g i _ hi)) h3 h4 ?_ ?_
        · simp only [List.size_toArray, List.length_append, List.length_take, Array.length_toList, List.length_drop, e2]; omega
        · rw [← h6, e2]
          have hxl : o + k * ti.size ≤ m * ti.size := by rw [← hl]; exact ho
          generalize hzz : (Builtin.zeroCells z.cells k).toList = zs at e2
          apply List.ext_getElem?
          intro j
          simp only [List.getElem?_take, List.getElem?_append, List.length_take, List.getElem?_drop, List.length_append, Array.length_toList, e2]
          simp only [Nat.min_eq_left (show o ≤ cur.size by omega), Nat.min_eq_left e1, Nat.min_eq_left (show o ≤ m * ti.size by omega)]
          by_cases hj : j < m * ti.size
          · simp only [hj, if_true]
            split
            · split <;> rfl
            · rw [if_pos (by omega)]
          · simp only [hj, if_false]
            rw [if_neg (by omega), if_neg (by omega)]
            try rw [if_neg (by omega)]
/-- append onto a row of the call's own: in place, if there is room. -/
theorem k_appendB {e sz bytes g m cap k c : Nat} {z : Value} {a : Option Addr} {xs news : List Value} (hs : Sat E w L) (ht : slB P t e sz = true) (hz : ZeroIs P e z) (hb : (P.info? e).map (·.bytes) = some bytes) (hzc : z.cells.size = sz) (hsz : 0 < sz)
    (hx : opd F x = some (.slice (some ⟨g, 0, none⟩) m cap)) (hy : opd F y = some (.slice a k c)) (hp : Pick (OwnSl e sz (.slice (some ⟨g, 0, none⟩) m cap) m xs) L L')
    (hl : news.length = k * sz) (hsrc : SrcAt w a k news) (h1 : ∀ u ∈ news, u.oneCell' = true) (hm : (m + k) * bytes ≤ 140737488355328) (hm' : m + k ≤ maxLen) (hd : okD n d = true)
    (h : ∀ v' w', Sat E w' (OwnSl e sz v' (m + k) (xs ++ news) :: L') → (m + k ≤ cap → v' = .slice (some ⟨g, 0, none⟩) (m + k) cap) → K (putF d v' F) w') :
    OpK P n F ⟨d, .call { callee := .builtin .append, args := #[x, y], argTypes := #[t, t] }, ty, pos, af, gd⟩ w K := by
  by_cases hr : m + k ≤ cap
  · exact k_appendIn hs ht hx hy hp hl hsrc h1 hr hd fun w' hw => h _ w' hw fun _ => rfl
  · exact k_appendS hs ht hz hb hzc hsz hx hy hp hl hsrc h1 hm hm' hd fun v' w' hw _ => h _ w' hw fun h => absurd h hr
/-- clear of what lies behind place q. -/
theorem k_clearTail {e sz g q k c c' m cap : Nat} {z : Value} {xs : List Value} (hs : Sat E w L) (ht : slB P t e sz = true) (hz : ZeroIs P e z) (hzs : z.cells.size = sz) (h1 : ∀ u ∈ z.cells.toList, u.oneCell' = true)
    (hx : opd F x = some (.slice (if c = q then some ⟨g, 0, none⟩ else (some ⟨g, 0, none⟩ : Option Addr).map (·.add (q * sz))) k c')) (hp : Pick (OwnSl e sz (.slice (some ⟨g, 0, none⟩) m cap) m xs) L L') (hq : q + k ≤ m) (hc : m ≤ c) (hd : okD n d = true)
    (h : ∀ zs w', zs.length = k * sz → Sat E w' (OwnSl e sz (.slice (some ⟨g, 0, none⟩) m cap) m (xs.take (q * sz) ++ zs ++ xs.drop (q * sz + k * sz)) :: L') → K (putF d (.tuple #[]) F) w') :
    OpK P n F ⟨d, .call { callee := .builtin .clear, args := #[x], argTypes := #[t] }, ty, pos, af, gd⟩ w K := by
  have hs1 := hs.pick hp
  by_cases h0 : k = 0
  · subst h0
    obtain ⟨hu, ti, hti, rfl⟩ := slB_spec ht
    refine k_of_value hd (v := .tuple #[]) (w' := w) (fun ρ hρ => ?_) (h [] w (by simp) (by simpa using hs1))
    generalize (if c = q then some (⟨g, 0, none⟩ : Addr) else (some ⟨g, 0, none⟩ : Option Addr).map (·.add (q * ti.size))) = a at hx
    cases a <;> simp [execOp, resolve, invoke, builtin, hρ x _ hx, Builtin.clear_, run_underlying hu]
  · rw [if_neg (by omega)] at hx
    simp only [Option.map_some, Addr.add_plain, Nat.zero_add] at hx
    exact k_clearPart hs ht hz hzs h1 hx hp (by rw [hs1.own_len, ← Nat.add_mul]; exact Nat.mul_le_mul_right _ hq) hd h
/-- A call of a function whose body is the model's. -/
theorem k_ext {g : FuncId} {fn : Func} {e : Array Value → Sem Value} {as : List Operand} {ts : Array TypeId} {vs : List Value} {v : Value} (hf : P.funcs[g]? = some fn) (hname : (fn.name == "runtime.NumGoroutine") = false)
    (hb : fn.body.isNone = true) (hn : Extern.findNext fn = none) (he : Extern.find fn = some e) (hvs : opds F as = some vs) (hr : (e vs.toArray).run P w = .ok v w) (hd : okD n d = true) (h : K (putF d v F) w) :
    OpK P n F ⟨d, .call { callee := .value (.func g), args := as.toArray, argTypes := ts }, ty, pos, af, gd⟩ w K := by
  refine k_of_value hd (v := v) (w' := w) (fun ρ hρ => ?_) h
  have hmap := opds_map hρ _ _ hvs
  have e1 : as.toArray.map ρ = vs.toArray := by apply Array.ext'; simp [hmap]
  have e2 : ρ (.func g) = .func (.func g) #[] #[] := hρ (.func g) _ rfl
  have e3 : (callFunc g vs.toArray).run P w = .ok (.value v) w := by rw [run_callFunc_extern hf hname hb hn he, hr]; rfl
  simp only [execOp, resolve, e1, e2, Deferred.ofValue, Sem.run_bind, Sem.run_pure, Result.andThen_ok, invoke]
  simpa using e3
theorem shape_of_row {w : World} {g : Nat} {cs : Array Value} {t : TypeId} {fr : Nat × Nat} (h : w.heap[g]? = some (.cells cs t fr)) : w.shape? g = some (t, cs.size) := by
  simp [World.shape?, h]
theorem overlaps_run {g1 g2 o1 o2 la ca lb cb t1 t2 tS tR e sz : Nat} {cs1 cs2 : Array Value} (ht : slB P tS e sz = true) (hne : g1 ≠ g2) (h1 : w.heap[g1]? = some (.cells cs1 t1 (0, 0))) (h2 : w.heap[g2]? = some (.cells cs2 t2 (0, 0))) (h3 : 0 < cs2.size) :
    (Extern.SlicesOverlaps.overlaps #[tS, tS] #[tR] #[.slice (some ⟨g1, o1, none⟩) la ca, .slice (some ⟨g2, o2, none⟩) lb cb]).run P w = .ok (.bool false) w := by
  obtain ⟨hu, ti, hti, rfl⟩ := slB_spec ht
  exact run_overlaps_apart w tS tR e hu ti.size (fun w => by simp [sizeOf, typeInfo, hti]) ⟨g1, o1, none⟩ ⟨g2, o2, none⟩ la ca lb cb hne t1 t2 cs1.size cs2.size (shape_of_row h1) (shape_of_row h2) (by omega)
    (frozen_of_row w g1 o1 cs1 t1 h1) (frozen_of_row w g1 cs1.size cs1 t1 h1)
/-- Two rows of the call's own lie in two blocks. -/
theorem Sat.own_apart {e1 s1 g1 n1 c1 e2 s2 g2 n2 c2 : Nat} {xs ys : List Value} (h : Sat E w (OwnSl e1 s1 (.slice (some ⟨g1, 0, none⟩) n1 c1) n1 xs :: OwnSl e2 s2 (.slice (some ⟨g2, 0, none⟩) n2 c2) n2 ys :: L)) (h1 : 0 < xs.length) (h2 : 0 < ys.length) :
    ∃ cs1 cs2, g1 ≠ g2 ∧ w.heap[g1]? = some (.cells cs1 e1 (0, 0)) ∧ w.heap[g2]? = some (.cells cs2 e2 (0, 0)) ∧ 0 < cs1.size ∧ 0 < cs2.size := by
  obtain ⟨_, ⟨_, _, _, hx, _⟩ | ⟨g, cap, cur, hv, hs, a3, a4, a5, a6⟩⟩ := h.own_open
  · rw [hx] at h1; cases h1
  · simp only [Value.slice.injEq, Option.some.injEq, Addr.mk.injEq, and_true, true_and] at hv
    obtain ⟨rfl, rfl⟩ := hv
    obtain ⟨_, ⟨_, _, _, hx, _⟩ | ⟨g', cap', cur', hv', hs', b3, b4, b5, b6⟩⟩ := (hs.pick .at1).own_open
    · rw [hx] at h2; cases h2
    · simp only [Value.slice.injEq, Option.some.injEq, Addr.mk.injEq, and_true, true_and] at hv'
      obtain ⟨rfl, rfl⟩ := hv'
      refine ⟨cur, cur', (hs'.pick .at1).ne, hs.block, hs'.block, ?_, ?_⟩
      · rw [← a6, List.length_take] at h1; simp at h1; omega
      · rw [← b6, List.length_take] at h2; simp at h2; omega
/-! ### Methods of interface values -/
/-- Method name of the pointer type t is function f, with the pointer for its receiver. -/
def methB (P : Program) (t : Nat) (name : String) (f : Nat) : Bool :=
  match P.underlying t, P.info? t with
  | some (.pointer _), some ti => match ti.methods.find? (·.name == name) with
    | some m => m.path.isEmpty && (match m.func with | some (g, p) => Nat.beq g f && p | none => false)
    | none => false
  | _, _ => false
theorem methB_run {t f : Nat} {name : String} {v : Value} (h : methB P t name f = true) (k : Nat) : (method (k + 1) t v name).run P w = .ok (f, v) w := by
  unfold methB at h
  split at h <;> try contradiction
  rename_i el ti hu hti
  split at h <;> try contradiction
  rename_i m hm
  simp only [Bool.and_eq_true] at h
  obtain ⟨hp, h⟩ := h
  split at h <;> try contradiction
  rename_i g p hg
  simp only [Bool.and_eq_true] at h
  have e1 := Nat.eq_of_beq_eq_true h.1
  have e2 := h.2
  subst e1 e2
  have hp' : m.path.toList = [] := by simpa using hp
  simp [method, typeInfo, hti, hm, hp', follow, hg, receiverAt, run_underlying hu, Place.get]
/-- A call of the method name of the interface value v. -/
def CallsM (P : Program) (v : Value) (name : String) (args : List Value) (w : World) (R : Ending → World → Prop) : Prop :=
  ∃ (t f : Nat) (u : Value) (fn : Func), v = .iface t u ∧ methB P t name f = true ∧ P.funcs[f]? = some fn ∧ (fn.name == "runtime.NumGoroutine") = false ∧ fn.body.isSome = true ∧ Calls P f (u :: args).toArray w R
theorem CallsM.mono {v : Value} {name : String} {args : List Value} {R R' : Ending → World → Prop} (h : CallsM P v name args w R) (hr : ∀ e w, R e w → R' e w) : CallsM P v name args w R' :=
  let ⟨t, f, u, fn, h1, h2, h3, h4, h5, h6⟩ := h
  ⟨t, f, u, fn, h1, h2, h3, h4, h5, h6.mono hr⟩
theorem CallsM.mk {t f : Nat} {u : Value} {name : String} {fn : Func} {args : List Value} {R : Ending → World → Prop} (h2 : methB P t name f = true) (h3 : P.funcs[f]? = some fn) (h4 : (fn.name == "runtime.NumGoroutine") = false) (h5 : fn.body.isSome = true)
    (h6 : Calls P f (u :: args).toArray w R) : CallsM P (.iface t u) name args w R := ⟨t, f, u, fn, rfl, h2, h3, h4, h5, h6⟩
theorem k_callm {x : Operand} {name : String} {as : List Operand} {ts : Array TypeId} {v : Value} {vs : List Value} (hx : opd F x = some v) (hvs : opds F as = some vs) (hd : okD n d = true)
    (h : CallsM P v name vs w fun e w' => ∃ u, e = .returned u ∧ K (putF d u F) w') :
    OpK P n F ⟨d, .call { callee := .invoke x name, args := as.toArray, argTypes := ts }, ty, pos, af, gd⟩ w K := by
  obtain ⟨t, f, u, fn, rfl, hm, hf, hname, hb, hc⟩ := h
  intro a K' Q ha hK
  have hρ := ha.ev
  have hmap := opds_map hρ _ _ hvs
  obtain ⟨k, hk⟩ : ∃ k, P.types.size + Made.depth = k + 1 := ⟨P.types.size + 99, rfl⟩
  have hrun : (execOp a.eval ⟨d, .call { callee := .invoke x name, args := as.toArray, argTypes := ts }, ty, pos, af, gd⟩).run P w = .ok (.enter f (u :: vs).toArray) w := by
    have e1 : as.toArray.map a.eval = vs.toArray := by apply Array.ext'; simp [hmap]
    have e2 : (#[u] ++ vs.toArray : Array Value) = (u :: vs).toArray := by apply Array.ext'; simp
    have e3 : (#[(.iface t u : Value)] ++ vs.toArray).extract 1 (#[(.iface t u : Value)] ++ vs.toArray).size = vs.toArray := by apply Array.ext'; simp
    have e4 : (#[(.iface t u : Value)] ++ vs.toArray)[0]? = some (.iface t u) := by simp
    simp only [execOp, resolve, hρ _ _ hx, e1, Sem.run_bind, Sem.run_pure, Result.andThen_ok, invoke, e4, e3, callMethod, run_program, hk, methB_run hm k, e2]
    exact run_callFunc hf hname hb _ _
  unfold Oper.wp
  rw [hrun, Oper.upon_enter]
  refine Calls.mono hc fun e w' he => ?_
  obtain ⟨v, rfl, hk⟩ := he
  exact hK _ _ _ hk (ha.putF hd v)
end k
end Go.Proofs.Ytlgpdglnfjndhaa.Xe
