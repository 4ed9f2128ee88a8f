/-
  XE, part 11: rows of elements that are told.
-/
import Derived.Test.YtlgpdglnfjndhaaX10
namespace Go.Proofs.Ytlgpdglnfjndhaa.Xe
open Go Go.Lib

/-- The cells (sz for each) tell the elements xs. -/
def Els {α : Type} (R : Rd α) (sz : Nat) (g : Hp) (cells : List Value) (xs : List α) : Prop :=
  cells.length = xs.length * sz ∧ ∀ i x, xs[i]? = some x → R g ((cells.drop (i * sz)).take sz) x

section els
variable {α : Type} {R : Rd α} {sz : Nat} {g h : Hp} {cells : List Value} {xs : List α}
theorem Els.nil : Els R sz g [] [] := ⟨by simp, fun i x hx => by simp at hx⟩
theorem Els.mono (hR : R.Mono) (l : g.le h) (e : Els R sz g cells xs) : Els R sz h cells xs := ⟨e.1, fun i x hx => hR l (e.2 i x hx)⟩
theorem Els.len (e : Els R sz g cells xs) : cells.length = xs.length * sz := e.1
theorem Els.at (e : Els R sz g cells xs) {i : Nat} {x : α} (hx : xs[i]? = some x) : R g ((cells.drop (i * sz)).take sz) x ∧ i * sz + sz ≤ cells.length := by
  refine ⟨e.2 i x hx, ?_⟩
  have hi : i < xs.length := (List.getElem?_eq_some_iff.1 hx).1
  rw [e.1, ← Nat.succ_mul]
  exact Nat.mul_le_mul_right _ hi
theorem Els.append {cs : List Value} {ys : List α} (e : Els R sz g cells xs) (f : Els R sz g cs ys) : Els R sz g (cells ++ cs) (xs ++ ys) := by
  refine ⟨by rw [List.length_append, List.length_append, e.1, f.1, Nat.add_mul], fun i x hx => ?_⟩
  rcases Nat.lt_or_ge i xs.length with hi | hi
  · rw [List.getElem?_append_left hi] at hx
    have h1 := e.at hx
    rw [List.drop_append_of_le_length (by omega), List.take_append_of_le_length (by rw [List.length_drop]; omega)]
    exact h1.1
  · rw [List.getElem?_append_right hi] at hx
    have h1 := f.2 _ x hx
    have : i * sz = cells.length + (i - xs.length) * sz := by rw [e.1, ← Nat.add_mul]; congr 1; omega
    rw [this, List.drop_append, List.drop_eq_nil_of_le (by omega), List.nil_append, Nat.add_sub_cancel_left]
    exact h1
theorem Els.one {cs : List Value} {x : α} (hl : cs.length = sz) (hx : R g cs x) : Els R sz g cs [x] := by
  refine ⟨by simp [hl], fun i y hy => ?_⟩
  cases i with
  | zero => simp at hy; subst hy; rw [Nat.zero_mul, List.drop_zero, ← hl, List.take_length]; exact hx
  | succ i => simp at hy
theorem Els.snoc {cs : List Value} {x : α} (e : Els R sz g cells xs) (hl : cs.length = sz) (hx : R g cs x) : Els R sz g (cells ++ cs) (xs ++ [x]) := e.append (.one hl hx)
theorem Els.take (e : Els R sz g cells xs) (n : Nat) (hn : n ≤ xs.length) : Els R sz g (cells.take (n * sz)) (xs.take n) := by
  have hle : n * sz ≤ cells.length := by rw [e.1]; exact Nat.mul_le_mul_right _ hn
  refine ⟨by rw [List.length_take, List.length_take, Nat.min_eq_left hle, Nat.min_eq_left hn], fun i x hx => ?_⟩
  have hi : i < n := by
    have := (List.getElem?_eq_some_iff.1 hx).1
    rw [List.length_take] at this; omega
  rw [List.getElem?_take, if_pos hi] at hx
  have h1 := e.2 i x hx
  have h2 : i * sz + sz ≤ n * sz := by rw [← Nat.succ_mul]; exact Nat.mul_le_mul_right _ hi
  rw [List.drop_take, List.take_take, Nat.min_eq_left (by omega)]
  exact h1
theorem Els.drop (e : Els R sz g cells xs) (n : Nat) : Els R sz g (cells.drop (n * sz)) (xs.drop n) := by
  refine ⟨by rw [List.length_drop, List.length_drop, e.1, Nat.sub_mul], fun i x hx => ?_⟩
  rw [List.getElem?_drop] at hx
  have h1 := e.2 _ x hx
  rw [List.drop_drop]
  rwa [show n * sz + i * sz = (n + i) * sz by rw [Nat.add_mul]]
/-- Element i is written over. -/
theorem Els.set (e : Els R sz g cells xs) {i : Nat} {cs : List Value} {x : α} (hi : i < xs.length) (hl : cs.length = sz) (hx : R g cs x) :
    Els R sz g (cells.take (i * sz) ++ cs ++ cells.drop (i * sz + sz)) (xs.set i x) := by
  have h1 := e.take i (by omega)
  have h2 := e.drop (i + 1)
  rw [Nat.succ_mul] at h2
  have h3 := (h1.snoc hl hx).append h2
  have : xs.take i ++ [x] ++ xs.drop (i + 1) = xs.set i x := by
    rw [List.set_eq_take_append_cons_drop, if_pos hi]; simp
  rwa [this] at h3
/-- Element i is taken out. -/
theorem Els.erase (e : Els R sz g cells xs) {i : Nat} (hi : i < xs.length) : Els R sz g (cells.take (i * sz) ++ cells.drop (i * sz + sz)) (xs.eraseIdx i) := by
  have h1 := e.take i (by omega)
  have h2 := e.drop (i + 1)
  rw [Nat.succ_mul] at h2
  have h3 := h1.append h2
  rwa [← List.eraseIdx_eq_take_drop_succ] at h3
end els

theorem HAt.sub {g : Hp} {b o : Nat} {cells : List Value} (h : HAt g b o cells) (i n : Nat) : HAt g b (o + i) ((cells.drop i).take n) :=
  HAt.mk fun j v hj => by
    rw [List.getElem?_take] at hj
    split at hj
    · rw [List.getElem?_drop] at hj
      rw [Nat.add_assoc]
      exact h.get _ v hj
    · cases hj
theorem HAt.app {g : Hp} {b : Nat} : ∀ {o : Nat} {cs ds : List Value}, HAt g b o cs → HAt g b (o + cs.length) ds → HAt g b o (cs ++ ds)
  | _, [], _, _, h => h
  | o, c :: cs, ds, h, k => ⟨h.1, HAt.app h.2 (by rwa [List.length_cons, show o + (cs.length + 1) = o + 1 + cs.length by omega] at k)⟩

/-- A row of elements that stands in one block, told by its cells. -/
theorem rdSl_mk {α : Type} {bytes sz : Nat} {R : Rd α} {g : Hp} {b o cap : Nat} {cells : List Value} {xs : List α} (hat : HAt g b o cells) (e : Els R sz g cells xs) (hc : xs.length ≤ cap) (hb : xs.length * bytes ≤ reachBytes) (hm : cap ≤ maxLen) :
    rdSl bytes sz R g [.slice (some ⟨b, o, none⟩) xs.length cap] xs := by
  refine .inr ⟨b, o, cap, rfl, hc, hb, hm, fun i x hx => ?_⟩
  have h1 := e.at hx
  refine ⟨_, hat.sub (i * sz) sz, ?_, h1.1⟩
  rw [List.length_take, List.length_drop]; omega
theorem rdSl_nil {α : Type} {bytes sz : Nat} {R : Rd α} {g : Hp} (a : Option Addr) : rdSl bytes sz R g [.slice a 0 0] [] := .inl ⟨a, rfl, rfl⟩
/-- Some elements of a row that is told: from i to j. -/
theorem rdSl_cells {α : Type} {bytes sz : Nat} {R : Rd α} {g : Hp} {a : Option Addr} {n c : Nat} {xs : List α} (h : rdSl bytes sz R g [.slice a n c] xs) :
    n = xs.length ∧ n ≤ c ∧ c ≤ maxLen ∧ n * bytes ≤ reachBytes ∧ ∃ cells, Els R sz g cells xs ∧ (n = 0 ∨ ∃ b o, a = some ⟨b, o, none⟩ ∧ HAt g b o cells) := by
  rcases h with ⟨a', h, rfl⟩ | ⟨b, o, cap, h, h2, h3, h4, h5⟩
  · simp only [List.cons.injEq, and_true, Value.slice.injEq] at h
    obtain ⟨_, rfl, rfl⟩ := h
    exact ⟨rfl, Nat.le_refl _, by simp [maxLen], by simp, [], .nil, .inl rfl⟩
  · simp only [List.cons.injEq, and_true, Value.slice.injEq] at h
    obtain ⟨rfl, rfl, rfl⟩ := h
    refine ⟨rfl, h2, h4, h3, ?_⟩
    clear h2 h3
    have key : ∀ (ys : List α) (o : Nat), (∀ i x, ys[i]? = some x → ∃ ecs, HAt g b (o + i * sz) ecs ∧ ecs.length = sz ∧ R g ecs x) → ∃ cells, Els R sz g cells ys ∧ HAt g b o cells := by
      intro ys
      induction ys with
      | nil => exact fun o _ => ⟨[], .nil, trivial⟩
      | cons y ys ih =>
        intro o hy
        obtain ⟨ecs, h1, h2, h3⟩ := hy 0 y rfl
        obtain ⟨cells, h4, h5⟩ := ih (o + sz) fun i x hx => by
          obtain ⟨es, k1, k2⟩ := hy (i + 1) x (by simpa using hx)
          exact ⟨es, by rwa [show o + (i + 1) * sz = o + sz + i * sz by rw [Nat.succ_mul]; omega] at k1, k2⟩
        refine ⟨ecs ++ cells, ?_, ?_⟩
        · exact (Els.one h2 h3).append h4
        · rw [Nat.zero_mul, Nat.add_zero] at h1
          exact h1.app (by rwa [h2])
    obtain ⟨cells, h1, h2⟩ := key xs o h5
    exact ⟨cells, h1, .inr ⟨b, o, rfl, h2⟩⟩

section
variable {E : Env} {w : World} {L L' : List As} {α : Type} {R : Rd α} {bytes sz : Nat} {g : Hp} {xs : List α}
/-- What is appended out of a row that stands. -/
theorem ro_src {a : Option Addr} {n : Nat} {cells : List Value} (hs : Sat E w L) (hp : Pick (RO g) L L') (hl : cells.length = n * sz) (h : n = 0 ∨ ∃ b o, a = some ⟨b, o, none⟩ ∧ HAt g b o cells) : SrcAt w a n cells := by
  rcases h with h | ⟨b, o, ha, hat⟩
  · exact .inl ⟨h, List.eq_nil_of_length_eq_zero (by rw [hl, h, Nat.zero_mul])⟩
  · exact .inr ⟨b, o, ha, ro_ats hs hp hat⟩
theorem subAt_slice {xs : List Value} : ∀ (n o : Nat), SubAt xs o ((xs.drop o).take n)
  | 0, _ => by simp [SubAt]
  | n + 1, o => by
    cases h : xs.drop o with
    | nil => simp [SubAt]
    | cons v vs =>
      have hlt : o < xs.length := by
        rcases Nat.lt_or_ge o xs.length with h1 | h1
        · exact h1
        · rw [List.drop_eq_nil_of_le h1] at h; cases h
      rw [List.drop_eq_getElem_cons hlt] at h
      simp only [List.cons.injEq] at h
      obtain ⟨rfl, rfl⟩ := h
      rw [List.take_succ_cons]
      exact ⟨List.getElem?_eq_getElem hlt, subAt_slice n (o + 1)⟩
/-- A row of the call's own that is written no more stands. -/
theorem Sat.freeze_sl {e n : Nat} {v : Value} {cells : List Value} (h : Sat E w (RO g :: OwnSl e sz v n cells :: L)) (hR : R.Mono) (he : Els R sz g cells xs) (hn : n = xs.length) (hb : n * bytes ≤ reachBytes) :
    ∃ g', g.le g' ∧ rdSl bytes sz R g' [v] xs ∧ Sat E w (RO g' :: L) := by
  obtain ⟨hl, ⟨a, rfl, rfl, rfl, h1⟩ | ⟨b, cap, cur, rfl, h1, h2, h3, h4, h5⟩⟩ := (h.pick .at1).own_open
  · have : xs = [] := List.eq_nil_of_length_eq_zero hn.symm
    subst this
    exact ⟨g, Hp.le_refl g, rdSl_nil a, h1⟩
  · obtain ⟨g', a, l1, l2, hA, h6⟩ := (h1.pick .at1).freeze
    refine ⟨g', l1, ?_, h6⟩
    subst hn
    refine rdSl_mk (HAt.mk fun j v hj => ?_) (he.mono hR l1) h2 hb h3
    refine l2.cell ?_
    unfold Hp.cell
    rw [hA b, if_pos rfl]
    rw [← h5, List.getElem?_take] at hj
    split at hj
    · simpa using hj
    · cases hj
end
/-- All cells that tell are of one cell each. -/
def Rd.One {α : Type} (R : Rd α) : Prop := ∀ {g : Hp} {cs : List Value} {x : α}, R g cs x → ∀ u ∈ cs, u.oneCell' = true
theorem one_int {k : IntKind} : Rd.One (rdInt k) := fun h => by rw [h.1]; simp [Value.oneCell']
theorem one_bool : Rd.One rdBool := fun h => by rw [show _ = _ from h]; simp [Value.oneCell']
theorem one_str : Rd.One rdStr := fun h => by rw [h.1]; simp [Value.oneCell']
theorem one_sl {α : Type} {bytes sz : Nat} {R : Rd α} : Rd.One (rdSl bytes sz R) := fun h => by
  rcases h with ⟨a, h, _⟩ | ⟨b, o, c, h, _⟩ <;> rw [h] <;> simp [Value.oneCell']
theorem Els.ones {α : Type} {R : Rd α} {sz : Nat} {g : Hp} {cells : List Value} {xs : List α} (hR : R.One) (e : Els R sz g cells xs) : ∀ u ∈ cells, u.oneCell' = true := fun u hu => by
  obtain ⟨j, hj, rfl⟩ := List.mem_iff_getElem.1 hu
  have hsz : 0 < sz := by
    rcases Nat.eq_zero_or_pos sz with h | h
    · have := e.1; rw [h, Nat.mul_zero] at this; omega
    · exact h
  have hi : j / sz < xs.length := by
    rw [Nat.div_lt_iff_lt_mul hsz, ← e.1]; exact hj
  have h1 := e.2 (j / sz) _ (List.getElem?_eq_getElem hi)
  refine hR h1 _ ?_
  have h2 : ((cells.drop (j / sz * sz)).take sz)[j % sz]? = some cells[j] := by
    rw [List.getElem?_take, if_pos (Nat.mod_lt _ hsz), List.getElem?_drop]
    have : j / sz * sz + j % sz = j := by rw [Nat.mul_comm]; exact Nat.div_add_mod j sz
    rw [this, List.getElem?_eq_getElem hj]
  exact List.mem_of_getElem? h2
theorem SubAt.get {xs : List Value} : ∀ {o : Nat} {vs : List Value}, SubAt xs o vs → ∀ k v, vs[k]? = some v → xs[o + k]? = some v
  | o, v :: vs, h, 0, u, hu => by cases hu; exact h.1
  | o, v :: vs, h, k + 1, u, hu => by
    have := SubAt.get h.2 k u (by simpa using hu)
    rwa [show o + 1 + k = o + (k + 1) by omega] at this
theorem subAt_of {xs vs : List Value} {o n : Nat} (h : (xs.drop o).take n = vs) : SubAt xs (0 + o) vs := by
  rw [Nat.zero_add, ← h]; exact subAt_slice n o
/-- A cell of an element of a slice of the call's own. -/
theorem own_at {E : Env} {w : World} {L L' : List As} {e sz g n cap o k : Nat} {xs vs : List Value} {u : Value} (hs : Sat E w L) (hp : Pick (OwnSl e sz (.slice (some ⟨g, 0, none⟩) n cap) n xs) L L') (hu : SubAt xs o vs) (hk : vs[k]? = some u) :
    w.cell? ⟨g, o + k, none⟩ = some u := own_cell hs hp (hu.get k u hk)
theorem own_at0 {E : Env} {w : World} {L L' : List As} {e sz g n cap o : Nat} {xs vs : List Value} {u : Value} (hs : Sat E w L) (hp : Pick (OwnSl e sz (.slice (some ⟨g, 0, none⟩) n cap) n xs) L L') (hu : SubAt xs o vs) (hk : vs[0]? = some u) :
    w.cell? ⟨g, o, none⟩ = some u := own_cell hs hp (hu.get 0 u hk)
section k
variable {P : Program} {n : NF} {F : Fr} {w : World} {K : Fr → World → Prop} {d : Option Nat} {ty : TypeId} {pos : String} {af : Array Edge} {gd : Option (Nat × Bool)}
  {x y : Operand} {t : TypeId} {E : Env} {L L' : List As}
/-- An element (or a struct in it) of a slice of the call's own is written over. -/
theorem k_storeOwnAgg {e sz g m cap o k : Nat} {vs xs : List Value} (hs : Sat E w L) (ht : aggB P t k = true)
    (hx : opd F x = some (.pointer (some ⟨g, o, none⟩))) (hy : opd F y = some (.agg vs.toArray)) (hv : ∀ u ∈ vs, u.oneCell' = true) (hk : vs.length = k)
    (hp : Pick (OwnSl e sz (.slice (some ⟨g, 0, none⟩) m cap) m xs) L L') (ho : o + k ≤ xs.length) (h0 : 0 < k)
    (h : ∀ w', Sat E w' (OwnSl e sz (.slice (some ⟨g, 0, none⟩) m cap) m (xs.take o ++ vs ++ xs.drop (o + k)) :: L') → K F w') :
    OpK P n F ⟨none, .store t x y, ty, pos, af, gd⟩ w K := by
  have h1 := hs.pick hp
  obtain ⟨hl, ⟨_, _, _, hx0, _⟩ | ⟨g', cap', cur, hv', hs2, h3, h4, h5, h6⟩⟩ := h1.own_open
  · rw [hx0] at ho; simp at ho; omega
  · simp only [Value.slice.injEq, Option.some.injEq, Addr.mk.injEq, and_true, true_and] at hv'
    obtain ⟨rfl, rfl⟩ := hv'
    have hxc : xs.length ≤ cur.toList.length := by rw [← h6, List.length_take]; omega
    refine k_storeAgg (cs := cur.toList) (cs' := cur.toList.take o ++ vs ++ cur.toList.drop (o + vs.length)) hs2 ht hx hy hv hk (by rw [Array.toArray_toList]; exact .here _) (Nat.ble_eq_true_of_le (by omega)) rfl (fun w' hw' => h w' ?_)
    refine Sat.own_mk hw' h3 h4 ?_ ?_
    · have : cur.toList.length = cur.size := Array.length_toList
      simp; omega
    · have e0 : cur.toList.length = cur.size := Array.length_toList
      have e1 : m * sz ≤ cur.size := by rw [h5]; exact Nat.mul_le_mul_right _ h3
      have e2 : o + k ≤ m * sz := by rw [← hl]; exact ho
      rw [← h6, hk]
      apply List.ext_getElem?
      intro j
      simp only [List.getElem?_take, List.getElem?_append, List.length_take, List.getElem?_drop, List.length_append, hk]
      simp only [Nat.min_eq_left (show o ≤ cur.toList.length by omega), Nat.min_eq_left (show m * sz ≤ cur.toList.length by omega), Nat.min_eq_left (show o ≤ m * sz by omega)]
      by_cases hj : j < m * sz
      · simp only [hj, if_true]
        split
        · rename_i h9
          split <;> rfl
        · rename_i h9
          rw [if_pos (by omega)]
      · simp only [hj, if_false]
        rw [if_neg (by omega), if_neg (by omega)]
end k
section v
variable {P : Program} {F : Fr} {S : World → Prop} {d : Option Nat} {ty : TypeId} {pos : String} {af : Array Edge} {gd : Option (Nat × Bool)}
  {x y z u : Operand} {t t' : TypeId}
end v

theorem rdSl_shape {α : Type} {bytes sz : Nat} {R : Rd α} {g : Hp} {v : Value} {xs : List α} (h : rdSl bytes sz R g [v] xs) : ∃ a n c, v = .slice a n c := by
  rcases h with ⟨a, h, _⟩ | ⟨b, o, c, h, _⟩
  · exact ⟨a, 0, 0, by simpa using h⟩
  · exact ⟨_, _, c, by simpa using h⟩
/-! ### Structs with structs in them, compared -/
inductive CF where
  | c (k : CK)
  | n (ks : List CK)
def CF.flat : CF → List CK
  | .c k => [k]
  | .n ks => ks
def cfB (P : Program) (t : TypeId) : CF → Bool
  | .c k => scalB P t && (match P.underlying t, k with | some (.int _), .i | some .string, .s | some .bool, .b => true | _, _ => false)
  | .n ks => cmpB P t ks && aggB P t ks.length && ks.length != 0
def cfsB (P : Program) : Nat → List Field → List CF → Bool
  | _, [], [] => true
  | o, f :: fs, c :: cs => f.name != "_" && f.offset == o && cfB P f.type c && cfsB P (o + c.flat.length) fs cs
  | _, _, _ => false
def cmpNB (P : Program) (t : TypeId) (cs : List CF) : Bool :=
  match P.underlying t with
  | some (.struct fs) => !P.stoodInHeld t && !P.eqGuardType P.depth t && cfsB P 0 fs.toList cs
  | _ => false
theorem cellsEq_append : ∀ {xs ys us vs : List Value} {b : Bool}, xs.length = ys.length → cellsEq (xs ++ us) (ys ++ vs) = some b → ∃ b1 b2, cellsEq xs ys = some b1 ∧ cellsEq us vs = some b2 ∧ b = (b1 && b2)
  | [], [], us, vs, b, _, h => ⟨true, b, rfl, h, by simp⟩
  | x :: xs, y :: ys, us, vs, b, hl, h => by
    simp only [List.cons_append, cellsEq] at h
    split at h <;> try contradiction
    rename_i c e hc he
    cases h
    obtain ⟨b1, b2, h1, h2, rfl⟩ := cellsEq_append (by simpa using hl) he
    exact ⟨c && b1, b2, by simp [cellsEq, hc, h1], h2, by rw [Bool.and_assoc]⟩
  | [], _ :: _, _, _, _, hl, _ => by simp at hl
  | _ :: _, [], _, _, _, hl, _ => by simp at hl
section
variable {P : Program}
theorem run_cmpN (w : World) (d : Nat) (xs ys : Array Value) : ∀ (fs : List Field) (cs : List CF) (o : Nat) (b : Bool), cfsB P o fs cs = true →
    (xs.toList.drop o).map kindOf = (cs.flatMap CF.flat).map some → (ys.toList.drop o).map kindOf = (cs.flatMap CF.flat).map some →
    cellsEq (xs.toList.drop o) (ys.toList.drop o) = some b → (Op.eqFields (d + 2) xs ys fs).run P w = .ok b w
  | [], [], o, b, _, h1, h2, h => by
    have e1 : xs.toList.drop o = [] := by simpa using h1
    have e2 : ys.toList.drop o = [] := by simpa using h2
    rw [e1, e2] at h
    simp [cellsEq] at h
    simp [Op.eqFields, h]
  | [], _ :: _, _, _, hf, _, _, _ => by simp [cfsB] at hf
  | _ :: _, [], _, _, hf, _, _, _ => by simp [cfsB] at hf
  | f :: fs, c :: cs, o, b, hf, h1, h2, h => by
    simp only [cfsB, Bool.and_eq_true, bne_iff_ne, beq_iff_eq] at hf
    obtain ⟨⟨⟨h3, h4⟩, h5⟩, h6⟩ := hf
    simp only [List.flatMap_cons, List.map_append] at h1 h2
    have lx := congrArg List.length h1
    have ly := congrArg List.length h2
    simp only [List.length_map, List.length_append, List.length_drop, Array.length_toList] at lx ly
    have sx : xs.toList.drop o = (xs.toList.drop o).take c.flat.length ++ xs.toList.drop (o + c.flat.length) := by rw [← List.drop_drop, List.take_append_drop]
    have sy : ys.toList.drop o = (ys.toList.drop o).take c.flat.length ++ ys.toList.drop (o + c.flat.length) := by rw [← List.drop_drop, List.take_append_drop]
    have k1 : ((xs.toList.drop o).take c.flat.length).map kindOf = c.flat.map some := by
      rw [List.map_take, h1, List.take_left' (by simp)]
    have k2 : ((ys.toList.drop o).take c.flat.length).map kindOf = c.flat.map some := by
      rw [List.map_take, h2, List.take_left' (by simp)]
    have k3 : (xs.toList.drop (o + c.flat.length)).map kindOf = (cs.flatMap CF.flat).map some := by
      rw [← List.drop_drop, List.map_drop, h1, List.drop_left' (by simp)]
    have k4 : (ys.toList.drop (o + c.flat.length)).map kindOf = (cs.flatMap CF.flat).map some := by
      rw [← List.drop_drop, List.map_drop, h2, List.drop_left' (by simp)]
    rw [sx, sy] at h
    obtain ⟨b1, b2, e1, e2, rfl⟩ := cellsEq_append (by simp; omega) h
    have ih := run_cmpN w d xs ys fs cs _ b2 h6 k3 k4 e2
    have key : ∃ u v, (part f.type xs f.offset).run P w = .ok u w ∧ (part f.type ys f.offset).run P w = .ok v w ∧ (Op.equalIn (d + 2) f.type u v).run P w = .ok b1 w := by
      cases c with
      | c k =>
        simp only [CF.flat, List.length_cons, List.length_nil] at *
        simp only [cfB, Bool.and_eq_true] at h5
        obtain ⟨h7, h8⟩ := h5
        have hx : o < xs.toList.length := by rw [Array.length_toList]; omega
        have hy : o < ys.toList.length := by rw [Array.length_toList]; omega
        rw [List.drop_eq_getElem_cons hx, List.take_succ_cons, List.take_zero] at k1 e1
        rw [List.drop_eq_getElem_cons hy, List.take_succ_cons, List.take_zero] at k2 e1
        simp only [cellsEq] at e1
        split at e1 <;> try contradiction
        rename_i c1 c2 hc hc2
        cases hc2; cases e1
        refine ⟨xs.toList[o], ys.toList[o], ?_, ?_, ?_⟩
        · simp [part, run_isAgg_scal h7, run_sizeOf_scal h7, h4, (show o < xs.size by simpa using hx)]
        · simp [part, run_isAgg_scal h7, run_sizeOf_scal h7, h4, (show o < ys.size by simpa using hy)]
        · generalize xs.toList[o] = u at *
          generalize ys.toList[o] = u' at *
          simp only [List.map_cons, List.map_nil, List.cons.injEq, and_true] at k1 k2
          rw [Bool.and_true]
          cases hu : P.underlying f.type with
          | none => rw [hu] at h8; simp at h8
          | some ds =>
            rw [hu] at h8
            cases ds <;> cases k <;> simp at h8 <;> cases u <;> simp [kindOf] at k1 <;> cases u' <;> simp [kindOf] at k2
            · simp only [cellEq, Option.some.injEq] at hc
              rw [run_equalIn_bool' w (d + 1) f.type _ _ hu, hc]
            · simp only [cellEq] at hc
              split at hc <;> try contradiction
              rename_i hk'
              subst hk'
              simp only [Option.some.injEq] at hc
              rw [run_equalIn_int w (d + 1) f.type _ _ _ _ hu, ← hc]
              rfl
            · simp only [cellEq, Option.some.injEq] at hc
              rw [run_equalIn_string w (d + 1) f.type _ _ hu, ← hc, toList_beq]
      | n ks =>
        simp only [CF.flat] at *
        simp only [cfB, Bool.and_eq_true, bne_iff_ne] at h5
        obtain ⟨⟨h7, h8⟩, h9⟩ := h5
        refine ⟨.agg ((xs.toList.drop o).take ks.length).toArray, .agg ((ys.toList.drop o).take ks.length).toArray, ?_, ?_, (run_cmpAgg w d h7 k1 k2 e1).1⟩
        · have e : (xs.extract o (o + ks.length)) = ((xs.toList.drop o).take ks.length).toArray := by
            apply Array.ext'; simp [List.drop_take]
          simp [part, run_isAgg_agg h8, run_sizeOf_agg h8, h4, e, (show o + ks.length ≤ xs.size by omega)]
        · have e : (ys.extract o (o + ks.length)) = ((ys.toList.drop o).take ks.length).toArray := by
            apply Array.ext'; simp [List.drop_take]
          simp [part, run_isAgg_agg h8, run_sizeOf_agg h8, h4, e, (show o + ks.length ≤ ys.size by omega)]
    obtain ⟨u, v, p1, p2, p3⟩ := key
    simp only [Op.eqFields, h3, ne_eq, not_false_eq_true, if_true, Sem.run_bind, p1, p2, p3, Result.andThen_ok]
    cases b1
    · simp
    · simp [ih]
theorem run_cmpNAgg {t : TypeId} {cs : List CF} (w : World) {xs ys : List Value} {b : Bool} (ht : cmpNB P t cs = true) (h1 : xs.map kindOf = (cs.flatMap CF.flat).map some) (h2 : ys.map kindOf = (cs.flatMap CF.flat).map some) (h : cellsEq xs ys = some b) :
    (Op.equalIn 10000 t (.agg xs.toArray) (.agg ys.toArray)).run P w = .ok b w ∧ P.eqGuardType P.depth t = false := by
  unfold cmpNB at ht
  split at ht <;> try contradiction
  rename_i fs hfs
  simp only [Bool.and_eq_true, Bool.not_eq_true'] at ht
  obtain ⟨⟨h3, h4⟩, h5⟩ := ht
  have hfo : P.fieldsOf t = fs := by simp [Program.fieldsOf, hfs]
  refine ⟨?_, h4⟩
  rw [run_equalIn_struct w 9999 t _ _ (by rw [hfo]; exact hfs) h3, hfo]
  exact run_cmpN w 9997 _ _ fs.toList cs 0 b h5 (by simpa using h1) (by simpa using h2) (by simpa using h)
end
section v
variable {P : Program} {F : Fr} {S : World → Prop} {d : Option Nat} {ty : TypeId} {pos : String} {af : Array Edge} {gd : Option (Nat × Bool)}
  {x y z u : Operand} {t t' : TypeId}
theorem v_neqAggN {ks : List CF} {xs ys : List Value} {b : Bool} (ht : cmpNB P t ks = true) (hx : opd F x = some (.agg xs.toArray)) (hy : opd F y = some (.agg ys.toArray)) (h1 : xs.map kindOf = (ks.flatMap CF.flat).map some) (h2 : ys.map kindOf = (ks.flatMap CF.flat).map some) (h : cellsEq xs ys = some b) :
    OpV P F S ⟨d, .binOp .neq t x y t', ty, pos, af, gd⟩ (.bool (!b)) := fun ρ w hρ _ => by
  obtain ⟨e1, e2⟩ := run_cmpNAgg (P := P) w ht h1 h2 h
  simp only [execOp, hρ x _ hx, hρ y _ hy, Sem.run_bind, run_eqGuard_agg (P := P) w .neq t x y _ _ e2, Result.andThen_ok, run_neq_struct, e1]
  rfl
end v

theorem Pick.back {A : As} {L L' : List As} (p : Pick A L L') : Sub L (A :: L') := by
  induction p with
  | here L => exact .refl _
  | @there B L L' p ih => exact .cons .at1 ih
theorem Sat.unpick {E : Env} {w : World} {A : As} {L L' : List As} (h : Sat E w (A :: L')) (p : Pick A L L') : Sat E w L := h.sub p.back
section k
variable {P : Program} {n : NF} {F : Fr} {w : World} {K : Fr → World → Prop} {d : Option Nat} {ty : TypeId} {pos : String} {af : Array Edge} {gd : Option (Nat × Bool)}
  {x y : Operand} {t : TypeId} {E : Env} {L L' : List As}
end k
theorem rdSl_take {α : Type} {bytes sz : Nat} {R : Rd α} {g : Hp} {a : Option Addr} {n c : Nat} {xs : List α} (k : Nat) (h : rdSl bytes sz R g [.slice a n c] xs) (hk : k ≤ n) : rdSl bytes sz R g [.slice a k c] (xs.take k) := by
  rcases h with ⟨a', h, rfl⟩ | ⟨b, o, cap, h, h2, h3, h4, h5⟩
  · simp only [List.cons.injEq, and_true, Value.slice.injEq] at h
    obtain ⟨rfl, rfl, rfl⟩ := h
    have : k = 0 := by omega
    subst this
    exact .inl ⟨_, rfl, rfl⟩
  · simp only [List.cons.injEq, and_true, Value.slice.injEq] at h
    obtain ⟨rfl, rfl, rfl⟩ := h
    have hl : (xs.take k).length = k := by rw [List.length_take]; omega
    refine .inr ⟨b, o, c, by rw [hl], by omega, ?_, h4, fun i x hx => ?_⟩
    · rw [hl]; exact Nat.le_trans (Nat.mul_le_mul_right _ hk) h3
    · rw [List.getElem?_take] at hx
      split at hx
      · exact h5 i x hx
      · cases hx
end Go.Proofs.Ytlgpdglnfjndhaa.Xe
