/-
  XE, part 9: a region whose order is drawn, its order shown once.
-/
import Derived.Test.YtlgpdglnfjndhaaX8
namespace Go.Proofs.Ytlgpdglnfjndhaa.Xe
open Go

/-- The orders of a region: an operation is taken whatever the world (a); while S stands (v); as the only one that may come up (k); or any of two or three may come up. -/
inductive Od where
  | done
  | a (i : Nat) (r : Od)
  | v (i : Nat) (r : Od)
  | k (i : Nat) (r : Od)
  | b2 (i j : Nat) (r s : Od)
  | b3 (i j l : Nat) (r s t : Od)
def Od.n : Od → Nat
  | .done => 0
  | .a _ r => r.n + 1
  | .v _ r => r.n + 1
  | .k _ r => r.n + 1
  | .b2 _ _ r _ => r.n + 1
  | .b3 _ _ _ r _ _ => r.n + 1
def orderB (ops : Array Oper) (ds : List Nat) : Od → Array Bool → Bool
  | .done, l => Region.ready .any ops l == []
  | .a i r, l => anyB ops l i && orderB ops ds r (l.setIfInBounds i true)
  | .v i r, l => takeB ops ds l i && orderB ops ds r (l.setIfInBounds i true)
  | .k i r, l => oneB ops l i && orderB ops ds r (l.setIfInBounds i true)
  | .b2 i j r s, l => Region.ready .any ops l == [i, j] && r.n == s.n && orderB ops ds r (l.setIfInBounds i true) && orderB ops ds s (l.setIfInBounds j true)
  | .b3 i j k r s t, l => Region.ready .any ops l == [i, j, k] && r.n == s.n && r.n == t.n && orderB ops ds r (l.setIfInBounds i true) && orderB ops ds s (l.setIfInBounds j true) && orderB ops ds t (l.setIfInBounds k true)
/-- The operations of a region, by its number. -/
def regionOps (id : Nat) : Code → Option (Array Oper)
  | .region i ops _ => if i == id then some ops else none
  | .seq a b => (regionOps id a).or (regionOps id b)
  | .cond _ a b => (regionOps id a).or (regionOps id b)
  | .block _ c => regionOps id c
  | .loop c => regionOps id c
  | .scope c => regionOps id c
  | .rangeFunc _ _ a b => (regionOps id a).or (regionOps id b)
  | _ => none
def orderOfB (fn : Func) (id : Nat) (ds : List Nat) (r : Od) : Bool :=
  match fn.body.bind (regionOps id) with
  | some ops => r.n == ops.size && orderB ops ds r (Array.replicate ops.size false)
  | none => false

section
variable {P : Program} {f : FuncId} {R : Ending → World → Prop} {k : List Item} {ops : Array Oper} {n : NF} {S : World → Prop} {ds : List Nat} {r s t : Od} {F : Fr} {w : World} {o : Oper}

/-- What is left of a region whose order is drawn, in an order that stands for all. -/
def RS (P : Program) (f : FuncId) (R : Ending → World → Prop) (k : List Item) (ops : Array Oper) (n : NF) (S : World → Prop) (ds : List Nat) (r : Od) (F : Fr) (w : World) : Prop :=
  ∀ l, orderB ops ds r l = true → RA P ops n (Qk P f n.rd R k) S ds r.n l F w

theorem g_drawO {fn : Func} {id : Nat} {E : Env} {L : List As} (ho : orderOfB fn id ds r = true) (he : fn.body.bind (regionOps id) = some ops) (hm : P.follows .mixedOrders = true) (hw : Sat E w L)
    (h : ∀ w, Sat E w L → RS P f R k ops n S ds r F w) (hrd : n.rd = none := by rfl) : G P f R n (.code (.region id ops true) :: k) F w := fun a ha => by
  simp only [orderOfB, he, Bool.and_eq_true, beq_iff_eq] at ho
  refine run_wpN hrd (wp_region_any hm (wpAny_of_last (S := S) (ds := ds) _ _ _ _ ?_))
  rw [← ho.1]
  exact h w.drew hw.drew _ (by rw [ho.1]; exact ho.2) a ha
/-- What is known stands. -/
theorem g_drawR {fn : Func} {id : Nat} {E : Env} {L : List As} (ho : orderOfB fn id ds r = true) (he : fn.body.bind (regionOps id) = some ops) (hm : P.follows .mixedOrders = true) (hw : Sat E w L)
    (h : ∀ w, Sat E w L → RS P f R k ops n (fun w => Sat E w L) ds r F w) (hrd : n.rd = none := by rfl) : G P f R n (.code (.region id ops true) :: k) F w := g_drawO ho he hm hw h hrd
/-- Some of what is known stands. -/
theorem g_drawB {fn : Func} {id : Nat} {E : Env} {L L' : List As} (ho : orderOfB fn id ds r = true) (he : fn.body.bind (regionOps id) = some ops) (hm : P.follows .mixedOrders = true) (_ : ∀ w, Sat E w L → Sat E w L') (hw : Sat E w L)
    (h : ∀ w, Sat E w L → RS P f R k ops n (fun w => Sat E w L') ds r F w) (hrd : n.rd = none := by rfl) : G P f R n (.code (.region id ops true) :: k) F w := g_drawO ho he hm hw h hrd

theorem rs_le {F' : Fr} (hl : Fr.le F' F) (h : RS P f R k ops n S ds r F' w) : RS P f R k ops n S ds r F w := fun l hl' a ha => h l hl' a (ha.le hl)
theorem rs_ag {d : Nat} {v : Value} (i : Nat) (hi : ops[i]? = some o) (hg : Met ops F o true) (hd : o.dst = some d) (hn : Nat.ble (d + 1) n.n = true) (hv : OpV P F (fun _ => True) o v)
    (h : RS P f R k ops n S ds r ((d, v) :: F) w) : RS P f R k ops n S ds (.a i r) F w := fun l hl => by
  simp only [orderB, Bool.and_eq_true] at hl
  exact ra_ag i hi hg hd hn hl.1 hv (h _ hl.2)
theorem rs_a {d : Nat} {v : Value} (i : Nat) (hi : ops[i]? = some o) (hg : o.guard = none) (hd : o.dst = some d) (hn : Nat.ble (d + 1) n.n = true) (hv : OpV P F (fun _ => True) o v)
    (h : RS P f R k ops n S ds r ((d, v) :: F) w) : RS P f R k ops n S ds (.a i r) F w := rs_ag i hi (met_none hg) hd hn hv h
theorem rs_aoff {d : Nat} (i : Nat) (hi : ops[i]? = some o) (hg : Met ops F o false) (hd : o.dst = some d) (hn : Nat.ble (d + 1) n.n = true)
    (h : RS P f R k ops n S ds r ((d, undef) :: F) w) : RS P f R k ops n S ds (.a i r) F w := fun l hl => by
  simp only [orderB, Bool.and_eq_true] at hl
  exact ra_aoff i hi hg hd hn hl.1 (h _ hl.2)
theorem rs_vg {d : Nat} {v : Value} (i : Nat) (hi : ops[i]? = some o) (hg : Met ops F o true) (hd : o.dst = some d) (hn : Nat.ble (d + 1) n.n = true) (hv : OpV P F S o v) (hS : S w)
    (h : RS P f R k ops n S ds r ((d, v) :: F) w) : RS P f R k ops n S ds (.v i r) F w := fun l hl => by
  simp only [orderB, Bool.and_eq_true] at hl
  exact ra_vg i hi hg hd hn hl.1 hv hS (h _ hl.2)
theorem rs_v {d : Nat} {v : Value} (i : Nat) (hi : ops[i]? = some o) (hg : o.guard = none) (hd : o.dst = some d) (hn : Nat.ble (d + 1) n.n = true) (hv : OpV P F S o v) (hS : S w)
    (h : RS P f R k ops n S ds r ((d, v) :: F) w) : RS P f R k ops n S ds (.v i r) F w := rs_vg i hi (met_none hg) hd hn hv hS h
theorem rs_voff {d : Nat} (i : Nat) (hi : ops[i]? = some o) (hg : Met ops F o false) (hd : o.dst = some d) (hn : Nat.ble (d + 1) n.n = true) (hS : S w)
    (h : RS P f R k ops n S ds r ((d, undef) :: F) w) : RS P f R k ops n S ds (.v i r) F w := fun l hl => by
  simp only [orderB, Bool.and_eq_true] at hl
  exact ra_off i hi hg hd hn hl.1 hS (h _ hl.2)
theorem rs_kg (i : Nat) (hi : ops[i]? = some o) (hg : Met ops F o true) (h : OpK P n F o w (fun F' w' => (i ∉ ds → S w') ∧ RS P f R k ops n S ds r F' w')) : RS P f R k ops n S ds (.k i r) F w := fun l hl => by
  simp only [orderB, Bool.and_eq_true] at hl
  refine ra_kg i hi hg hl.1 fun a K' Q ha hK => h a K' Q ha fun F' w' a' hr ha' => hK F' w' a' ⟨hr.1, hr.2 _ hl.2⟩ ha'
theorem rs_k (i : Nat) (hi : ops[i]? = some o) (hg : o.guard = none) (h : OpK P n F o w (fun F' w' => (i ∉ ds → S w') ∧ RS P f R k ops n S ds r F' w')) : RS P f R k ops n S ds (.k i r) F w := rs_kg i hi (met_none hg) h
/-- An operation that yields, as the only one that may come up. -/
theorem rs_kvg {d : Nat} {v : Value} {S' : World → Prop} (i : Nat) (hi : ops[i]? = some o) (hg : Met ops F o true) (hd : o.dst = some d) (hn : Nat.ble (d + 1) n.n = true) (hS : S' w) (hv : OpV P F S' o v)
    (h : RS P f R k ops n S ds r ((d, v) :: F) w) : RS P f R k ops n S ds (.k i r) F w := fun l hl a ha => by
  simp only [orderB, Bool.and_eq_true] at hl
  have hr : Region.ready .any ops l = [i] := by simpa [oneB] using hl.1
  refine wpAnyLast_all hr (by simp) fun j hj => ?_
  have : j = i := by simpa using hj
  subst this
  refine wpOp_step hi fun K hK => ?_
  rw [if_pos (hg n a ha)]
  unfold Oper.wp
  rw [hv a.eval w ha.ev hS, Oper.upon_value, hd]
  exact hK _ _ ⟨fun _ h => h, h _ hl.2 _ (ha.put (Nat.le_of_ble_eq_true hn) v)⟩
theorem rs_kv {d : Nat} {v : Value} {S' : World → Prop} (i : Nat) (hi : ops[i]? = some o) (hg : o.guard = none) (hd : o.dst = some d) (hn : Nat.ble (d + 1) n.n = true) (hS : S' w) (hv : OpV P F S' o v)
    (h : RS P f R k ops n S ds r ((d, v) :: F) w) : RS P f R k ops n S ds (.k i r) F w := rs_kvg i hi (met_none hg) hd hn hS hv h
theorem rs_koff {d : Nat} (i : Nat) (hi : ops[i]? = some o) (hg : Met ops F o false) (hd : o.dst = some d) (hn : Nat.ble (d + 1) n.n = true)
    (h : RS P f R k ops n S ds r ((d, undef) :: F) w) : RS P f R k ops n S ds (.k i r) F w := fun l hl a ha => by
  simp only [orderB, Bool.and_eq_true] at hl
  have hr : Region.ready .any ops l = [i] := by simpa [oneB] using hl.1
  refine wpAnyLast_all hr (by simp) fun j hj => ?_
  have : j = i := by simpa using hj
  subst this
  refine wpOp_step hi fun K hK => ?_
  rw [if_neg (by rw [hg n a ha]; simp), hd]
  exact hK _ _ ⟨fun _ h => h, h _ hl.2 _ (ha.put (Nat.le_of_ble_eq_true hn) undef)⟩
/-- Two operations may come up. -/
theorem rs_b2 {o' : Oper} (i j : Nat) (hi : ops[i]? = some o) (hj : ops[j]? = some o') (hg : o.guard = none) (hg' : o'.guard = none)
    (h1 : OpK P n F o w (fun F' w' => (i ∉ ds → S w') ∧ RS P f R k ops n S ds r F' w')) (h2 : OpK P n F o' w (fun F' w' => (j ∉ ds → S w') ∧ RS P f R k ops n S ds s F' w')) : RS P f R k ops n S ds (.b2 i j r s) F w := fun l hl a ha => by
  simp only [orderB, Bool.and_eq_true, beq_iff_eq] at hl
  obtain ⟨⟨⟨hr, hn⟩, hl1⟩, hl2⟩ := hl
  refine wpAnyLast_all hr (by simp) fun q hq => ?_
  simp only [List.mem_cons, List.not_mem_nil, or_false] at hq
  rcases hq with rfl | rfl
  · refine wpOp_step hi fun K hK => ?_
    rw [if_pos (met_none (ops := ops) (F := F) hg n a ha)]
    exact h1 a K _ ha fun F' w' a' hk ha' => hK a' w' ⟨fun hj _ => hk.1 hj, hk.2 _ hl1 a' ha'⟩
  · refine wpOp_step hj fun K hK => ?_
    rw [if_pos (met_none (ops := ops) (F := F) hg' n a ha)]
    exact h2 a K _ ha fun F' w' a' hk ha' => hK a' w' ⟨fun hj _ => hk.1 hj, by have := hk.2 _ hl2 a' ha'; rw [← hn] at this; exact this⟩
theorem rs_split {s : Nat} {b : Bool} (hb : look F s = some (.bool b)) (h1 : b = true → RS P f R k ops n S ds r ((s, .bool true) :: F) w)
    (h2 : b = false → RS P f R k ops n S ds r ((s, .bool false) :: F) w) : RS P f R k ops n S ds r F w := by
  have hle : Fr.le ((s, .bool b) :: F) F := Fr.le_cons hb (Fr.le_refl F)
  cases b with
  | true => exact rs_le hle (h1 rfl)
  | false => exact rs_le hle (h2 rfl)
theorem rs_done (h : G P f R n k F w) : RS P f R k ops n S ds .done F w := fun l hl => ra_done (by simpa [orderB] using hl) h
end

end Go.Proofs.Ytlgpdglnfjndhaa.Xe
