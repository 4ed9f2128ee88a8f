/-
  Terms (layer 2): what they are, and how a heap tells them.
-/
import Derived.Test.YtlgpdglnfjndhaaX20
import Derived.Test.YtlgpdglnfjndhaaT
namespace Go.Proofs.Ytlgpdglnfjndhaa
set_option maxRecDepth 8000
set_option linter.unusedSimpArgs false
set_option linter.unusedVariables false
open Go Xe Go.Lib
inductive Tm where
  | mk (kind num : Int) (bytes : ByteArray) (list : List Tm)
@[reducible] def Tm.kind : Tm → Int | .mk k _ _ _ => k
@[reducible] def Tm.num : Tm → Int | .mk _ n _ _ => n
@[reducible] def Tm.bytes : Tm → ByteArray | .mk _ _ b _ => b
@[reducible] def Tm.list : Tm → List Tm | .mk _ _ _ l => l
theorem Tm.eta (t : Tm) : Tm.mk t.kind t.num t.bytes t.list = t := by cases t; rfl
def rdTn : Nat → Rd Tm
  | 0 => fun _ _ _ => False
  | k + 1 => fun g cs t => ∃ sl, cs = [.int .i64 t.kind, .int .u64 t.num, .string t.bytes, sl] ∧ (0 ≤ t.num ∧ t.num ≤ 18446744073709551615 ∧ -9223372036854775808 ≤ t.kind ∧ t.kind ≤ 9223372036854775807 ∧ t.bytes.size ≤ reachBytes) ∧ rdSl 56 4 (rdTn k) g [sl] t.list
theorem mono_Tn : ∀ k, Rd.Mono (rdTn k)
  | 0 => fun _ _ _ h => h
  | k + 1 => fun l _ _ h => by
    obtain ⟨sl, h1, h2, h3⟩ := h
    exact ⟨sl, h1, h2, mono_sl (mono_Tn k) l h3⟩
theorem rdSl_imp {α : Type} {bytes sz : Nat} {R S : Rd α} {g : Hp} {v : Value} {xs : List α} (h : ∀ cs x, x ∈ xs → R g cs x → S g cs x) (hr : rdSl bytes sz R g [v] xs) : rdSl bytes sz S g [v] xs := by
  rcases hr with hr | ⟨b, o, cap, h1, h2, h3, h4, h5⟩
  · exact .inl hr
  · refine .inr ⟨b, o, cap, h1, h2, h3, h4, fun i x hx => ?_⟩
    obtain ⟨ecs, h6, h7, h8⟩ := h5 i x hx
    exact ⟨ecs, h6, h7, h _ _ (List.mem_of_getElem? hx) h8⟩
theorem rdTn_succ : ∀ k {g : Hp} {cs : List Value} {t : Tm}, rdTn k g cs t → rdTn (k + 1) g cs t
  | 0, _, _, _, h => h.elim
  | k + 1, _, _, _, h => by
    obtain ⟨sl, h1, h2, h3⟩ := h
    exact ⟨sl, h1, h2, rdSl_imp (fun _ _ _ h => rdTn_succ k h) h3⟩
theorem rdTn_le {k m : Nat} (h : k ≤ m) {g : Hp} {cs : List Value} {t : Tm} (hr : rdTn k g cs t) : rdTn m g cs t := by
  induction h with
  | refl => exact hr
  | step _ ih => exact rdTn_succ _ ih
/-- Cells of a heap tell a term. -/
def rdTm : Rd Tm := fun g cs t => ∃ k, rdTn k g cs t
theorem mono_Tm : Rd.Mono rdTm := fun l _ _ ⟨k, h⟩ => ⟨k, mono_Tn k l h⟩
theorem rdTm_open {g : Hp} {cs : List Value} {t : Tm} (h : rdTm g cs t) :
    ∃ sl, cs = [.int .i64 t.kind, .int .u64 t.num, .string t.bytes, sl] ∧ (0 ≤ t.num ∧ t.num ≤ 18446744073709551615 ∧ -9223372036854775808 ≤ t.kind ∧ t.kind ≤ 9223372036854775807 ∧ t.bytes.size ≤ reachBytes) ∧ rdSl 56 4 rdTm g [sl] t.list := by
  obtain ⟨k, h⟩ := h
  cases k with
  | zero => exact h.elim
  | succ k =>
    obtain ⟨sl, h1, h2, h3⟩ := h
    exact ⟨sl, h1, h2, rdSl_imp (fun _ _ _ h => ⟨k, h⟩) h3⟩
theorem rows_k {g : Hp} : ∀ {ts : List Tm} {f : Nat → List Value}, (∀ i t, ts[i]? = some t → rdTm g (f i) t) → ∃ k, ∀ i t, ts[i]? = some t → rdTn k g (f i) t
  | [], _, _ => ⟨0, fun i t h => by simp at h⟩
  | t :: ts, f, h => by
    obtain ⟨k1, h1⟩ := h 0 t rfl
    obtain ⟨k2, h2⟩ := rows_k (f := fun i => f (i + 1)) (fun i t' ht => h (i + 1) t' (by simpa using ht))
    refine ⟨max k1 k2, fun i t' ht => ?_⟩
    cases i with
    | zero => obtain rfl : t = t' := by simpa using ht
              exact rdTn_le (Nat.le_max_left _ _) h1
    | succ i => exact rdTn_le (Nat.le_max_right _ _) (h2 i t' (by simpa using ht))
theorem rdTm_mk {g : Hp} {k n : Int} {b : ByteArray} {l : List Tm} {sl : Value} (h2 : 0 ≤ n ∧ n ≤ 18446744073709551615 ∧ -9223372036854775808 ≤ k ∧ k ≤ 9223372036854775807 ∧ b.size ≤ reachBytes) (h : rdSl 56 4 rdTm g [sl] l) :
    rdTm g [.int .i64 k, .int .u64 n, .string b, sl] (.mk k n b l) := by
  have key : ∃ m, rdSl 56 4 (rdTn m) g [sl] l := by
    rcases h with h | ⟨bb, o, cap, h3, h4, h5, h6, h7⟩
    · exact ⟨0, .inl h⟩
    · have h8 : ∀ i, ∃ ecs, ∀ x, l[i]? = some x → HAt g bb (o + i * 4) ecs ∧ ecs.length = 4 ∧ rdTm g ecs x := fun i => by
        cases hx : l[i]? with
        | none => exact ⟨[], fun x h => by cases h⟩
        | some y =>
          obtain ⟨ecs, h9⟩ := h7 i y hx
          exact ⟨ecs, fun x h => by cases h; exact h9⟩
      obtain ⟨f, hf⟩ := Classical.axiomOfChoice h8
      obtain ⟨m, hm⟩ := rows_k (f := f) (fun i x hx => (hf i x hx).2.2)
      exact ⟨m, .inr ⟨bb, o, cap, h3, h4, h5, h6, fun i x hx => ⟨f i, (hf i x hx).1, (hf i x hx).2.1, hm i x hx⟩⟩⟩
  obtain ⟨m, hm⟩ := key
  exact ⟨m + 1, sl, rfl, h2, hm⟩
theorem one_Tm : Rd.One rdTm := fun h => by
  obtain ⟨sl, rfl, _, h⟩ := rdTm_open h
  intro u hu
  simp only [List.mem_cons, List.not_mem_nil, or_false] at hu
  rcases hu with rfl | rfl | rfl | rfl
  · rfl
  · rfl
  · rfl
  · exact one_sl h _ (by simp)
theorem len_Tm {g : Hp} {cs : List Value} {t : Tm} (h : rdTm g cs t) : cs.length = 4 := by
  obtain ⟨sl, rfl, _⟩ := rdTm_open h
  rfl
mutual
/-- How many stand within one another. -/
def hT : Tm → Nat
  | .mk _ _ _ l => hL l + 1
def hL : List Tm → Nat
  | [] => 0
  | x :: xs => max (hT x) (hL xs)
end
mutual
/-- How many terms there are. -/
def nT : Tm → Nat
  | .mk _ _ _ l => nL l + 1
def nL : List Tm → Nat
  | [] => 0
  | x :: xs => nT x + nL xs
end
theorem hT_list (t : Tm) : hT t = hL t.list + 1 := by cases t; rfl
theorem nT_list (t : Tm) : nT t = nL t.list + 1 := by cases t; rfl
theorem hL_mem : ∀ {l : List Tm} {x : Tm}, x ∈ l → hT x ≤ hL l
  | y :: ys, x, h => by
    simp only [hL]
    rcases List.mem_cons.1 h with rfl | h
    · omega
    · have := hL_mem h; omega
theorem hT_pos (t : Tm) : 0 < hT t := by rw [hT_list]; omega
theorem nT_pos (t : Tm) : 0 < nT t := by rw [nT_list]; omega
theorem hL_snoc (l : List Tm) (x : Tm) : hL (l ++ [x]) = max (hL l) (hT x) := by
  induction l with
  | nil => simp [hL]
  | cons y ys ih => rw [List.cons_append, hL, ih, hL]; omega
theorem nL_snoc (l : List Tm) (x : Tm) : nL (l ++ [x]) = nL l + nT x := by
  induction l with
  | nil => simp [nL]
  | cons y ys ih => rw [List.cons_append, nL, ih, nL]; omega
theorem take_snoc {α : Type} {l : List α} {i : Nat} {x : α} (h : l[i]? = some x) : l.take (i + 1) = l.take i ++ [x] := by
  rw [List.take_add_one, h]; rfl
theorem nL_take_le (l : List Tm) : ∀ (i : Nat), nL (l.take i) ≤ nL l := by
  induction l with
  | nil => intro i; simp
  | cons x xs ih =>
    intro i
    cases i with
    | zero => simp [nL]
    | succ i => rw [List.take_succ_cons, nL, nL]; have := ih i; omega
theorem len_le_nL (l : List Tm) : l.length ≤ nL l := by
  induction l with
  | nil => simp
  | cons x xs ih => rw [List.length_cons, nL]; have := nT_pos x; omega
/-- Is a term itself as the words say? -/
def oneT (t : Tm) : Bool := if t.kind = 1 ∨ t.kind = 3 then decide (t.bytes = ByteArray.empty ∧ t.list.length = 0)
  else if t.kind = 2 then decide (t.num = 0 ∧ t.bytes.size ≤ 4000 ∧ t.list.length = 0)
  else if t.kind = 4 then decide (t.bytes = ByteArray.empty ∧ t.list.length = 1)
  else if t.kind = 5 then decide (t.num = 0 ∧ t.bytes = ByteArray.empty) else false
mutual
def shT : Tm → Bool
  | .mk k n b l => oneT (.mk k n b l) && shL l
def shL : List Tm → Bool
  | [] => true
  | x :: xs => shT x && shL xs
end
theorem shT_list (t : Tm) : shT t = (oneT t && shL t.list) := by cases t; rfl
theorem shL_all (l : List Tm) : shL l = l.all shT := by
  induction l with
  | nil => rfl
  | cons x xs ih => rw [shL, ih, List.all_cons]
/-- What term.Right answers. -/
def rightT (t : Tm) : Int := if nT t > 4000 then 23 else if hT t > 12 then 22 else if shT t = true then 0 else 25
/-- A number in sevens. -/
def putN (n : Nat) : ByteArray := if h : n < 128 then ByteArray.mk #[UInt8.ofNat n] else ByteArray.mk #[UInt8.ofNat (n % 128 + 128)] ++ putN (n / 128)
termination_by n
decreasing_by omega
/-- A term's head. -/
def headT (t : Tm) : ByteArray := ByteArray.mk #[UInt8.ofNat t.kind.toNat] ++
  (if t.kind = 1 ∨ t.kind = 3 ∨ t.kind = 4 then putN t.num.toNat else if t.kind = 2 then putN t.bytes.size ++ t.bytes else if t.kind = 5 then putN t.list.length else ByteArray.empty)
mutual
/-- A term's bytes. -/
def wrT : Tm → ByteArray
  | .mk k n b l => headT (.mk k n b l) ++ wrL l
def wrL : List Tm → ByteArray
  | [] => ByteArray.empty
  | x :: xs => wrT x ++ wrL xs
end
theorem wrT_list (t : Tm) : wrT t = headT t ++ wrL t.list := by cases t; rfl
theorem wrL_snoc (l : List Tm) (x : Tm) : wrL (l ++ [x]) = wrL l ++ wrT x := by
  induction l with
  | nil => simp [wrL]
  | cons y ys ih => rw [List.cons_append, wrL, ih, wrL, ByteArray.append_assoc]
end Go.Proofs.Ytlgpdglnfjndhaa
