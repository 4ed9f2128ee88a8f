/-
  What the tree's calls answer where there is no tree (no program).
-/
import Derived.Test.YtdiocmjhencbpaaC07m
namespace Go.Proofs.Ytdiocmjhencbpaa
set_option maxRecDepth 8000
set_option linter.unusedSimpArgs false
set_option linter.unusedVariables false
open Go Xe
theorem wrH_at {s : List Nd} {n : Nd} (h : s.length < 20000) : wrH s n = (refO s.length, 0, s ++ [n]) := if_neg (by omega)
theorem rdH_at {s : List Nd} {i : Nat} {x : Nd} (hx : s[i]? = some x) : rdH s (refO i) = (x, 0, s) := by
  have hlt := (List.getElem?_eq_some_iff.1 hx).1
  unfold rdH
  rw [if_pos ⟨by simp only [refO]; omega, by simp only [refO]; omega, by simp only [refO, Int.add_sub_cancel]⟩]
  simp only [refO, Int.add_sub_cancel, Int.toNat_natCast, List.getD_eq_getElem?_getD, hx, Option.getD_some]
structure LostR (s : List Nd) (r : Rf) (bad : Int) : Prop where
  nz : bad ≠ 0
  get : ∀ name, getO heapO 8 s r name = (en0, false, bad, s)
  put : ∀ e, putT heapO s r e = (rf0, bad, s)
  del : ∀ name, delT heapO s r name = (rf0, false, bad, s)
  mov : ∀ segs, moveO heapO segs 8 s r = (rf0, 0, bad, s)
  all : allO heapO 8 1 s r = ([], bad, s)
theorem LostR.mk' {s : List Nd} {r : Rf} {bad : Int} (hb : bad ≠ 0) (h1 : ∀ name, getO heapO 8 s r name = (en0, false, bad, s)) (h2 : ∀ e, putO heapO 8 s r e = ([], bad, s)) (h3 : ∀ name, takeO heapO 8 s r name = (nd0, false, bad, s))
    (h4 : ∀ segs, moveO heapO segs 8 s r = (rf0, 0, bad, s)) (h5 : allO heapO 8 1 s r = ([], bad, s)) : LostR s r bad :=
  ⟨hb, h1, fun e => by simp only [putT, h2]; exact if_pos hb, fun name => by simp only [delT, h3]; exact if_pos hb, h4, h5⟩
theorem lost_page {r : Rf} : LostR [] r 71 := by
  have h : rdH [] r = (nd0, 71, []) := if_neg (by rintro ⟨h1, h2, _⟩; simp at h2; omega)
  have ha : atO heapO 8 [] r = (nd0, 71, []) := by
    simp only [atO, at1, h]; exact if_pos (by simp)
  exact .mk' (by simp) (fun name => getO_bad heapO ha (by simp)) (fun e => putO_bad heapO ha (by simp)) (fun name => takeO_bad heapO ha (by simp))
    (fun segs => moveO_bad heapO ha (by simp)) (allO_bad heapO ha (by simp))
inductive Chain (s : List Nd) : Rf → Prop where
  | base {r : Rf} : at1 heapO s r = (nd0, 70, s) → Chain s r
  | step {r : Rf} {low : ByteArray} {r' : Rf} : at1 heapO s r = (⟨false, [], [⟨low, r'⟩]⟩, 0, s) → Chain s r' → Chain s r
theorem chain_at {s : List Nd} {r : Rf} (h : Chain s r) (k : Nat) : (atO heapO k s r = (nd0, 70, s)) ∨ ∃ q low r', k = q + 1 ∧ at1 heapO s r = (⟨false, [], [⟨low, r'⟩]⟩, 0, s) ∧ Chain s r' := by
  cases k with
  | zero => exact .inl rfl
  | succ q => cases h with
    | base h => exact .inl h
    | step h h2 => exact .inr ⟨q, _, _, rfl, h, h2⟩
theorem chain_get {s : List Nd} {name : ByteArray} : ∀ (k : Nat) {r : Rf}, Chain s r → getO heapO k s r name = (en0, false, 70, s)
  | k, r, h => by
    rcases chain_at h k with ha | ⟨q, low, r', rfl, ha, h2⟩
    · exact getO_bad heapO ha (by simp)
    · rw [getO_inner heapO ha rfl]; exact chain_get q h2
theorem chain_put {s : List Nd} {e : En} : ∀ (k : Nat) {r : Rf}, Chain s r → putO heapO k s r e = ([], 70, s)
  | k, r, h => by
    rcases chain_at h k with ha | ⟨q, low, r', rfl, ha, h2⟩
    · exact putO_bad heapO ha (by simp)
    · rw [putO_inner heapO ha rfl (chain_put q h2)]; exact if_pos (by simp)
theorem chain_take {s : List Nd} {name : ByteArray} : ∀ (k : Nat) {r : Rf}, Chain s r → takeO heapO k s r name = (nd0, false, 70, s)
  | k, r, h => by
    rcases chain_at h k with ha | ⟨q, low, r', rfl, ha, h2⟩
    · exact takeO_bad heapO ha (by simp)
    · exact takeO_no heapO ha rfl (chain_take q h2) (.inl (by simp))
theorem chain_move {s : List Nd} {segs : List Int} : ∀ (k : Nat) {r : Rf}, Chain s r → moveO heapO segs k s r = (rf0, 0, 70, s)
  | k, r, h => by
    rcases chain_at h k with ha | ⟨q, low, r', rfl, ha, h2⟩
    · exact moveO_bad heapO ha (by simp)
    · have := chain_move (segs := segs) q h2
      simp only [moveO, ha, movesO, this]; simp
theorem chain_all {s : List Nd} : ∀ (k : Nat) (deep : Int) {r : Rf}, Chain s r → allO heapO k deep s r = ([], 70, s)
  | k, deep, r, h => by
    rcases chain_at h k with ha | ⟨q, low, r', rfl, ha, h2⟩
    · exact allO_bad heapO ha (by simp)
    · have := chain_all q (deep + 1) h2
      simp only [allO, ha, allsO, this]; simp
theorem lost_chain {s : List Nd} {r : Rf} (h : Chain s r) : LostR s r 70 :=
  .mk' (by simp) (fun _ => chain_get 8 h) (fun _ => chain_put 8 h) (fun _ => chain_take 8 h) (fun _ => chain_move 8 h) (chain_all 8 1 h)
@[reducible] def aN : ByteArray := ⟨#[97]⟩
def chainN (i : Nat) : Nd := ⟨false, [], if i = 0 then [] else [⟨aN, refO ((i : Int) - 1)⟩]⟩
def chainH (n : Nat) : List Nd := (List.range n).map chainN
theorem chainH_len (n : Nat) : (chainH n).length = n := by simp [chainH]
theorem chainH_succ (n : Nat) : chainH (n + 1) = chainH n ++ [chainN n] := by simp [chainH, List.range_succ]
theorem chainH_get {n i : Nat} (h : i < n) : (chainH n)[i]? = some (chainN i) := by simp [chainH, List.getElem?_range h]
theorem chain_ref {n : Nat} : ∀ {i : Nat}, i < n → Chain (chainH n) (refO i)
  | 0, h => .base (by have := rdH_at (chainH_get h); simp only [at1, this]; simp [chainN])
  | i + 1, h => .step (low := aN) (r' := refO i) (by have := rdH_at (chainH_get h); simp only [at1, this]; simp [chainN]) (chain_ref (by omega))
end Go.Proofs.Ytdiocmjhencbpaa
