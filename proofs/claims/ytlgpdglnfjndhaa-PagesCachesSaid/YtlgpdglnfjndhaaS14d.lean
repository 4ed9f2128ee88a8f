/-
  The log (layer 14): how many segments are free behind an Append (no program).
-/
import Derived.Test.YtlgpdglnfjndhaaS14c
namespace Go.Proofs.Ytlgpdglnfjndhaa
set_option maxRecDepth 8000
set_option linter.unusedSimpArgs false
set_option linter.unusedVariables false
open Go Xe Go.Lib
def frees (ss : List Sg) : Nat := ss.countP fun x => decide (x.kind = 1)
theorem sgidx_at {α : Type} {p : α → Bool} : ∀ {l : List α} {i : Int}, 0 ≤ i → 0 < l.countP p → i ≤ sgidx p l i ∧ ∃ x, l[(sgidx p l i - i).toNat]? = some x ∧ p x = true
  | [], _, _, h => by simp at h
  | x :: xs, i, hi, h => by
    simp only [sgidx]
    by_cases hp : p x = true
    · rw [if_pos hp]
      exact ⟨Int.le_refl _, x, by rw [Int.sub_self]; rfl, hp⟩
    · rw [if_neg hp]
      rw [List.countP_cons_of_neg hp] at h
      obtain ⟨h1, y, h2, h3⟩ := sgidx_at (p := p) (l := xs) (i := i + 1) (by omega) h
      refine ⟨by omega, y, ?_, h3⟩
      rw [show (sgidx p xs (i + 1) - i).toNat = (sgidx p xs (i + 1) - (i + 1)).toNat + 1 by omega, List.getElem?_cons_succ]
      exact h2
theorem frees_set {ss : List Sg} {i : Nat} {x y : Sg} (h : ss[i]? = some x) : frees (ss.set i y) + (if x.kind = 1 then 1 else 0) = frees ss + (if y.kind = 1 then 1 else 0) := by
  unfold frees
  induction ss generalizing i with
  | nil => simp at h
  | cons z ss ih =>
    cases i with
    | zero =>
      obtain rfl : z = x := by simpa using h
      rw [List.set_cons_zero, List.countP_cons, List.countP_cons]
      simp only [decide_eq_true_eq]
      omega
    | succ i =>
      have := ih (i := i) (by simpa using h)
      rw [List.set_cons_succ, List.countP_cons, List.countP_cons]
      omega
/-- What holds of a log whose power is on. -/
structure LgI (size : Int) (o : Int) (ss : List Sg) (md : Md) (pw : Pw) : Prop where
  ok : md.ok
  size : md.size = size
  len : ss.length = md.segs.length
  o0 : 0 ≤ o
  o1 : o < ss.length
  ob : (sgAt ss o).kind = 3
  ou : (sgAt ss o).used ≤ (md.seg o).size
  us : ∀ x ∈ ss, 0 ≤ x.used ∧ x.used ≤ md.size
  pok : pw.ok
  on : pw.off = false ∧ pw.ahead = 0
theorem sgAt_some {ss : List Sg} {i : Int} (h0 : 0 ≤ i) (h1 : i < ss.length) : ss[i.toNat]? = some (sgAt ss i) := by
  have : i.toNat < ss.length := by omega
  unfold sgAt; rw [List.getElem?_eq_getElem this]; rfl
theorem wrap_idem (n : Int) : IntKind.i64.wrap (IntKind.i64.wrap n) = IntKind.i64.wrap n := by simp [IntKind.wrap, IntKind.bits, IntKind.signed]; omega
theorem put_step {size o : Int} {ss : List Sg} {md : Md} {pw : Pw} (I : LgI size o ss md pw) (v : ByteArray) (to at_ : Int) (h0 : 0 ≤ to) (h1 : to < ss.length) (ha : 0 ≤ at_) (hb : at_ ≤ (md.seg to).size) (hn : (v.size : Int) ≤ size - at_) (hk : to = o ∨ (sgAt ss to).kind = 1) :
    md.write pw to at_ v = (0, md.put to at_ v, pw.spend.2) ∧ LgI size to (putL o ss to at_ v.size) (md.put to at_ v) pw.spend.2 ∧ frees (putL o ss to at_ v.size) + (if to = o then 0 else 1) = frees ss ∧ (sgAt (putL o ss to at_ v.size) to).used = at_ + v.size := by
  have his : md.is to := ⟨h0, by have := I.len; omega⟩
  have hsz := I.size
  have hon := I.on
  have hsp : pw.spend = (0, ⟨false, 0, IntKind.i64.wrap (pw.writes + 1)⟩) := by unfold Pw.spend; rw [if_neg (by simp [hon.1]), if_neg (by omega), hon.1, hon.2]
  have hwr : md.write pw to at_ v = (0, md.put to at_ v, pw.spend.2) := by
    unfold Md.write
    rw [if_pos his, if_neg (by omega), if_neg (by omega), if_pos (by rw [hsp])]
  have hox := sgAt_some I.o0 I.o1
  have hl1 : (ss.set o.toNat ⟨2, (sgAt ss o).used, (sgAt ss o).live⟩).length = ss.length := List.length_set
  have htx := sgAt_some (ss := ss.set o.toNat ⟨2, (sgAt ss o).used, (sgAt ss o).live⟩) h0 (by rw [hl1]; exact h1)
  have hf1 := frees_set (y := ⟨2, (sgAt ss o).used, (sgAt ss o).live⟩) hox
  rw [if_neg (by rw [I.ob]; omega), if_neg (by simp)] at hf1
  have hf2 := frees_set (y := ⟨3, at_ + v.size, (sgAt (ss.set o.toNat ⟨2, (sgAt ss o).used, (sgAt ss o).live⟩) to).live⟩) htx
  rw [if_neg (show ¬ (3 : Int) = 1 by omega)] at hf2
  have hkd : ((sgAt (ss.set o.toNat ⟨2, (sgAt ss o).used, (sgAt ss o).live⟩) to).kind = 1) ↔ ¬ to = o := by
    by_cases hto : to = o
    · have : sgAt (ss.set o.toNat ⟨2, (sgAt ss o).used, (sgAt ss o).live⟩) to = ⟨2, (sgAt ss o).used, (sgAt ss o).live⟩ := by
        unfold sgAt; rw [hto, List.getElem?_set_self (by have := I.o1; have := I.o0; omega)]; rfl
      rw [this]; simp [hto]
    · have : sgAt (ss.set o.toNat ⟨2, (sgAt ss o).used, (sgAt ss o).live⟩) to = sgAt ss to := by
        unfold sgAt; rw [List.getElem?_set_ne (by have := I.o0; omega)]
      rw [this]
      exact ⟨fun _ => hto, fun _ => hk.resolve_left hto⟩
  have hat : sgAt (putL o ss to at_ v.size) to = ⟨3, at_ + v.size, (sgAt (ss.set o.toNat ⟨2, (sgAt ss o).used, (sgAt ss o).live⟩) to).live⟩ := by
    show ((putL o ss to at_ v.size)[to.toNat]?).getD ⟨0, 0, 0⟩ = _
    unfold putL
    rw [List.getElem?_set_self (by rw [hl1]; omega)]; rfl
  have hln : (putL o ss to at_ v.size).length = ss.length := by unfold putL; rw [List.length_set, hl1]
  have hsg : ((md.put to at_ v).seg to).size = at_.toNat + v.size := by
    have hlt : to.toNat < md.segs.length := by have := I.len; omega
    unfold Md.seg Md.put
    rw [List.getElem?_set_self hlt]
    show (((md.seg to).extract 0 at_.toNat) ++ v).size = _
    rw [ByteArray.size_append, ByteArray.size_extract, Nat.min_eq_left (by omega)]; omega
  refine ⟨hwr, ⟨Md.ok_put I.ok his ha hb (by omega), hsz, ?_, h0, by rw [hln]; exact h1, by rw [hat], by rw [hat, hsg]; simp only; omega, ?_, ?_, ?_⟩, ?_, by rw [hat]⟩
  · rw [hln, I.len]; simp [Md.put]
  · intro x hx
    unfold putL at hx
    have hq : (md.put to at_ v).size = md.size := rfl
    rw [hq]
    rcases List.mem_or_eq_of_mem_set hx with hx | rfl
    · rcases List.mem_or_eq_of_mem_set hx with hx | rfl
      · exact I.us x hx
      · have := I.us (sgAt ss o) (List.mem_of_getElem? hox); exact this
    · simp only; omega
  · rw [hsp]; exact ⟨by simp only; omega, by simp only; omega, wrap_idem _⟩
  · rw [hsp]; exact ⟨rfl, rfl⟩
  · unfold putL
    by_cases hto : to = o
    · rw [if_neg (fun h => (hkd.1 h) hto)] at hf2; rw [if_pos hto]; omega
    · rw [if_pos (hkd.2 hto)] at hf2; rw [if_neg hto]; omega
/-- An Append that is too long or empty changes nothing; else it goes in, while a segment is free. -/
theorem app_step {size o : Int} {ss : List Sg} {md : Md} {pw : Pw} (I : LgI size o ss md pw) (v : ByteArray) (hv : v ≠ ByteArray.empty) (hs : (v.size : Int) ≤ size) (hf : 0 < frees ss) :
    (appL o ss md pw v).bad = 0 ∧ LgI size (appL o ss md pw v).o (appL o ss md pw v).ss (appL o ss md pw v).md (appL o ss md pw v).pw ∧ (appL o ss md pw v).md.past.length = md.past.length + 1 ∧ (appL o ss md pw v).ss.length = ss.length ∧
      ((size < (sgAt ss o).used + v.size ∧ frees (appL o ss md pw v).ss + 1 = frees ss ∧ (sgAt (appL o ss md pw v).ss (appL o ss md pw v).o).used = v.size) ∨ ((sgAt ss o).used + v.size ≤ size ∧ frees (appL o ss md pw v).ss = frees ss ∧ (sgAt (appL o ss md pw v).ss (appL o ss md pw v).o).used = (sgAt ss o).used + v.size)) := by
  have hsz := I.size
  have hox := sgAt_some I.o0 I.o1
  have hu := I.us _ (List.mem_of_getElem? hox)
  have hlp : ∀ to at_ n, (putL o ss to at_ n).length = ss.length := fun to at_ n => by unfold putL; rw [List.length_set, List.length_set]
  unfold appL
  rw [if_neg (by rintro (h | h); exact hv h; omega)]
  by_cases hc : (v.size : Int) > md.size - (sgAt ss o).used
  · have hi := sgidx_at (p := fun x : Sg => decide (x.kind = 1)) (l := ss) (i := 0) (Int.le_refl _) hf
    have htg : tgtL md.size o ss v.size = (sgidx (fun x : Sg => decide (x.kind = 1)) ss 0, 0) := by unfold tgtL; rw [if_pos hc]
    rw [htg]
    generalize sgidx (fun x : Sg => decide (x.kind = 1)) ss 0 = to at hi
    obtain ⟨h0, x, hx, hk⟩ := hi
    rw [Int.sub_zero] at hx
    obtain ⟨hx1, _⟩ := List.getElem?_eq_some_iff.1 hx
    have hk1 : (sgAt ss to).kind = 1 := by unfold sgAt; rw [hx]; simpa using hk
    have hne : ¬ to = o := fun h => by rw [h, I.ob] at hk1; omega
    obtain ⟨hw1, hI, hfr, hus⟩ := put_step I v to 0 h0 (by omega) (Int.le_refl _) (by omega) (by omega) (.inr hk1)
    rw [if_neg hne] at hfr
    dsimp only
    rw [hw1, if_neg (by omega), if_neg (by simp)]
    exact ⟨rfl, hI, by simp [Md.put], hlp .., .inl ⟨by omega, hfr, by simp only; rw [hus]; omega⟩⟩
  · have htg : tgtL md.size o ss v.size = (o, (sgAt ss o).used) := by unfold tgtL; rw [if_neg hc]
    rw [htg]
    obtain ⟨hw1, hI, hfr, hus⟩ := put_step I v o (sgAt ss o).used I.o0 I.o1 hu.1 I.ou (by omega) (.inl rfl)
    rw [if_pos rfl] at hfr
    dsimp only
    rw [hw1, if_neg (by have := I.o0; omega), if_neg (by simp)]
    exact ⟨rfl, hI, by simp [Md.put], hlp .., .inr ⟨by omega, hfr, hus⟩⟩
end Go.Proofs.Ytlgpdglnfjndhaa
