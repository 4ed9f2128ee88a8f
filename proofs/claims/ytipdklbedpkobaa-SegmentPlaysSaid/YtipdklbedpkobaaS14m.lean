/-
  The log (layer 14), no program: what holds of a log whose power is on, and of the places that were told.
-/
import Derived.Test.YtipdklbedpkobaaS14k
namespace Go.Proofs.Ytipdklbedpkobaa
set_option maxRecDepth 8000
set_option linter.unusedSimpArgs false
set_option linter.unusedVariables false
open Go Xe Go.Lib
structure LgK (size : Int) (o : Int) (ss : List Sg) (md : Md) (pw : Pw) : Prop where
  I : LgI size o ss md pw
  kd : ∀ (i : Nat) (x : Sg), ss[i]? = some x → (x.kind = 3 ↔ (i : Int) = o) ∧ (x.kind = 1 ∨ x.kind = 2 ∨ x.kind = 3)
  fu : ∀ (i : Nat) (x : Sg), ss[i]? = some x → x.kind ≠ 1 → x.used ≤ (md.seg i).size
  lv : ∀ x ∈ ss, x.kind = 1 → x.live = 0
theorem sgAt_get {ss : List Sg} {i : Nat} {x : Sg} (h : ss[i]? = some x) : sgAt ss i = x := by unfold sgAt; rw [Int.toNat_natCast, h]; rfl
theorem new_LgK {size : Int} {n : Nat} (h1 : 1 ≤ n) (h2 : n ≤ 4096) (h3 : 1 ≤ size) (h4 : size ≤ 1048576) : LgK size 0 (newSegs n) (newMd size n) ⟨false, 0, 0⟩ := by
  refine ⟨new_LgI h1 h2 h3 h4, ?_, ?_, ?_⟩
  · intro i x hx
    unfold newSegs at hx
    rcases i with _ | i
    · obtain rfl : _ = x := by simpa using hx
      simp
    · rw [List.getElem?_cons_succ] at hx
      rw [(List.mem_replicate.1 (List.mem_of_getElem? hx)).2]
      exact ⟨⟨fun h => absurd h (by simp), fun h => absurd h (by omega)⟩, .inl rfl⟩
  · intro i x hx _
    have hm : x ∈ newSegs n := List.mem_of_getElem? hx
    have : x.used = 0 := by
      unfold newSegs at hm
      rcases List.mem_cons.1 hm with rfl | hm
      · rfl
      · rw [(List.mem_replicate.1 hm).2]
    omega
  · intro x hx _
    unfold newSegs at hx
    rcases List.mem_cons.1 hx with rfl | hm
    · rfl
    · rw [(List.mem_replicate.1 hm).2]
theorem putL_len (o to at_ n : Int) (ss : List Sg) : (putL o ss to at_ n).length = ss.length := by unfold putL; rw [List.length_set, List.length_set]
theorem putL_get {o to at_ n : Int} {ss : List Sg} (ho0 : 0 ≤ o) (ho : o < ss.length) (ht0 : 0 ≤ to) (ht : to < ss.length) (i : Nat) :
    (putL o ss to at_ n)[i]? = if (i : Int) = to then some ⟨3, at_ + n, (sgAt ss to).live⟩ else if (i : Int) = o then some ⟨2, (sgAt ss o).used, (sgAt ss o).live⟩ else ss[i]? := by
  have hlv : (sgAt (ss.set o.toNat ⟨2, (sgAt ss o).used, (sgAt ss o).live⟩) to).live = (sgAt ss to).live := by
    unfold sgAt
    by_cases h : to = o
    · subst h; rw [List.getElem?_set_self (by omega)]; rfl
    · rw [List.getElem?_set_ne (by omega)]
  unfold putL
  rw [hlv]
  split
  · rename_i h
    rw [show i = to.toNat by omega, List.getElem?_set_self (by rw [List.length_set]; omega)]
  · rename_i h
    rw [List.getElem?_set_ne (by omega)]
    split
    · rename_i h2
      rw [show i = o.toNat by omega, List.getElem?_set_self (by omega)]
    · rw [List.getElem?_set_ne (by omega)]
theorem put_seg {md : Md} {to at_ : Int} {v : ByteArray} (h0 : 0 ≤ to) (h1 : to < md.segs.length) (i : Int) (hi : 0 ≤ i) : (md.put to at_ v).seg i = if i = to then (md.seg to).extract 0 at_.toNat ++ v else md.seg i := by
  unfold Md.seg Md.put
  split
  · rename_i h
    subst h
    simp only
    rw [List.getElem?_set_self (by omega)]; rfl
  · rename_i h
    simp only
    rw [List.getElem?_set_ne (by omega)]
/-- How an Append ends. -/
structure AppK (size o : Int) (ss : List Sg) (md : Md) (v : ByteArray) (r : Ap) (at_ : Int) : Prop where
  bad : r.bad = 0
  K : LgK size r.o r.ss r.md r.pw
  past : r.md.past.length = md.past.length + 1
  len : r.ss.length = ss.length
  vs : 1 ≤ (v.size : Int)
  at0 : r.at_ = (r.o, at_, (v.size : Int))
  a0 : 0 ≤ at_
  us : (sgAt r.ss r.o).used = at_ + v.size
  hm : r.md = md.put r.o at_ v
  hs : r.ss = putL o ss r.o at_ v.size
  way : (r.o = o ∧ at_ = (sgAt ss o).used) ∨ (r.o ≠ o ∧ at_ = 0 ∧ size - (sgAt ss o).used < v.size ∧ (sgAt ss r.o).kind = 1 ∧ r.o = idx (fun x : Sg => decide (x.kind = 1)) ss 0)
theorem app_k {size o : Int} {ss : List Sg} {md : Md} {pw : Pw} (K : LgK size o ss md pw) (v : ByteArray) :
    (∃ e, e ≠ 0 ∧ appL o ss md pw v = ⟨(0, 0, 0), e, o, ss, md, pw⟩ ∧ (e = 140 → frees ss = 0)) ∨ ∃ at_, AppK size o ss md v (appL o ss md pw v) at_ := by
  have I := K.I
  have hsz := I.size
  by_cases hv : v = ByteArray.empty ∨ (v.size : Int) > md.size
  · exact .inl ⟨2, by omega, by unfold appL; rw [if_pos hv], by omega⟩
  have hv0 : 1 ≤ (v.size : Int) := by
    rcases Nat.eq_zero_or_pos v.size with h | h
    · exact absurd (.inl (ByteArray.ext (Array.eq_empty_of_size_eq_zero h))) hv
    · omega
  have hv1 : (v.size : Int) ≤ size := by
    rw [← hsz]
    exact Int.not_lt.1 (fun h => hv (.inr h))
  by_cases hn : (tgtL md.size o ss v.size).1 < 0
  · refine .inl ⟨140, by omega, by unfold appL; rw [if_neg hv, if_pos hn], fun _ => ?_⟩
    rcases Nat.eq_zero_or_pos (frees ss) with h | h
    · exact h
    · have h2 := (idx_at (p := fun x : Sg => decide (x.kind = 1)) (l := ss) (i := 0) (Int.le_refl _) h).1
      unfold tgtL at hn
      have := I.o0
      split at hn <;> simp only at hn <;> omega
  right
  have hox := sgAt_some I.o0 I.o1
  have hu := I.us _ (List.mem_of_getElem? hox)
  obtain ⟨to, at_, htg, hto0, hto1, ha0, hab, hal, hway⟩ : ∃ to at_, tgtL md.size o ss v.size = (to, at_) ∧ 0 ≤ to ∧ to < ss.length ∧ 0 ≤ at_ ∧ at_ ≤ (md.seg to).size ∧ (v.size : Int) ≤ size - at_ ∧ ((to = o ∧ at_ = (sgAt ss o).used) ∨ (to ≠ o ∧ at_ = 0 ∧ size - (sgAt ss o).used < v.size ∧ (sgAt ss to).kind = 1 ∧ to = idx (fun x : Sg => decide (x.kind = 1)) ss 0)) := by
    by_cases hc : (v.size : Int) > md.size - (sgAt ss o).used
    · have htg : tgtL md.size o ss v.size = (idx (fun x : Sg => decide (x.kind = 1)) ss 0, 0) := by unfold tgtL; rw [if_pos hc]
      rw [htg] at hn ⊢
      have hib := idx_bound (p := fun x : Sg => decide (x.kind = 1)) (l := ss) (i := 0) (by omega)
      have hf : 0 < frees ss := by
        rcases Nat.eq_zero_or_pos (frees ss) with h | h
        · exfalso
          have : ∀ (xs : List Sg) (i : Int), xs.countP (fun x : Sg => decide (x.kind = 1)) = 0 → idx (fun x : Sg => decide (x.kind = 1)) xs i = -1 := by
            intro xs
            induction xs with
            | nil => intro i _; rfl
            | cons x xs ih =>
              intro i h
              rw [List.countP_cons] at h
              by_cases hx : decide (x.kind = 1) = true
              · rw [if_pos hx] at h; omega
              · rw [if_neg hx] at h
                simp only [idx]; rw [if_neg hx]; exact ih _ h
          have := this ss 0 h
          simp only at hn
          omega
        · exact h
      obtain ⟨h0, x, hx, hk⟩ := idx_at (p := fun x : Sg => decide (x.kind = 1)) (l := ss) (i := 0) (Int.le_refl _) hf
      rw [Int.sub_zero] at hx
      have hk1 : (sgAt ss (idx (fun x : Sg => decide (x.kind = 1)) ss 0)).kind = 1 := by unfold sgAt; rw [hx]; simpa using hk
      refine ⟨_, _, rfl, h0, by omega, Int.le_refl _, by omega, by omega, .inr ⟨fun h => ?_, rfl, by omega, hk1, rfl⟩⟩
      rw [h, I.ob] at hk1; omega
    · have htg : tgtL md.size o ss v.size = (o, (sgAt ss o).used) := by unfold tgtL; rw [if_neg hc]
      exact ⟨_, _, htg, I.o0, I.o1, hu.1, I.ou, by omega, .inl ⟨rfl, rfl⟩⟩
  obtain ⟨hw1, hI, _, hus⟩ := put_step I v to at_ hto0 hto1 ha0 hab hal (hway.elim (fun h => .inl h.1) (fun h => .inr h.2.2.2.1))
  have e : appL o ss md pw v = ⟨(to, at_, v.size), 0, to, putL o ss to at_ v.size, md.put to at_ v, pw.spend.2⟩ := by
    unfold appL
    rw [if_neg hv, if_neg hn, htg, hw1]
    rw [if_neg (by simp)]
  refine ⟨at_, ?_⟩
  rw [e]
  have hlen := I.len
  have hget := putL_get (at_ := at_) (n := v.size) I.o0 I.o1 hto0 hto1
  refine ⟨rfl, ⟨hI, ?_, ?_, ?_⟩, by simp [Md.put], putL_len .., hv0, rfl, ha0, hus, rfl, rfl, hway⟩
  · intro i x hx
    rw [hget] at hx
    split at hx
    · rename_i h
      obtain rfl := Option.some.inj hx
      exact ⟨⟨fun _ => h, fun _ => rfl⟩, by simp⟩
    · rename_i h
      split at hx
      · obtain rfl := Option.some.inj hx
        exact ⟨⟨fun h3 => by simp at h3, fun h3 => absurd h3 h⟩, by simp⟩
      · rename_i h2
        have := K.kd i x hx
        exact ⟨⟨fun h3 => absurd (this.1.1 h3) h2, fun h3 => absurd h3 h⟩, this.2⟩
  · intro i x hx hk
    rw [hget] at hx
    rw [put_seg hto0 (by omega) _ (by omega)]
    split at hx
    · rename_i h
      obtain rfl := Option.some.inj hx
      rw [if_pos h, ByteArray.size_append, ByteArray.size_extract]
      simp only
      omega
    · rename_i h
      rw [if_neg h]
      split at hx
      · rename_i h2
        obtain rfl := Option.some.inj hx
        have := I.ou
        rw [h2]
        exact this
      · exact K.fu i x hx hk
  · intro x hx hk
    obtain ⟨i, hi⟩ := List.getElem?_of_mem hx
    rw [hget] at hi
    split at hi
    · obtain rfl := Option.some.inj hi
      simp at hk
    · split at hi
      · obtain rfl := Option.some.inj hi
        simp at hk
      · exact K.lv x (List.mem_of_getElem? hi) hk
end Go.Proofs.Ytipdklbedpkobaa
