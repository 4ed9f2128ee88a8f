/-
  Terms read from bytes (layer 2), as functions on plain data: what was written is read again.
-/
import Derived.Test.YtlgpdglnfjndhaaU02
namespace Go.Proofs.Ytlgpdglnfjndhaa
set_option maxRecDepth 8000
set_option linter.unusedSimpArgs false
set_option linter.unusedVariables false
open Go Xe Go.Lib
/-- A number's bytes from place i on, n being what came ahead: the value, the place behind, the error. -/
def getN (s : ByteArray) (i n : Nat) : Nat × Nat × Int :=
  if h : i < s.size then
    if i = 9 ∧ 1 < s[i].toNat then (0, 0, 21) else
    if s[i].toNat < 128 then (if s[i].toNat = 0 ∧ 0 < i then (0, 0, 21) else (n + s[i].toNat * 2 ^ (7 * i), i + 1, 0))
    else getN s (i + 1) (n + (s[i].toNat - 128) * 2 ^ (7 * i))
  else (0, 0, 20)
termination_by s.size - i
theorem putN_le : ∀ (k n : Nat), n < 128 ^ (k + 1) → (putN n).size ≤ k + 1 := by
  intro k
  induction k with
  | zero =>
    intro n h
    rw [putN, dif_pos (by simpa using h)]
    exact Nat.le_refl 1
  | succ k ih =>
    intro n h
    rw [putN]
    split
    · show 1 ≤ k + 1 + 1; omega
    · rw [ByteArray.size_append]
      have h1 : n / 128 < 128 ^ (k + 1) := by
        rw [Nat.div_lt_iff_lt_mul (by omega)]
        rwa [Nat.pow_succ] at h
      have := ih _ h1
      show 1 + (putN (n / 128)).size ≤ k + 1 + 1
      omega
theorem ba_get_left {a b : ByteArray} {i : Nat} (h : i < a.size) : (a ++ b)[i]? = some (a[i]) := by
  rw [getElem?_pos _ _ (by rw [ByteArray.size_append]; omega)]
  congr 1
  exact ByteArray.getElem_append_left h
theorem ba_get_right {a b : ByteArray} {i : Nat} (h : i < b.size) : (a ++ b)[a.size + i]? = some (b[i]) := by
  rw [getElem?_pos _ _ (by rw [ByteArray.size_append]; omega)]
  congr 1
  rw [ByteArray.getElem_append_right (by omega)]
  congr 1; omega
theorem getN_put : ∀ (n : Nat) (pre post : ByteArray) (acc : Nat), pre.size ≤ 9 → n < 2 ^ (64 - 7 * pre.size) → (0 < pre.size → 0 < n) → getN (pre ++ (putN n ++ post)) pre.size acc = (acc + n * 2 ^ (7 * pre.size), pre.size + (putN n).size, 0) := by
  intro n
  induction n using Nat.strongRecOn with
  | ind n ih =>
    intro pre post acc h9 hn h0
    have hpos : 0 < (putN n).size := by
      rw [putN]; split
      · show 0 < 1; omega
      · rw [ByteArray.size_append]; show 0 < 1 + _; omega
    have hlt : pre.size < (pre ++ (putN n ++ post)).size := by rw [ByteArray.size_append, ByteArray.size_append]; omega
    have hget : (pre ++ (putN n ++ post))[pre.size] = (putN n)[0] := by
      have h1 := ba_get_right (a := pre) (b := putN n ++ post) (i := 0) (by rw [ByteArray.size_append]; omega)
      rw [Nat.add_zero, getElem?_pos (pre ++ (putN n ++ post)) pre.size hlt] at h1
      have h2 := Option.some.inj h1
      rw [h2, ByteArray.getElem_append_left hpos]
    rw [getN, dif_pos hlt, hget]
    by_cases hs : n < 128
    · have e1 : putN n = ByteArray.mk #[UInt8.ofNat n] := by rw [putN, dif_pos hs]
      have e2 : ((putN n)[0]).toNat = n := by
        have : (putN n)[0] = UInt8.ofNat n := by simp only [e1]; rfl
        rw [this, UInt8.toNat_ofNat']; omega
      rw [e2]
      have hc : ¬ (pre.size = 9 ∧ 1 < n) := fun ⟨a, b⟩ => by
        rw [a] at hn; omega
      rw [if_neg hc, if_pos hs, if_neg (by omega)]
      rw [e1]; rfl
    · have e1 : putN n = ByteArray.mk #[UInt8.ofNat (n % 128 + 128)] ++ putN (n / 128) := by rw [putN, dif_neg hs]
      have e2 : ((putN n)[0]).toNat = n % 128 + 128 := by
        have : (putN n)[0] = UInt8.ofNat (n % 128 + 128) := by
          simp only [e1]
          rw [ByteArray.getElem_append_left (by show 0 < 1; omega)]; rfl
        rw [this, UInt8.toNat_ofNat']; omega
      rw [e2]
      have hp9 : pre.size < 9 := by
        rcases Nat.lt_or_ge pre.size 9 with h | h
        · exact h
        · have : pre.size = 9 := by omega
          rw [this] at hn; omega
      rw [if_neg (by omega), if_neg (by omega)]
      have e3 : pre ++ (putN n ++ post) = (pre ++ ByteArray.mk #[UInt8.ofNat (n % 128 + 128)]) ++ (putN (n / 128) ++ post) := by
        rw [e1, ByteArray.append_assoc, ByteArray.append_assoc]
      have e4 : (pre ++ ByteArray.mk #[UInt8.ofNat (n % 128 + 128)]).size = pre.size + 1 := by rw [ByteArray.size_append]; rfl
      have h3 : n / 128 < 2 ^ (64 - 7 * (pre.size + 1)) := by
        rw [Nat.div_lt_iff_lt_mul (by omega)]
        have : 2 ^ (64 - 7 * pre.size) = 2 ^ (64 - 7 * (pre.size + 1)) * 128 := by
          rw [show 64 - 7 * pre.size = 64 - 7 * (pre.size + 1) + 7 by omega, Nat.pow_add]
        omega
      have := ih (n / 128) (by omega) (pre ++ ByteArray.mk #[UInt8.ofNat (n % 128 + 128)]) post (acc + (n % 128 + 128 - 128) * 2 ^ (7 * pre.size)) (by omega) (by rw [e4]; exact h3) (fun _ => by omega)
      rw [e4, ← e3] at this
      rw [this]
      have e5 : (putN n).size = 1 + (putN (n / 128)).size := by rw [e1, ByteArray.size_append]; rfl
      rw [e5]
      refine Prod.ext ?_ (Prod.ext ?_ rfl)
      · show acc + (n % 128 + 128 - 128) * 2 ^ (7 * pre.size) + n / 128 * 2 ^ (7 * (pre.size + 1)) = acc + n * 2 ^ (7 * pre.size)
        have : 2 ^ (7 * (pre.size + 1)) = 128 * 2 ^ (7 * pre.size) := by rw [Nat.mul_succ, Nat.pow_add, Nat.mul_comm]
        rw [this, Nat.add_sub_cancel, Nat.add_assoc, ← Nat.mul_assoc, ← Nat.add_mul]
        congr 2; omega
      · show pre.size + 1 + (putN (n / 128)).size = pre.size + (1 + (putN (n / 128)).size); omega
theorem getN_le : ∀ (k : Nat) (s : ByteArray) (i n : Nat), s.size - i = k → (getN s i n).2.2 = 0 → i < (getN s i n).2.1 ∧ (getN s i n).2.1 ≤ s.size := by
  intro k
  induction k with
  | zero => intro s i n hk h; rw [getN, dif_neg (by omega)] at h; cases h
  | succ k ih =>
    intro s i n hk h
    rw [getN, dif_pos (by omega)] at h ⊢
    split at h
    · cases h
    · rw [if_neg (by assumption)]
      split at h
      · rw [if_pos (by assumption)]
        split at h
        · cases h
        · rw [if_neg (by assumption)]; exact ⟨by show i < i + 1; omega, by show i + 1 ≤ _; omega⟩
      · rw [if_neg (by assumption)]
        have := ih s (i + 1) _ (by omega) h
        omega
theorem getN_num : ∀ (k : Nat) (s : ByteArray) (i n : Nat), s.size - i = k → i ≤ 9 → n < 2 ^ (7 * i) → (getN s i n).1 < 2 ^ 64 := by
  intro k
  induction k with
  | zero => intro s i n hk _ h; rw [getN, dif_neg (by omega)]; exact Nat.two_pow_pos 64
  | succ k ih =>
    intro s i n hk h9 h
    rw [getN, dif_pos (by omega)]
    have hb := s[i].toNat_lt
    have h2 : 2 ^ (7 * (i + 1)) = 128 * 2 ^ (7 * i) := by rw [Nat.mul_succ, Nat.pow_add, Nat.mul_comm]
    split
    · exact Nat.two_pow_pos 64
    · rename_i hc
      split
      · split
        · exact Nat.two_pow_pos 64
        · rename_i h3 h4
          show n + s[i].toNat * 2 ^ (7 * i) < 2 ^ 64
          rcases Nat.lt_or_ge i 9 with h5 | h5
          · have h6 : n + s[i].toNat * 2 ^ (7 * i) < 2 ^ (7 * (i + 1)) := by
              rw [h2]
              have : s[i].toNat * 2 ^ (7 * i) ≤ 127 * 2 ^ (7 * i) := Nat.mul_le_mul_right _ (by omega)
              omega
            exact Nat.lt_of_lt_of_le h6 (Nat.pow_le_pow_right (by omega) (by omega))
          · have h6 : i = 9 := by omega
            have h7 : s[i].toNat ≤ 1 := by omega
            have : s[i].toNat * 2 ^ (7 * i) ≤ 1 * 2 ^ (7 * i) := Nat.mul_le_mul_right _ h7
            subst h6
            omega
      · rename_i h3
        have h8 : i < 9 := by
          rcases Nat.lt_or_ge i 9 with h5 | h5
          · exact h5
          · exact absurd ⟨by omega, by omega⟩ hc
        refine ih s (i + 1) _ (by omega) (by omega) ?_
        rw [h2]
        have : (s[i].toNat - 128) * 2 ^ (7 * i) ≤ 127 * 2 ^ (7 * i) := Nat.mul_le_mul_right _ (by omega)
        omega
def tm0 : Tm := .mk 0 0 ByteArray.empty []
/-- A term's first byte and the number behind it: the kind, the number, what stands behind, the error. -/
def headD (k : Nat) (s : ByteArray) (c : Nat) : Int × Nat × ByteArray × Int :=
  if 4000 ≤ c then (0, 0, s, 23) else if k = 0 then (0, 0, s, 22) else
  match s[0]? with
  | none => (0, 0, s, 20)
  | some b => if b.toNat < 1 ∨ 5 < b.toNat then (0, 0, s, 21) else
    if (getN (s.extract 1 s.size) 0 0).2.2 ≠ 0 then (0, 0, s, (getN (s.extract 1 s.size) 0 0).2.2)
    else (b.toNat, (getN (s.extract 1 s.size) 0 0).1, s.extract (1 + (getN (s.extract 1 s.size) 0 0).2.1) s.size, 0)
def decMany (f : ByteArray → Nat → Tm × ByteArray × Nat × Int) : Nat → ByteArray → Nat → List Tm → List Tm × ByteArray × Nat × Int
  | 0, s, c, acc => (acc, s, c, 0)
  | m + 1, s, c, acc => if (f s c).2.2.2 ≠ 0 then ([], (f s c).2.1, (f s c).2.2.1, (f s c).2.2.2) else decMany f m (f s c).2.1 (f s c).2.2.1 (acc ++ [(f s c).1])
/-- A term read, k levels being left, c terms having been read: the term, what stands behind, how many were read, the error. -/
def decT : Nat → ByteArray → Nat → Tm × ByteArray × Nat × Int
  | 0, s, c => (tm0, s, c, if 4000 ≤ c then 23 else 22)
  | k + 1, s, c =>
    if (headD (k + 1) s c).2.2.2 ≠ 0 then (tm0, s, c, (headD (k + 1) s c).2.2.2) else
    if (headD (k + 1) s c).1 = 2 then
      (if 4000 < (headD (k + 1) s c).2.1 then (tm0, s, c, 25) else if (headD (k + 1) s c).2.2.1.size < (headD (k + 1) s c).2.1 then (tm0, s, c, 20)
       else (.mk 2 0 ((headD (k + 1) s c).2.2.1.extract 0 (headD (k + 1) s c).2.1) [], (headD (k + 1) s c).2.2.1.extract (headD (k + 1) s c).2.1 (headD (k + 1) s c).2.2.1.size, c + 1, 0)) else
    let many := if (headD (k + 1) s c).1 = 4 then 1 else if (headD (k + 1) s c).1 = 5 then (headD (k + 1) s c).2.1 else 0
    let l := decMany (decT k) many (headD (k + 1) s c).2.2.1 (c + 1) []
    if l.2.2.2 ≠ 0 then (tm0, l.2.1, l.2.2.1, l.2.2.2) else
    (.mk (headD (k + 1) s c).1 (if (headD (k + 1) s c).1 = 5 then 0 else (headD (k + 1) s c).2.1) ByteArray.empty l.1, l.2.1, l.2.2.1, 0)
/-- A whole text read. -/
def decode (s : ByteArray) : Tm × Int :=
  if (decT 12 s 0).2.2.2 ≠ 0 then (tm0, (decT 12 s 0).2.2.2) else if (decT 12 s 0).2.1.size ≠ 0 then (tm0, 24) else ((decT 12 s 0).1, 0)
mutual
/-- The numbers of a term are such as may stand there. -/
def numsT : Tm → Prop
  | .mk _ n _ l => (0 ≤ n ∧ n ≤ 18446744073709551615) ∧ numsL l
def numsL : List Tm → Prop
  | [] => True
  | x :: xs => numsT x ∧ numsL xs
end
theorem ba_extract_app {a b : ByteArray} : (a ++ b).extract a.size (a ++ b).size = b := by
  rw [ByteArray.size_append]
  exact ByteArray.extract_append_eq_right rfl rfl
theorem ba_extract_left {a b : ByteArray} : (a ++ b).extract 0 a.size = a := ByteArray.extract_append_eq_left rfl
theorem headD_num {k : Nat} {b : Nat} {n c : Nat} {r : ByteArray} (hk : 0 < k) (hc : c < 4000) (h1 : 1 ≤ b) (h5 : b ≤ 5) (hn : n < 2 ^ 64) :
    headD k (ByteArray.mk #[UInt8.ofNat b] ++ (putN n ++ r)) c = ((b : Int), n, r, 0) := by
  have e0 : (ByteArray.mk #[UInt8.ofNat b]).size = 1 := rfl
  have e1 : (ByteArray.mk #[UInt8.ofNat b] ++ (putN n ++ r))[0]? = some (UInt8.ofNat b) := by
    rw [ba_get_left (by rw [e0]; omega)]; rfl
  have e2 : (ByteArray.mk #[UInt8.ofNat b] ++ (putN n ++ r)).extract 1 (ByteArray.mk #[UInt8.ofNat b] ++ (putN n ++ r)).size = putN n ++ r := ba_extract_app (a := ByteArray.mk #[UInt8.ofNat b])
  have e3 : getN (putN n ++ r) 0 0 = (n, (putN n).size, 0) := by
    have := getN_put n ByteArray.empty r 0 (by decide) (by exact hn) (fun h => absurd h (by decide))
    rw [ByteArray.empty_append] at this
    refine Eq.trans this ?_
    refine Prod.ext ?_ (Prod.ext ?_ rfl)
    · show 0 + n * 2 ^ (7 * 0) = n; omega
    · exact Nat.zero_add _
  have e4 : (UInt8.ofNat b).toNat = b := by rw [UInt8.toNat_ofNat']; omega
  unfold headD
  rw [if_neg (by omega), if_neg (by omega), e1]
  simp only
  rw [e4, if_neg (by omega), e2, e3]
  simp only
  rw [if_neg (by simp)]
  refine Prod.ext rfl (Prod.ext rfl (Prod.ext ?_ rfl))
  show (ByteArray.mk #[UInt8.ofNat b] ++ (putN n ++ r)).extract (1 + (putN n).size) _ = r
  rw [← ByteArray.append_assoc]
  have e5 : (ByteArray.mk #[UInt8.ofNat b] ++ putN n).size = 1 + (putN n).size := by rw [ByteArray.size_append]; rfl
  rw [← e5]
  exact ba_extract_app
theorem decT_list {k c n many c2 : Nat} {s rest s2 : ByteArray} {kd : Int} {l : List Tm} (hd : headD (k + 1) s c = (kd, n, rest, 0)) (h2 : kd ≠ 2) (hm : (if kd = 4 then 1 else if kd = 5 then n else 0) = many)
    (hl : decMany (decT k) many rest (c + 1) [] = (l, s2, c2, 0)) : decT (k + 1) s c = (.mk kd (if kd = 5 then 0 else n) ByteArray.empty l, s2, c2, 0) := by
  simp only [decT, hd, hm, hl]
  rw [if_neg (by simp), if_neg h2, if_neg (by simp)]
theorem decT_atom {k c n : Nat} {s rest : ByteArray} (hd : headD (k + 1) s c = (2, n, rest, 0)) (h1 : n ≤ 4000) (h2 : n ≤ rest.size) :
    decT (k + 1) s c = (.mk 2 0 (rest.extract 0 n) [], rest.extract n rest.size, c + 1, 0) := by
  simp only [decT, hd]
  rw [if_neg (by simp), if_pos (by simp), if_neg (by omega), if_neg (by omega)]
mutual
theorem decT_wr : ∀ (t : Tm) (k c : Nat) (r : ByteArray), shT t = true → numsT t → hT t ≤ k → c + nT t ≤ 4000 → decT k (wrT t ++ r) c = (t, r, c + nT t, 0)
  | .mk kd n b l, k, c, r, hs, hn, hh, hc => by
    simp only [hT] at hh
    simp only [nT] at hc
    obtain ⟨⟨n0, n1⟩, hnl⟩ := hn
    simp only [shT, Bool.and_eq_true] at hs
    obtain ⟨ho, hl⟩ := hs
    obtain ⟨k, rfl⟩ : ∃ q, k = q + 1 := ⟨k - 1, by omega⟩
    have hmany := decL_wr l k (c + 1) r [] hl hnl (by omega) (by omega)
    simp only [wrT, headT, nT, Tm.kind, Tm.num, Tm.bytes, Tm.list]
    unfold oneT at ho
    simp only [Tm.kind, Tm.num, Tm.bytes, Tm.list] at ho
    by_cases h13 : kd = 1 ∨ kd = 3
    · rw [if_pos h13] at ho
      obtain ⟨rfl, h2⟩ := of_decide_eq_true ho
      obtain rfl := List.eq_nil_of_length_eq_zero h2
      rw [if_pos (by omega)]
      have hd := headD_num (k := k + 1) (b := kd.toNat) (n := n.toNat) (c := c) (r := r) (by omega) (by omega) (by omega) (by omega) (by omega)
      simp only [wrL, ByteArray.append_empty, ByteArray.append_assoc]
      refine Eq.trans (decT_list (many := 0) hd (by omega) (by rw [if_neg (by omega), if_neg (by omega)]) rfl) ?_
      rw [if_neg (by omega)]
      refine Prod.ext ?_ (Prod.ext rfl (Prod.ext (by simp [nL]) rfl))
      show Tm.mk _ _ _ _ = _
      rw [Int.toNat_of_nonneg (by omega), Int.toNat_of_nonneg n0]
    · rw [if_neg h13] at ho
      by_cases h2 : kd = 2
      · rw [if_pos h2] at ho
        obtain ⟨rfl, hb, h3⟩ := of_decide_eq_true ho
        obtain rfl := List.eq_nil_of_length_eq_zero h3
        subst h2
        rw [if_neg (by omega), if_pos rfl]
        have hd := headD_num (k := k + 1) (b := 2) (n := b.size) (c := c) (r := b ++ r) (by omega) (by omega) (by omega) (by omega) (by omega)
        simp only [wrL, ByteArray.append_empty, ByteArray.append_assoc]
        have e : (ByteArray.mk #[UInt8.ofNat (2 : Int).toNat] ++ (putN b.size ++ (b ++ r))) = (ByteArray.mk #[UInt8.ofNat 2] ++ (putN b.size ++ (b ++ r))) := rfl
        rw [e]
        refine Eq.trans (decT_atom hd (by omega) (by rw [ByteArray.size_append]; omega)) ?_
        refine Prod.ext ?_ (Prod.ext ?_ (Prod.ext (by simp [nL]) rfl))
        · show Tm.mk _ _ _ _ = _
          rw [ba_extract_left]
        · exact ba_extract_app
      · rw [if_neg h2] at ho
        by_cases h4 : kd = 4
        · rw [if_pos h4] at ho
          obtain ⟨rfl, h3⟩ := of_decide_eq_true ho
          subst h4
          rw [if_pos (by omega)]
          have hd := headD_num (k := k + 1) (b := 4) (n := n.toNat) (c := c) (r := wrL l ++ r) (by omega) (by omega) (by omega) (by omega) (by omega)
          simp only [ByteArray.append_assoc]
          have e : (ByteArray.mk #[UInt8.ofNat (4 : Int).toNat] ++ (putN n.toNat ++ (wrL l ++ r))) = (ByteArray.mk #[UInt8.ofNat 4] ++ (putN n.toNat ++ (wrL l ++ r))) := rfl
          rw [e]
          rw [h3] at hmany
          refine Eq.trans (decT_list (many := 1) hd (by omega) rfl hmany) ?_
          rw [if_neg (by omega)]
          refine Prod.ext ?_ (Prod.ext rfl (Prod.ext (by show c + 1 + nL l = c + (nL l + 1); omega) rfl))
          show Tm.mk _ _ _ _ = _
          rw [Int.toNat_of_nonneg n0]; rfl
        · rw [if_neg h4] at ho
          by_cases h5 : kd = 5
          · rw [if_pos h5] at ho
            obtain ⟨rfl, rfl⟩ := of_decide_eq_true ho
            subst h5
            rw [if_neg (by omega), if_neg (by omega), if_pos rfl]
            have hll := len_le_nL l
            have hd := headD_num (k := k + 1) (b := 5) (n := l.length) (c := c) (r := wrL l ++ r) (by omega) (by omega) (by omega) (by omega) (by omega)
            simp only [ByteArray.append_assoc]
            have e : (ByteArray.mk #[UInt8.ofNat (5 : Int).toNat] ++ (putN l.length ++ (wrL l ++ r))) = (ByteArray.mk #[UInt8.ofNat 5] ++ (putN l.length ++ (wrL l ++ r))) := rfl
            rw [e]
            refine Eq.trans (decT_list (many := l.length) hd (by omega) rfl hmany) ?_
            rw [if_pos (by decide)]
            refine Prod.ext ?_ (Prod.ext rfl (Prod.ext (by show c + 1 + nL l = c + (nL l + 1); omega) rfl))
            rfl
          · rw [if_neg h5] at ho; cases ho
theorem decL_wr : ∀ (l : List Tm) (k c : Nat) (r : ByteArray) (acc : List Tm), shL l = true → numsL l → hL l ≤ k → c + nL l ≤ 4000 → decMany (decT k) l.length (wrL l ++ r) c acc = (acc ++ l, r, c + nL l, 0)
  | [], k, c, r, acc, _, _, _, _ => by simp [decMany, wrL, nL]
  | x :: xs, k, c, r, acc, hs, hn, hh, hc => by
    simp only [shL, Bool.and_eq_true] at hs
    simp only [hL] at hh
    simp only [nL] at hc
    have h1 := decT_wr x k c (wrL xs ++ r) hs.1 hn.1 (by omega) (by omega)
    have h2 := decL_wr xs k (c + nT x) r (acc ++ [x]) hs.2 hn.2 (by omega) (by omega)
    simp only [List.length_cons, decMany, wrL, ByteArray.append_assoc]
    rw [h1]
    simp only
    rw [if_neg (by simp), h2]
    refine Prod.ext (by simp) (Prod.ext rfl (Prod.ext (by simp only [nL]; omega) rfl))
end
/-- What was written is read again. -/
theorem decode_wr {t : Tm} (hr : rightT t = 0) (hn : numsT t) : decode (wrT t) = (t, 0) := by
  unfold rightT at hr
  split at hr
  · cases hr
  · split at hr
    · cases hr
    · split at hr
      · rename_i h1 h2 h3
        have := decT_wr t 12 0 ByteArray.empty h3 hn (by omega) (by omega)
        rw [ByteArray.append_empty] at this
        unfold decode
        rw [this]
        rw [if_neg (by simp), if_neg (fun h => h rfl)]
      · cases hr
@[reducible] def numT (n : Int) : Tm := .mk 1 n ByteArray.empty []
@[reducible] def atomT (s : ByteArray) : Tm := .mk 2 0 s []
@[reducible] def keyT (n : Int) : Tm := .mk 3 n ByteArray.empty []
@[reducible] def boxT (n : Int) (t : Tm) : Tm := .mk 4 n ByteArray.empty [t]
@[reducible] def rowT (l : List Tm) : Tm := .mk 5 0 ByteArray.empty l
end Go.Proofs.Ytlgpdglnfjndhaa
