/-
  A tree's pages as terms (layer 6): what they are, and how many bytes they have at most.
-/
import Derived.Test.YtlgpdglnfjndhaaU02d
import Derived.Test.YtlgpdglnfjndhaaE05
namespace Go.Proofs.Ytlgpdglnfjndhaa
set_option maxRecDepth 8000
set_option linter.unusedSimpArgs false
set_option linter.unusedVariables false
open Go Xe Go.Lib
def tmVn (v : Vn) : Tm := rowT [numT v.no, atomT v.value, atomT v.note]
def tmEn (e : En) : Tm := rowT (atomT e.name :: e.versions.map tmVn)
def tmKd (k : Kd) : Tm := rowT [atomT k.low, keyT k.ref.key, numT k.ref.seg, numT k.ref.off, numT k.ref.len]
def tmNd (x : Nd) : Tm := if x.leaf = true then rowT (numT 1 :: x.entries.map tmEn) else rowT (numT 2 :: x.kids.map tmKd)
theorem one_num (n : Int) : oneT (numT n) = true := by unfold oneT; simp only [Tm.kind, Tm.num, Tm.bytes, Tm.list]; simp
theorem one_key (n : Int) : oneT (keyT n) = true := by unfold oneT; simp only [Tm.kind, Tm.num, Tm.bytes, Tm.list]; simp
theorem one_atom {s : ByteArray} (h : s.size ≤ 4000) : oneT (atomT s) = true := by unfold oneT; simp only [Tm.kind, Tm.num, Tm.bytes, Tm.list]; simpa using h
theorem one_row (l : List Tm) : oneT (rowT l) = true := by unfold oneT; simp only [Tm.kind, Tm.num, Tm.bytes, Tm.list]; simp
theorem one_box (n : Int) (t : Tm) : oneT (boxT n t) = true := by unfold oneT; simp only [Tm.kind, Tm.num, Tm.bytes, Tm.list]; simp
theorem sh_num (n : Int) : shT (numT n) = true := by rw [shT_list, one_num]; rfl
theorem sh_key (n : Int) : shT (keyT n) = true := by rw [shT_list, one_key]; rfl
theorem sh_atom {s : ByteArray} (h : s.size ≤ 4000) : shT (atomT s) = true := by rw [shT_list, one_atom h]; rfl
theorem sh_row (l : List Tm) : shT (rowT l) = shL l := by rw [shT_list, one_row, Bool.true_and]
theorem sh_box (n : Int) (t : Tm) : shT (boxT n t) = shT t := by rw [shT_list, one_box, Bool.true_and]; show shL [t] = _; simp [shL]
theorem wrL_le {l : List Tm} {m : Nat} (h : ∀ t ∈ l, (wrT t).size ≤ m) : (wrL l).size ≤ l.length * m := by
  induction l with
  | nil => simp [wrL]
  | cons x xs ih =>
    rw [wrL, ByteArray.size_append, List.length_cons, Nat.succ_mul]
    have h1 := h x (by simp)
    have h2 := ih (fun t ht => h t (by simp [ht]))
    omega
theorem nL_le {l : List Tm} {m : Nat} (h : ∀ t ∈ l, nT t ≤ m) : nL l ≤ l.length * m := by
  induction l with
  | nil => simp [nL]
  | cons x xs ih =>
    rw [nL, List.length_cons, Nat.succ_mul]
    have h1 := h x (by simp)
    have h2 := ih (fun t ht => h t (by simp [ht]))
    omega
theorem hL_le {l : List Tm} {m : Nat} (h : ∀ t ∈ l, hT t ≤ m) : hL l ≤ m := by
  induction l with
  | nil => simp [hL]
  | cons x xs ih =>
    rw [hL]
    have h1 := h x (by simp)
    have h2 := ih (fun t ht => h t (by simp [ht]))
    omega
theorem size_num {n : Int} {k : Nat} (h0 : 0 ≤ n) (h : n.toNat < 128 ^ (k + 1)) : (wrT (numT n)).size ≤ k + 2 := by
  have h1 := putN_le k n.toNat h
  simp only [wrT, headT, wrL, Tm.kind, Tm.num, Tm.bytes, Tm.list]
  rw [if_pos (by simp), ByteArray.size_append, ByteArray.size_append]
  show 1 + (putN n.toNat).size + 0 ≤ k + 2
  omega
theorem size_key {n : Int} {k : Nat} (h : n.toNat < 128 ^ (k + 1)) : (wrT (keyT n)).size ≤ k + 2 := by
  have h1 := putN_le k n.toNat h
  simp only [wrT, headT, wrL, Tm.kind, Tm.num, Tm.bytes, Tm.list]
  rw [if_pos (by simp), ByteArray.size_append, ByteArray.size_append]
  show 1 + (putN n.toNat).size + 0 ≤ k + 2
  omega
theorem size_atom {s : ByteArray} (h : s.size < 128) : (wrT (atomT s)).size = 2 + s.size := by
  simp only [wrT, headT, wrL, Tm.kind, Tm.num, Tm.bytes, Tm.list]
  rw [if_neg (by simp), if_pos trivial, ByteArray.size_append, ByteArray.size_append, ByteArray.size_append, putN, dif_pos h]
  show 1 + (1 + s.size) + 0 = 2 + s.size
  omega
theorem size_row {l : List Tm} (h : l.length < 128) : (wrT (rowT l)).size = 2 + (wrL l).size := by
  simp only [wrT, headT, Tm.kind, Tm.num, Tm.bytes, Tm.list]
  rw [if_neg (by simp), if_neg (by simp), if_pos trivial, ByteArray.size_append, ByteArray.size_append, putN, dif_pos h]
  show 1 + 1 + (wrL l).size = _
  omega
theorem size_box {n : Int} {t : Tm} (h : n.toNat < 18446744073709551616) : (wrT (boxT n t)).size ≤ 11 + (wrT t).size := by
  have h1 := putN_le 9 n.toNat (by omega)
  simp only [wrT, headT, wrL, Tm.kind, Tm.num, Tm.bytes, Tm.list]
  rw [if_pos (by simp), ByteArray.size_append, ByteArray.size_append, ByteArray.size_append]
  show 1 + (putN n.toNat).size + ((wrT t).size + 0) ≤ _
  omega
theorem verBad_ok {q : Qt} : ∀ {vs : List Vn} {last : Int}, 0 ≤ last → verBad q last vs = 0 → ∀ v ∈ vs, 1 ≤ v.no ∧ v.no ≤ 1073741824 ∧ v.value.size ≤ q.va ∧ v.note.size ≤ q.no
  | [], _, _, _, v, hv => by cases hv
  | x :: xs, last, h0, h, v, hv => by
    simp only [verBad] at h
    by_cases h1 : x.no ≤ last ∨ 1073741824 < x.no
    · rw [if_pos h1] at h; cases h
    · rw [if_neg h1] at h
      by_cases h2 : q.va < x.value.size ∨ q.no < x.note.size
      · rw [if_pos h2] at h; cases h
      · rw [if_neg h2] at h
        rcases List.mem_cons.1 hv with rfl | hv
        · omega
        · exact verBad_ok (by omega) h v hv
theorem rightE_ok {q : Qt} {e : En} (h : rightE q e = 0) : q.ok ∧ 0 < e.name.size ∧ e.name.size ≤ q.nm ∧ 0 < e.versions.length ∧ e.versions.length ≤ q.ve ∧ ∀ v ∈ e.versions, 1 ≤ v.no ∧ v.no ≤ 1073741824 ∧ v.value.size ≤ q.va ∧ v.note.size ≤ q.no := by
  unfold rightE at h
  by_cases h1 : namedE q e = 0 ∧ e.versions.length = 0
  · rw [if_pos h1] at h; cases h
  · rw [if_neg h1] at h
    have h9 : ¬ e.versions.length = 0 := fun h8 => h1 ⟨h, h8⟩
    unfold namedE at h
    by_cases h2 : ¬ q.ok
    · rw [if_pos h2] at h; cases h
    · rw [if_neg h2] at h
      by_cases h3 : e.name = ByteArray.empty
      · rw [if_pos h3] at h; cases h
      · rw [if_neg h3] at h
        by_cases h4 : q.nm < e.name.size
        · rw [if_pos h4] at h; cases h
        · rw [if_neg h4] at h
          by_cases h5 : q.ve < e.versions.length
          · rw [if_pos h5] at h; cases h
          · rw [if_neg h5] at h
            refine ⟨Classical.not_not.1 h2, ?_, by omega, by omega, by omega, verBad_ok (by omega) h⟩
            rcases Nat.eq_zero_or_pos e.name.size with h8 | h8
            · exact absurd (ByteArray.size_eq_zero_iff.1 h8) h3
            · exact h8
theorem entsBad_all {q : Qt} : ∀ {es : List En} {p : Option ByteArray}, entsBad q p es = 0 → ∀ e ∈ es, rightE q e = 0
  | [], _, _, e, he => by cases he
  | x :: xs, p, h, e, he => by
    simp only [entsBad] at h
    by_cases h1 : rightE q x ≠ 0
    · rw [if_pos h1] at h; exact absurd h h1
    · rw [if_neg h1] at h
      have h2 : rightE q x = 0 := Classical.not_not.1 h1
      have h5 : entsBad q (some x.name) xs = 0 := by
        split at h
        · split at h
          · cases h
          · exact h
        · simpa using h
      rcases List.mem_cons.1 he with rfl | he
      · exact h2
      · exact entsBad_all h5 e he
theorem kidsBad_all {q : Qt} : ∀ {ks : List Kd} {p : Option ByteArray}, kidsBad q p ks = 0 → ∀ k ∈ ks, 0 < k.low.size ∧ k.low.size ≤ q.nm ∧ refR k.ref
  | [], _, _, k, hk => by cases hk
  | x :: xs, p, h, k, hk => by
    simp only [kidsBad] at h
    by_cases h1 : x.low = ByteArray.empty
    · rw [if_pos h1] at h; cases h
    · rw [if_neg h1] at h
      by_cases h2 : q.nm < x.low.size
      · rw [if_pos h2] at h; cases h
      · rw [if_neg h2] at h
        by_cases h3 : ¬ refR x.ref
        · rw [if_pos h3] at h; cases h
        · rw [if_neg h3] at h
          have h5 : kidsBad q (some x.low) xs = 0 := by
            split at h
            · split at h
              · cases h
              · exact h
            · simpa using h
          rcases List.mem_cons.1 hk with rfl | hk
          · refine ⟨?_, by omega, Classical.not_not.1 h3⟩
            rcases Nat.eq_zero_or_pos k.low.size with h8 | h8
            · exact absurd (ByteArray.size_eq_zero_iff.1 h8) h1
            · exact h8
          · exact kidsBad_all h5 k hk
theorem rightN_ok {q : Qt} {x : Nd} (h : rightN q x = 0) : q.ok ∧ ((x.leaf = true ∧ x.kids.length = 0 ∧ x.entries.length ≤ 4 ∧ ∀ e ∈ x.entries, rightE q e = 0) ∨
    (x.leaf = false ∧ x.entries.length = 0 ∧ 2 ≤ x.kids.length ∧ x.kids.length ≤ 4 ∧ ∀ k ∈ x.kids, 0 < k.low.size ∧ k.low.size ≤ q.nm ∧ refR k.ref)) := by
  unfold rightN at h
  by_cases h2 : ¬ q.ok
  · rw [if_pos h2] at h; cases h
  · rw [if_neg h2] at h
    refine ⟨Classical.not_not.1 h2, ?_⟩
    cases hl : x.leaf with
    | true =>
      rw [if_pos hl] at h
      split at h
      · cases h
      · exact .inl ⟨rfl, by omega, by omega, entsBad_all h⟩
    | false =>
      rw [if_neg (by simp [hl])] at h
      split at h
      · cases h
      · exact .inr ⟨rfl, by omega, by omega, by omega, kidsBad_all h⟩
/-- The terms of a page that may be. -/
theorem tmVn_ok {q : Qt} (hq : q.ok) {v : Vn} (h : 1 ≤ v.no ∧ v.no ≤ 1073741824 ∧ v.value.size ≤ q.va ∧ v.note.size ≤ q.no) : nT (tmVn v) = 4 ∧ hT (tmVn v) = 2 ∧ shT (tmVn v) = true ∧ ((wrT (tmVn v)).size : Int) ≤ 17 + q.va + q.no := by
  obtain ⟨_, _, ⟨h1, h2⟩, ⟨h3, h4⟩, _⟩ := hq
  refine ⟨rfl, rfl, ?_, ?_⟩
  · unfold tmVn; rw [sh_row]; simp only [shL, sh_num, sh_atom (s := v.value) (by omega), sh_atom (s := v.note) (by omega)]; rfl
  · unfold tmVn
    rw [size_row (by simp), wrL, wrL, wrL, wrL, ByteArray.size_append, ByteArray.size_append, ByteArray.size_append, size_atom (by omega), size_atom (by omega)]
    have h5 := size_num (n := v.no) (k := 4) (by omega) (by omega)
    have h6 : ByteArray.empty.size = 0 := rfl
    omega
theorem map_ok {α : Type} {f : α → Tm} {l : List α} (h : ∀ x ∈ l, shT (f x) = true) : shL (l.map f) = true := by
  rw [shL_all, List.all_eq_true]
  intro t ht
  obtain ⟨x, hx, rfl⟩ := List.mem_map.1 ht
  exact h x hx
theorem tmEn_ok {q : Qt} {e : En} (h : rightE q e = 0) : nT (tmEn e) ≤ 18 ∧ hT (tmEn e) ≤ 3 ∧ shT (tmEn e) = true ∧ ((wrT (tmEn e)).size : Int) ≤ 4 + q.nm + q.ve * (17 + q.va + q.no) := by
  obtain ⟨hq, _, hn, _, hv, hvs⟩ := rightE_ok h
  have hq9 := hq
  obtain ⟨_, ⟨a1, a2⟩, ⟨a3, a4⟩, ⟨a5, a6⟩, ⟨a7, a8⟩, _⟩ := hq9
  have hk : ∀ t ∈ e.versions.map tmVn, nT t ≤ 4 ∧ hT t ≤ 2 ∧ (wrT t).size ≤ (17 + q.va + q.no).toNat := by
    intro t ht
    obtain ⟨v, hv, rfl⟩ := List.mem_map.1 ht
    obtain ⟨b1, b2, _, b4⟩ := tmVn_ok hq (hvs v hv)
    exact ⟨by omega, by omega, by omega⟩
  have c1 := nL_le (fun t ht => (hk t ht).1)
  have c2 := hL_le (fun t ht => (hk t ht).2.1)
  have c3 := wrL_le (fun t ht => (hk t ht).2.2)
  rw [List.length_map] at c1 c3
  refine ⟨?_, ?_, ?_, ?_⟩
  · simp only [tmEn, nT, nL]; omega
  · simp only [tmEn, hT, hL]; omega
  · unfold tmEn; rw [sh_row, shL, map_ok (fun v hv => (tmVn_ok hq (hvs v hv)).2.2.1), sh_atom (by omega)]; rfl
  · unfold tmEn
    rw [size_row (by simp; omega), wrL, ByteArray.size_append, size_atom (by omega)]
    have c4 : e.versions.length * (17 + q.va + q.no).toNat ≤ q.ve.toNat * (17 + q.va + q.no).toNat := Nat.mul_le_mul_right _ (by omega)
    have c5 : ((q.ve.toNat * (17 + q.va + q.no).toNat : Nat) : Int) = q.ve * (17 + q.va + q.no) := by
      rw [Int.natCast_mul, Int.toNat_of_nonneg (by omega), Int.toNat_of_nonneg (by omega)]
    omega
theorem tmKd_ok {q : Qt} (hq : q.ok) {k : Kd} (h1 : k.low.size ≤ q.nm) (h2 : refR k.ref) (h3 : 0 ≤ k.ref.key ∧ k.ref.key ≤ 18446744073709551615) : nT (tmKd k) = 6 ∧ hT (tmKd k) = 2 ∧ shT (tmKd k) = true ∧ ((wrT (tmKd k)).size : Int) ≤ 28 + q.nm := by
  obtain ⟨_, ⟨a1, a2⟩, _⟩ := hq
  obtain ⟨r1, r2, r3, r4, r5, r6⟩ := h2
  refine ⟨rfl, rfl, ?_, ?_⟩
  · unfold tmKd; rw [sh_row]; simp only [shL, sh_num, sh_key, sh_atom (s := k.low) (by omega)]; rfl
  · unfold tmKd
    rw [size_row (by simp), wrL, wrL, wrL, wrL, wrL, wrL]
    simp only [ByteArray.size_append]
    rw [size_atom (by omega)]
    have b1 := size_key (n := k.ref.key) (k := 9) (by omega)
    have b2 := size_num (n := k.ref.seg) (k := 2) (by omega) (by omega)
    have b3 := size_num (n := k.ref.off) (k := 3) (by omega) (by omega)
    have b4 := size_num (n := k.ref.len) (k := 2) (by omega) (by omega)
    have h6 : ByteArray.empty.size = 0 := rfl
    omega
/-- Keys of kids are drawn numbers. -/
def keysOk (x : Nd) : Prop := ∀ k ∈ x.kids, 0 ≤ k.ref.key ∧ k.ref.key ≤ 18446744073709551615
def pageB (q : Qt) : Int := 15 + 4 * max (4 + q.nm + q.ve * (17 + q.va + q.no)) (28 + q.nm)
theorem tmNd_ok {q : Qt} {x : Nd} (h : rightN q x = 0) (hk : keysOk x) : nT (tmNd x) ≤ 100 ∧ hT (tmNd x) ≤ 4 ∧ shT (tmNd x) = true ∧ ((wrT (tmNd x)).size : Int) + 11 ≤ pageB q := by
  obtain ⟨hq, ⟨hl, _, he1, he2⟩ | ⟨hl, _, _, hk1, hk2⟩⟩ := rightN_ok h
  · have hm : ∀ t ∈ x.entries.map tmEn, nT t ≤ 18 ∧ hT t ≤ 3 ∧ (wrT t).size ≤ (max (4 + q.nm + q.ve * (17 + q.va + q.no)) (28 + q.nm)).toNat := by
      intro t ht
      obtain ⟨e, he, rfl⟩ := List.mem_map.1 ht
      obtain ⟨b1, b2, _, b4⟩ := tmEn_ok (he2 e he)
      exact ⟨b1, b2, by omega⟩
    have c1 := nL_le (fun t ht => (hm t ht).1)
    have c2 := hL_le (fun t ht => (hm t ht).2.1)
    have c3 := wrL_le (fun t ht => (hm t ht).2.2)
    rw [List.length_map] at c1 c3
    unfold tmNd
    rw [if_pos hl]
    refine ⟨?_, ?_, ?_, ?_⟩
    · simp only [nT, nL]; omega
    · simp only [hT, hL]; omega
    · rw [sh_row, shL, map_ok (fun e he => (tmEn_ok (he2 e he)).2.2.1), sh_num]; rfl
    · rw [size_row (by simp; omega), wrL, ByteArray.size_append]
      have b2 := size_num (n := 1) (k := 0) (by omega) (by omega)
      have c4 := Nat.mul_le_mul_right (max (4 + q.nm + q.ve * (17 + q.va + q.no)) (28 + q.nm)).toNat he1
      unfold pageB
      obtain ⟨_, ⟨a1, a2⟩, _⟩ := hq
      omega
  · have hm : ∀ t ∈ x.kids.map tmKd, nT t ≤ 6 ∧ hT t ≤ 2 ∧ (wrT t).size ≤ (max (4 + q.nm + q.ve * (17 + q.va + q.no)) (28 + q.nm)).toNat := by
      intro t ht
      obtain ⟨k, hkk, rfl⟩ := List.mem_map.1 ht
      obtain ⟨b1, b2, _, b4⟩ := tmKd_ok hq (hk2 k hkk).2.1 (hk2 k hkk).2.2 (hk k hkk)
      exact ⟨by omega, by omega, by omega⟩
    have c1 := nL_le (fun t ht => (hm t ht).1)
    have c2 := hL_le (fun t ht => (hm t ht).2.1)
    have c3 := wrL_le (fun t ht => (hm t ht).2.2)
    rw [List.length_map] at c1 c3
    unfold tmNd
    rw [if_neg (by simp [hl])]
    refine ⟨?_, ?_, ?_, ?_⟩
    · simp only [nT, nL]; omega
    · simp only [hT, hL]; omega
    · rw [sh_row, shL, map_ok (fun k hkk => (tmKd_ok hq (hk2 k hkk).2.1 (hk2 k hkk).2.2 (hk k hkk)).2.2.1), sh_num]; rfl
    · rw [size_row (by simp; omega), wrL, ByteArray.size_append]
      have b2 := size_num (n := 2) (k := 0) (by omega) (by omega)
      have c4 := Nat.mul_le_mul_right (max (4 + q.nm + q.ve * (17 + q.va + q.no)) (28 + q.nm)).toNat hk1
      unfold pageB
      obtain ⟨_, ⟨a1, a2⟩, _⟩ := hq
      omega
theorem rightT_ok {t : Tm} (h1 : nT t ≤ 4000) (h2 : hT t ≤ 12) (h3 : shT t = true) : rightT t = 0 := by
  unfold rightT
  rw [if_neg (by omega), if_neg (by omega), if_pos h3]
theorem rightT_nd {q : Qt} {x : Nd} (h : rightN q x = 0) (hk : keysOk x) : rightT (tmNd x) = 0 := by
  obtain ⟨a, b, c, _⟩ := tmNd_ok h hk
  exact rightT_ok (by omega) (by omega) c
theorem rightT_box {q : Qt} {x : Nd} {key : Int} (h : rightN q x = 0) (hk : keysOk x) : rightT (boxT key (tmNd x)) = 0 := by
  obtain ⟨a, b, c, _⟩ := tmNd_ok h hk
  refine rightT_ok ?_ ?_ ?_
  · simp only [nT, nL]; omega
  · simp only [hT, hL]; omega
  · rw [sh_box, c]
theorem size_page {q : Qt} {x : Nd} {key : Int} (h : rightN q x = 0) (hk : keysOk x) (h2 : key ≤ 18446744073709551615) : ((wrT (boxT key (tmNd x))).size : Int) ≤ pageB q := by
  obtain ⟨_, _, _, d⟩ := tmNd_ok h hk
  have := size_box (n := key) (t := tmNd x) (by omega)
  omega
end Go.Proofs.Ytlgpdglnfjndhaa
