/-
  Pages on a log (layer 16): rows of pages; a page that is written over.
-/
import Derived.Test.YtlgpdglnfjndhaaP21
namespace Go.Proofs.Ytlgpdglnfjndhaa
set_option maxRecDepth 8000
set_option linter.unusedSimpArgs false
set_option linter.unusedVariables false
open Go Xe Go.Lib
/-- Pages lie one behind the other. -/
structure LdI (q : Qt) (S : PS) (wl : List Rf) (kl : List Nd) : Prop where
  len : wl.length = kl.length
  at_ : ∀ (i : Nat) r n, wl[i]? = some r → kl[i]? = some n → PageAt q S r n
  ord : ∀ (i j : Nat) r s, i < j → wl[i]? = some r → wl[j]? = some s → r.seg = s.seg → r.off + r.len ≤ s.off
theorem LdI.nil {q : Qt} {S : PS} : LdI q S [] [] := ⟨rfl, fun i r n h => by simp at h, fun i j r s _ h => by simp at h⟩
theorem LdI.get {q : Qt} {S : PS} {wl : List Rf} {kl : List Nd} (h : LdI q S wl kl) {i : Nat} {r : Rf} (hr : wl[i]? = some r) : ∃ n, kl[i]? = some n ∧ PageAt q S r n := by
  have h1 := (List.getElem?_eq_some_iff.1 hr).1
  have h2 : i < kl.length := by have := h.len; omega
  exact ⟨kl[i], List.getElem?_eq_getElem h2, h.at_ i r _ hr (List.getElem?_eq_getElem h2)⟩
theorem LdI.snoc {q : Qt} {S S' : PS} {wl : List Rf} {kl : List Nd} {r : Rf} {n : Nd} (h : LdI q S wl kl) (hp : PageAt q S' r n) (hk : ∀ r' n', PageAt q S r' n' → PageAt q S' r' n' ∧ (r'.seg = r.seg → r'.off + r'.len ≤ r.off)) : LdI q S' (wl ++ [r]) (kl ++ [n]) := by
  have hs : ∀ {α : Type} {l : List α} {y x : α} {i : Nat}, (l ++ [y])[i]? = some x → (i < l.length ∧ l[i]? = some x) ∨ (i = l.length ∧ x = y) := fun {α l y x i} hx => by
    rcases Nat.lt_or_ge i l.length with h1 | h1
    · rw [List.getElem?_append_left h1] at hx; exact .inl ⟨h1, hx⟩
    · rw [List.getElem?_append_right h1] at hx
      rcases Nat.eq_zero_or_pos (i - l.length) with h2 | h2
      · rw [h2] at hx
        simp only [List.getElem?_cons_zero, Option.some.injEq] at hx
        exact .inr ⟨by omega, hx.symm⟩
      · rw [List.getElem?_eq_none (by simp; omega)] at hx; cases hx
  refine ⟨by simp [h.len], fun i r' n' a b => ?_, fun i j r' s' hij a b e => ?_⟩
  · rcases hs a with ⟨a1, a2⟩ | ⟨a1, rfl⟩
    · rcases hs b with ⟨b1, b2⟩ | ⟨b1, rfl⟩
      · exact (hk _ _ (h.at_ i r' n' a2 b2)).1
      · have := h.len; omega
    · rcases hs b with ⟨b1, b2⟩ | ⟨b1, rfl⟩
      · have := h.len; omega
      · exact hp
  · rcases hs a with ⟨a1, a2⟩ | ⟨a1, rfl⟩
    · rcases hs b with ⟨b1, b2⟩ | ⟨b1, rfl⟩
      · exact h.ord i j r' s' hij a2 b2 e
      · obtain ⟨n', _, hn'⟩ := h.get a2
        exact (hk _ _ hn').2 e
    · rcases hs b with ⟨b1, b2⟩ | ⟨b1, rfl⟩ <;> omega
/-- A node is laid down behind the others, or refused. -/
theorem wr_laid {q : Qt} (hq : q.ok) {m : Nat} {S S' : PS} {r : Rf} {e : Int} {n : Nd} {wl : List Rf} {kl : List Nd} (I : PInv q 11 m S) (hm : m ≤ 20) (ht : S.tk = m) (hp : S.pw.off = false ∧ S.pw.ahead = 0) (hld : LdI q S wl kl) (hk : keysOk n) (h : S.wr q n = (r, e, S')) :
    (e = 0 ∧ PInv q 11 (m + 1) S' ∧ S'.tk = m + 1 ∧ (S'.pw.off = false ∧ S'.pw.ahead = 0) ∧ S'.ch.room = S.ch.room ∧ LdI q S' (wl ++ [r]) (kl ++ [n]) ∧ (∀ r' n', PageAt q S r' n' → PageAt q S' r' n') ∧ PageAt q S' r n ∧ ∀ h ∈ S'.ch.l, h ∈ S.ch.l ∨ (h.ref = r ∧ h.node = n)) ∨ (e ≠ 0 ∧ S' = S) := by
  by_cases hn : rightN q n = 0
  · obtain ⟨r9, S9, e9, I9, k1, k2, k3, k4, k5, k6, k7, k8⟩ := wr_page hq I hn hk (by omega) (by omega) (by omega) hp.1
    rw [e9] at h
    simp only [Prod.mk.injEq] at h
    obtain ⟨rfl, rfl, rfl⟩ := h
    refine .inl ⟨rfl, I9, by omega, ?_, k5, hld.snoc k6 k7, fun r' n' h => (k7 r' n' h).1, k6, k8⟩
    rw [k3]; unfold Pw.spend; rw [if_neg (by simp [hp.1]), if_neg (by omega)]; exact hp
  · have e9 : S.wr q n = (rf0, rightN q n, S) := by unfold PS.wr; rw [if_pos hn]
    rw [e9] at h
    simp only [Prod.mk.injEq] at h
    obtain ⟨rfl, rfl, rfl⟩ := h
    exact .inr ⟨hn, rfl⟩
theorem rfs_len : ∀ l : List Rf, (l.flatMap Rf.cells).length = l.length * 4
  | [] => rfl
  | x :: l => by
    simp only [List.flatMap_cons, List.length_append, rfs_len l, List.length_cons, List.length_nil]; omega
/-- The first i of n bytes are 0xff. -/
def ffs (n i : Nat) : ByteArray := ⟨(List.replicate i (255 : UInt8) ++ List.replicate (n - i) (0 : UInt8)).toArray⟩
theorem ffs_size {n i : Nat} (h : i ≤ n) : (ffs n i).size = n := by
  show (List.toArray _).size = n
  simp; omega
theorem ffs_cells (n i : Nat) : strCells (ffs n i) = List.replicate i (Value.int .u8 255) ++ List.replicate (n - i) (Value.int .u8 0) := by
  unfold strCells ffs
  simp only [List.map_append, List.map_replicate]
  rfl
theorem ffs_set {n i : Nat} (h : i < n) : (strCells (ffs n i)).set i (Value.int .u8 255) = strCells (ffs n (i + 1)) := by
  rw [ffs_cells, ffs_cells, List.set_append_right _ _ (by simp), List.length_replicate, Nat.sub_self, show n - i = (n - (i + 1)) + 1 by omega, List.replicate_succ, List.set_cons_zero, List.replicate_succ', List.append_assoc]
  rfl
theorem ffs_head {n : Nat} (h : 1 ≤ n) : (ffs n n)[0]? = some 255 := by
  obtain ⟨k, rfl⟩ : ∃ k, n = k + 1 := ⟨n - 1, by omega⟩
  have hs : (ffs (k + 1) (k + 1)).size = k + 1 := ffs_size (Nat.le_refl _)
  have h1 : 0 < (ffs (k + 1) (k + 1)).size := by omega
  rw [getElem?_pos (ffs (k + 1) (k + 1)) 0 h1]
  rfl
/-- What is written over a page that lies there. -/
def PS.over (S : PS) (r : Rf) : PS := { S with md := S.md.put r.seg r.off (ffs r.len.toNat r.len.toNat), pw := S.pw.spend.2 }
theorem over_write {q : Qt} {S : PS} {r : Rf} {n : Nd} (h : PageAt q S r n) (hok : S.md.ok) (ho : S.pw.off = false) : S.md.write S.pw r.seg r.off (ffs r.len.toNat r.len.toNat) = (0, (S.over r).md, (S.over r).pw) := by
  obtain ⟨k1, k2, k3, k4, _⟩ := read_ok (raw_read h.raw).1
  have h2 := Md.seg_le hok k1
  have h3 := ffs_size (Nat.le_refl r.len.toNat)
  unfold Md.write
  rw [if_pos k1, if_neg (by omega), if_neg (by omega), if_pos (spend_on ho).1]
  rfl
theorem over_raw {q : Qt} {S : PS} {r : Rf} {n : Nd} (h : PageAt q S r n) : (S.over r).raw q r = (nd0, 160) := by
  obtain ⟨k1, k2, k3, k4, _⟩ := read_ok (raw_read h.raw).1
  have h3 := ffs_size (Nat.le_refl r.len.toNat)
  have h1 := h.ref.2.2.2.2.1
  have hr : (S.over r).md.read r.seg r.off r.len = (ffs r.len.toNat r.len.toNat, 0) := by
    have := put_read_self (s := S.md) (i := r.seg) (at_ := r.off) (v := ffs r.len.toNat r.len.toNat) k1 k2 (by omega)
    rw [h3, show ((r.len.toNat : Nat) : Int) = r.len by omega] at this
    exact this
  unfold PS.raw
  rw [hr, if_neg (by simp), if_pos (openN_bad (ffs_head (by omega)) (by decide))]
theorem over_keep {q : Qt} {S : PS} {r r' : Rf} {n n' : Nd} (h : PageAt q S r n) (h' : PageAt q S r' n') (hk : r'.seg = r.seg → r'.off + r'.len ≤ r.off) : PageAt q (S.over r) r' n' := by
  obtain ⟨k1, k2, k3, k4, _⟩ := read_ok (raw_read h.raw).1
  obtain ⟨p1, p2⟩ := raw_read h'.raw
  have hrd : (S.over r).md.read r'.seg r'.off r'.len = S.md.read r'.seg r'.off r'.len := put_read k1 k2 (by omega) p1 hk
  exact ⟨h'.ref, h'.ok, raw_mk (by rw [hrd]; exact p1) (by rw [hrd]; exact p2), h'.kind, h'.used, h'.right⟩
/-- Nothing is kept: each page is read from the medium. -/
theorem rd_none {q : Qt} {S : PS} {r : Rf} (hr : refR r) (hl : S.ch.l = []) (h0 : S.ch.room = 0) : ∃ c : Ch, S.rd q r = ((S.raw q r).1, (S.raw q r).2, S.got c) ∧ c.l = [] ∧ c.room = 0 := by
  have hno : S.ch.pl r = -1 := by unfold Ch.pl; rw [hl]; rfl
  have hg := Ch.get_no hno
  have hf := S.ch.get_facts r
  rw [hg] at hf
  unfold PS.rd
  rw [if_neg (fun hh => hh hr), hg, if_neg (by simp)]
  have hm : S.ch.miss.l = [] := hl
  split
  · rename_i h
    have e : (S.raw q r).1 = nd0 := by
      unfold PS.raw at h ⊢
      split
      · rfl
      · rename_i h9
        rw [if_neg h9] at h
        split
        · rfl
        · rename_i h8
          rw [if_neg h8] at h; exact absurd rfl h
    exact ⟨S.ch.miss, by rw [e], hl, h0⟩
  · rename_i h
    have hp := put_room_le (s := S.ch.miss) r (S.raw q r).1 (by rw [hm]; show (0 : Int) ≤ S.ch.room; omega) (by show S.ch.room ≤ 32; omega)
    have hpf := (put_facts S.ch.miss r (S.raw q r).1).2.2.2
    refine ⟨(S.ch.miss.put r (S.raw q r).1).2, by rw [Classical.not_not.1 h], ?_, hpf.trans h0⟩
    have : ((S.ch.miss.put r (S.raw q r).1).2.l.length : Int) ≤ 0 := by have := hp.1; have h9 : S.ch.miss.room = S.ch.room := rfl; omega
    exact List.eq_nil_of_length_eq_zero (by omega)
theorem over_ok {q : Qt} {S : PS} {r : Rf} {n : Nd} (h : PageAt q S r n) (hok : S.ok) (hp : S.md.past.length < 4000000000) : (S.over r).ok := by
  obtain ⟨k1, k2, k3, k4, _⟩ := read_ok (raw_read h.raw).1
  have h3 := ffs_size (Nat.le_refl r.len.toNat)
  have h2 := Md.seg_le hok.md k1
  obtain ⟨m1, m2, m3, m4, m5⟩ := hok.md
  have hl : (S.over r).md.segs.length = S.md.segs.length := List.length_set
  refine ⟨⟨by rw [hl]; exact m1, by rw [hl]; exact m2, m3, m4, fun b hb => ?_⟩, by rw [hl]; exact hok.len, hok.o0, hok.o1, hok.us, Pw.ok_spend hok.pw, ?_, hok.tk, hok.ch, hok.dr⟩
  · rcases List.mem_or_eq_of_mem_set hb with h9 | rfl
    · exact m5 b h9
    · rw [ByteArray.size_append, ByteArray.size_extract, h3]
      show ((min r.off.toNat (S.md.seg r.seg).size - 0 + r.len.toNat : Nat) : Int) ≤ S.md.size
      omega
  · show (S.md.past ++ [_]).length ≤ _
    rw [List.length_append]; show _ + 1 ≤ _; omega
theorem got_ok {S : PS} {c : Ch} (h : S.ok) (hc : c.l = []) : (S.got c).ok := ⟨h.md, h.len, h.o0, h.o1, h.us, h.pw, h.past, h.tk, by show c.l.length ≤ _; rw [hc]; exact Nat.zero_le _, h.dr⟩
/-- What lies ahead of a page, or in another segment. -/
theorem LdI.ahead {q : Qt} {S : PS} {wl : List Rf} {kl : List Nd} (h : LdI q S wl kl) {i k : Nat} {r s : Rf} (hr : wl[i]? = some r) (hs : wl[k]? = some s) (hn : r.seg = s.seg → r.off < s.off) : r.seg = s.seg → r.off + r.len ≤ s.off := fun e => by
  have h1 := hn e
  obtain ⟨_, _, hp⟩ := h.get hs
  have h5 := hp.ref.2.2.2.2.1
  rcases Nat.lt_trichotomy i k with h2 | h2 | h2
  · exact h.ord i k r s h2 hr hs e
  · subst h2; rw [hr] at hs; cases hs; omega
  · have := h.ord k i s r h2 hs hr e.symm; omega
end Go.Proofs.Ytlgpdglnfjndhaa
