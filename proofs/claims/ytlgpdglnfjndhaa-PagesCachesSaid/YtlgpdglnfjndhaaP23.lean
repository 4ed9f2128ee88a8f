/-
  Pages on a log (layer 16): rows of pages; a page that is written over.
-/
import Derived.Test.YtlgpdglnfjndhaaP21
namespace Go.Proofs.Ytlgpdglnfjndhaa
set_option maxRecDepth 8000
set_option linter.unusedSimpArgs false
set_option linter.unusedVariables false
open Go Xe Go.Lib
/-- Pages lie one behind the other. -/
structure LdI (q : Qt) (S : PS) (wl : List Rf) (kl : List Nd) : Prop where
  len : wl.length = kl.length
  at_ : ∀ (i : Nat) r n, wl[i]? = some r → kl[i]? = some n → PageAt q S r n
  ord : ∀ (i j : Nat) r s, i < j → wl[i]? = some r → wl[j]? = some s → r.seg = s.seg → r.off + r.len ≤ s.off
theorem LdI.nil {q : Qt} {S : PS} : LdI q S [] [] := ⟨rfl, fun i r n h => by simp at h, fun i j r s _ h => by simp at h⟩
theorem LdI.keep {q : Qt} {S S' : PS} {wl : List Rf} {kl : List Nd} (h : LdI q S wl kl) (hk : ∀ r n, PageAt q S r n → PageAt q S' r n) : LdI q S' wl kl := ⟨h.len, fun i r n a b => hk r n (h.at_ i r n a b), h.ord⟩
theorem LdI.get {q : Qt} {S : PS} {wl : List Rf} {kl : List Nd} (h : LdI q S wl kl) {i : Nat} {r : Rf} (hr : wl[i]? = some r) : ∃ n, kl[i]? = some n ∧ PageAt q S r n := by
  have h1 := (List.getElem?_eq_some_iff.1 hr).1
  have h2 : i < kl.length := by have := h.len; omega
  exact ⟨kl[i], List.getElem?_eq_getElem h2, h.at_ i r _ hr (List.getElem?_eq_getElem h2)⟩
theorem LdI.snoc {q : Qt} {S S' : PS} {wl : List Rf} {kl : List Nd} {r : Rf} {n : Nd} (h : LdI q S wl kl) (hp : PageAt q S' r n) (hk : ∀ r' n', PageAt q S r' n' → PageAt q S' r' n' ∧ (r'.seg = r.seg → r'.off + r'.len ≤ r.off)) : LdI q S' (wl ++ [r]) (kl ++ [n]) := by
  have hs : ∀ {α : Type} {l : List α} {y x : α} {i : Nat}, (l ++ [y])[i]? = some x → (i < l.length ∧ l[i]? = some x) ∨ (i = l.length ∧ x = y) := fun {α l y x i} hx => by
    rcases Nat.lt_or_ge i l.length with h1 | h1
    · rw [List.getElem?_append_left h1] at hx; exact .inl ⟨h1, hx⟩
    · rw [List.getElem?_append_right h1] at hx
      rcases Nat.eq_zero_or_pos (i - l.length) with h2 | h2
      · rw [h2] at hx
        simp only [List.getElem?_cons_zero, Option.some.injEq] at hx
        exact .inr ⟨by omega, hx.symm⟩
      · rw [List.getElem?_eq_none (by simp; omega)] at hx; cases hx
  refine ⟨by simp [h.len], fun i r' n' a b => ?_, fun i j r' s' hij a b e => ?_⟩
  · rcases hs a with ⟨a1, a2⟩ | ⟨a1, rfl⟩
    · rcases hs b with ⟨b1, b2⟩ | ⟨b1, rfl⟩
      · exact (hk _ _ (h.at_ i r' n' a2 b2)).1
      · have := h.len; omega
    · rcases hs b with ⟨b1, b2⟩ | ⟨b1, rfl⟩
      · have := h.len; omega
      · exact hp
  · rcases hs a with ⟨a1, a2⟩ | ⟨a1, rfl⟩
    · rcases hs b with ⟨b1, b2⟩ | ⟨b1, rfl⟩
      · exact h.ord i j r' s' hij a2 b2 e
      · obtain ⟨n', _, hn'⟩ := h.get a2
        exact (hk _ _ hn').2 e
    · rcases hs b with ⟨b1, b2⟩ | ⟨b1, rfl⟩ <;> omega
/-- A node is laid down behind the others, or refused. -/
theorem wr_laid {q : Qt} (hq : q.ok) {m : Nat} {S S' : PS} {r : Rf} {e : Int} {n : Nd} {wl : List Rf} {kl : List Nd} (I : PInv q 11 m S) (hm : m ≤ 20) (ht : S.tk = m) (hp : S.pw.off = false ∧ S.pw.ahead = 0) (hld : LdI q S wl kl) (hk : keysOk n) (h : S.wr q n = (r, e, S')) :
    (e = 0 ∧ PInv q 11 (m + 1) S' ∧ S'.tk = m + 1 ∧ (S'.pw.off = false ∧ S'.pw.ahead = 0) ∧ S'.ch.room = S.ch.room ∧ LdI q S' (wl ++ [r]) (kl ++ [n]) ∧ (∀ r' n', PageAt q S r' n' → PageAt q S' r' n') ∧ PageAt q S' r n ∧ ∀ h ∈ S'.ch.l, h ∈ S.ch.l ∨ (h.ref = r ∧ h.node = n)) ∨ (e ≠ 0 ∧ S' = S) := by
  by_cases hn : rightN q n = 0
  · obtain ⟨r9, S9, e9, I9, k1, k2, k3, k4, k5, k6, k7, k8⟩ := wr_page hq I hn hk (by omega) (by omega) (by omega) hp.1
    rw [e9] at h
    simp only [Prod.mk.injEq] at h
    obtain ⟨rfl, rfl, rfl⟩ := h
    refine .inl ⟨rfl, I9, by omega, ?_, k5, hld.snoc k6 k7, fun r' n' h => (k7 r' n' h).1, k6, k8⟩
    rw [k3]; unfold Pw.spend; rw [if_neg (by simp [hp.1]), if_neg (by omega)]; exact hp
  · have e9 : S.wr q n = (rf0, rightN q n, S) := by unfold PS.wr; rw [if_pos hn]
    rw [e9] at h
    simp only [Prod.mk.injEq] at h
    obtain ⟨rfl, rfl, rfl⟩ := h
    exact .inr ⟨hn, rfl⟩
theorem rfs_len : ∀ l : List Rf, (l.flatMap Rf.cells).length = l.length * 4
  | [] => rfl
  | x :: l => by
    simp only [List.flatMap_cons, List.length_append, rfs_len l, List.length_cons, List.length_nil]; omega
/-- The first i of n bytes are 0xff. -/
def ffs (n i : Nat) : ByteArray := ⟨(List.replicate i (255 : UInt8) ++ List.replicate (n - i) (0 : UInt8)).toArray⟩
/-- What is written over a page that lies there. -/
def PS.over (S : PS) (r : Rf) : PS := { S with md := S.md.put r.seg r.off (ffs r.len.toNat r.len.toNat), pw := S.pw.spend.2 }
/-- What lies ahead of a page, or in another segment. -/
theorem LdI.ahead {q : Qt} {S : PS} {wl : List Rf} {kl : List Nd} (h : LdI q S wl kl) {i k : Nat} {r s : Rf} (hr : wl[i]? = some r) (hs : wl[k]? = some s) (hn : r.seg = s.seg → r.off < s.off) : r.seg = s.seg → r.off + r.len ≤ s.off := fun e => by
  have h1 := hn e
  obtain ⟨_, _, hp⟩ := h.get hs
  have h5 := hp.ref.2.2.2.2.1
  rcases Nat.lt_trichotomy i k with h2 | h2 | h2
  · exact h.ord i k r s h2 hr hs e
  · subst h2; rw [hr] at hs; cases hs; omega
  · have := h.ord k i s r h2 hs hr e.symm; omega
end Go.Proofs.Ytlgpdglnfjndhaa

/-
  Pages with two caches, side by side (no program).
-/
namespace Go.Proofs.Ytlgpdglnfjndhaa
set_option maxRecDepth 8000
set_option linter.unusedSimpArgs false
set_option linter.unusedVariables false
open Go Xe Go.Lib
structure TwI (q q' : Qt) (m : Nat) (S : PS) (c : Ch) (wl : List Rf) (kl : List Nd) : Prop where
  i1 : PInv q 11 m S
  i2 : PInv q' 11 m (S.got c)
  tk : S.tk = m
  pw : S.pw.off = false ∧ S.pw.ahead = 0
  l1 : LdI q S wl kl
  l2 : LdI q' (S.got c) wl kl
  c1 : CacheOk q S
  c2 : CacheOk q' (S.got c)
  r1 : S.ch.room = roomC q
  r2 : c.room = roomC q'
  len : wl.length = m
theorem TwI.step {q q' : Qt} {m : Nat} {S S2 T2 : PS} {c : Ch} {wl : List Rf} {kl : List Nd} {n : Nd} {r r' : Rf} {e e' : Int} (I : TwI q q' m S c wl kl) (hq : q.ok) (hq' : q'.ok) (hn : rightN q' n = rightN q n) (hm : m ≤ 20) (hk : keysOk n) (h : S.wr q n = (r, e, S2)) (h' : (S.got c).wr q' n = (r', e', T2)) :
    r' = r ∧ e' = e ∧ ∃ c5, T2 = S2.got c5 ∧ ((e = 0 ∧ TwI q q' (m + 1) S2 c5 (wl ++ [r]) (kl ++ [n])) ∨ (e ≠ 0 ∧ TwI q q' m S2 c5 wl kl)) := by
  have h2 := wr_two (q := q) (q' := q') (S := S) (T := S.got c) (n := n) rfl hn
  rw [h, h'] at h2
  obtain ⟨rfl, rfl, h4⟩ := h2
  refine ⟨rfl, rfl, T2.ch, core_ch h4, ?_⟩
  have ht : T2 = S2.got T2.ch := core_ch h4
  have ht1 := I.tk
  rcases wr_laid hq I.i1 hm I.tk I.pw I.l1 hk h with ⟨e0, a1, a2, a3, a4, a5, a6, a7, a8⟩ | ⟨e0, rfl⟩
  · rcases wr_laid hq' I.i2 hm I.tk I.pw I.l2 hk h' with ⟨_, b1, b2, b3, b4, b5, b6, b7, b8⟩ | ⟨e1, _⟩
    · have hb9 : CacheOk q' T2 := fun x hx => by
        rcases b8 x hx with h9 | ⟨h9, h8⟩
        · exact b6 _ _ (I.c2 x h9)
        · rw [h9, h8]; exact b7
      refine .inl ⟨e0, ⟨a1, by rw [← ht]; exact b1, a2, a3, a5, by rw [← ht]; exact b5, fun x hx => ?_, by rw [← ht]; exact hb9, a4.trans I.r1, b4.trans I.r2, by simp [I.len]⟩⟩
      · rcases a8 x hx with h9 | ⟨h9, h8⟩
        · exact a6 _ _ (I.c1 x h9)
        · rw [h9, h8]; exact a7
    · exact absurd e0 e1
  · rcases wr_laid hq' I.i2 hm I.tk I.pw I.l2 hk h' with ⟨e1, _⟩ | ⟨_, hT⟩
    · exact absurd e1 e0
    · have : T2.ch = c := by rw [hT]; rfl
      rw [this]; exact .inr ⟨e0, I⟩
theorem TwI.read {q q' : Qt} {m : Nat} {S : PS} {c : Ch} {wl : List Rf} {kl : List Nd} {r : Rf} {k : Nat} (I : TwI q q' m S c wl kl) (hr : wl[k]? = some r) :
    ∃ n c3 c4, r.ok ∧ S.rd q r = (n, 0, S.got c3) ∧ (S.got c).rd q' r = (n, 0, S.got c4) ∧ TwI q q' m (S.got c3) c4 wl kl := by
  obtain ⟨n, hn, hp⟩ := I.l1.get hr
  have hp' := I.l2.at_ k r n hr hn
  obtain ⟨c3, e3, a1, a2, a3, a4⟩ := rd_page hp I.c1 I.i1.chr.2.2 I.i1.chr.2.1
  obtain ⟨c4, e4, b1, b2, b3, b4⟩ := rd_page hp' I.c2 I.i2.chr.2.2 I.i2.chr.2.1
  have b0 : c4.room = c.room := b1
  have k1 := I.i1.chr
  have k2 := I.i2.chr
  have k3 : c.room ≤ 32 := k2.2.1
  have k4 : 0 ≤ c.room := k2.1
  refine ⟨n, c3, c4, hp.ok, e3, e4, ⟨⟨I.i1.lg, I.i1.pw, I.i1.room, I.i1.past, ?_, ?_, I.i1.dr⟩, ⟨I.i2.lg, I.i2.pw, I.i2.room, I.i2.past, ?_, ?_, I.i2.dr⟩, I.tk, I.pw, I.l1.keep fun r n h => h.cong rfl rfl rfl, I.l2.keep fun r n h => h.cong rfl rfl rfl, a3, b3, a1.trans I.r1, b0.trans I.r2, I.len⟩⟩
  · show c3.l.length ≤ 32; omega
  · exact ⟨by show 0 ≤ c3.room; omega, by show c3.room ≤ 32; omega, a2⟩
  · show c4.l.length ≤ 32; omega
  · exact ⟨by show 0 ≤ c4.room; omega, by show c4.room ≤ 32; omega, b2⟩
theorem TwI.kept {q q' : Qt} {m : Nat} {S : PS} {c : Ch} {wl : List Rf} {kl : List Nd} (I : TwI q q' m S c wl kl) (hq : q.ok) (hq' : q'.ok) : (S.ch.l.length : Int) ≤ q.ca ∧ (c.l.length : Int) ≤ q'.ca := by
  have h1 := I.i1.chr.2.2
  have h2 : (c.l.length : Int) ≤ c.room := I.i2.chr.2.2
  have h3 := I.r1
  have h4 := I.r2
  obtain ⟨_, _, _, _, _, _, h5, h6⟩ := hq
  obtain ⟨_, _, _, _, _, _, h7, h8⟩ := hq'
  unfold roomC at h3 h4
  omega
end Go.Proofs.Ytlgpdglnfjndhaa
