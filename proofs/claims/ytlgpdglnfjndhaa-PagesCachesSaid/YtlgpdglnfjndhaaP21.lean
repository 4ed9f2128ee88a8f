/-
  Pages on a log (layer 16): a node that is laid down lies where its reference says; what lay there stays.
-/
import Derived.Test.YtlgpdglnfjndhaaP20
namespace Go.Proofs.Ytlgpdglnfjndhaa
set_option maxRecDepth 8000
set_option linter.unusedSimpArgs false
set_option linter.unusedVariables false
open Go Xe Go.Lib
theorem wr_page {q : Qt} (hq : q.ok) {F0 m : Nat} {S : PS} (I : PInv q F0 m S) {n : Nd} (hn : rightN q n = 0) (hk : keysOk n) (hm : m + 3 < 4 * F0) (hm2 : m ≤ 4000000000) (ht : S.tk ≤ 1000000000) (ho : S.pw.off = false) :
    ∃ r S', S.wr q n = (r, 0, S') ∧ PInv q F0 (m + 1) S' ∧ S'.tk = S.tk + 1 ∧ S'.list = S.list ∧ S'.pw = S.pw.spend.2 ∧ r.key = drawI S.list S.tk ∧ S'.ch.room = S.ch.room ∧ PageAt q S' r n ∧
      (∀ r' n', PageAt q S r' n' → PageAt q S' r' n' ∧ (r'.seg = r.seg → r'.off + r'.len ≤ r.off)) ∧ ∀ h ∈ S'.ch.l, h ∈ S.ch.l ∨ (h.ref = r ∧ h.node = n) := by
  obtain ⟨r, S', e, I', k1, k2, k3, k4, k5⟩ := (wr_step hq I hn hk hm ht).2 ho
  refine ⟨r, S', e, I', k1, k2, k3, k4, k5, ?_⟩
  have hdr := drawI_ok I.dr ht
  have hsz := size_page (key := drawI S.list S.tk) hn hk hdr.2
  have hpos := wr_pos (boxT (drawI S.list S.tk) (tmNd n))
  have hpb := pageB_eq hq
  rw [← hpb.1] at hsz
  have hne : wrT (boxT (drawI S.list S.tk) (tmNd n)) ≠ ByteArray.empty := fun h => by rw [h] at hpos; exact absurd hpos (by decide)
  have hrl := I.room.le
  have hfr : 0 < frees S.ss := by omega
  obtain ⟨hb, _⟩ := room_step I.lg (wrT (boxT (drawI S.list S.tk) (tmNd n))) hne hsz hfr I.room
  obtain ⟨to, at_, hA, hap⟩ := app_to I.lg (wrT (boxT (drawI S.list S.tk) (tmNd n))) hne (by omega) hfr
  have hon := (app_plain hb).1 ho
  rw [hap] at hon
  have e2 : S.wr q n = (S.ref (S.app q n), 0, { S.laid (S.app q n) with ch := (S.ch.put (S.ref (S.app q n)) n).2 }) := by
    unfold PS.wr
    rw [if_neg (by omega), if_neg (by unfold PS.app; rw [hon]; simp)]
  have happ : S.app q n = _ := hon
  rw [happ] at e2
  have e3 := e.symm.trans e2
  simp only [Prod.mk.injEq, true_and] at e3
  obtain ⟨rfl, rfl⟩ := e3
  generalize hv : wrT (boxT (drawI S.list S.tk) (tmNd n)) = v at *
  have hl := I.lg.len
  have hmd := I.lg.ok
  have hto : S.md.is to := ⟨hA.t0, by have := hA.t1; omega⟩
  have hkeep : ∀ r' n', PageAt q S r' n' → PageAt q { S.laid ⟨(to, at_, v.size), 0, to, putL S.o S.ss to at_ v.size, S.md.put to at_ v, S.pw.spend.2⟩ with ch := (S.ch.put (S.ref ⟨(to, at_, v.size), 0, to, putL S.o S.ss to at_ v.size, S.md.put to at_ v, S.pw.spend.2⟩) n).2 } r' n' := fun r' n' h => page_keep h hA hl I.lg.o0 I.lg.o1 rfl rfl rfl
  have hvs := I.lg.size
  have h4096 := hmd.2.1
  have h1m := hmd.2.2.2.1
  have ht1 := hA.t1
  have ht0 := hA.t0
  have ha0 := hA.a0
  have hfit := hA.fit
  have hrk : (S.ref (S.app q n)).ok := by
    have := ref_ok (S := S) ⟨hmd, hl, I.lg.o0, I.lg.o1, I.lg.us, I.pw, by rw [I.past]; exact hm2, ht, by have := I.ch; omega, I.dr⟩ v
    unfold PS.app; rw [hv]; exact this
  rw [happ] at hrk
  refine ⟨⟨?_, hrk, ?_, ?_, ?_, hn, hk⟩, fun r' n' h => ⟨hkeep r' n' h, fun hs => ?_⟩, fun h hh => put_mem h hh⟩
  · exact ⟨ht0, by simp only [PS.ref]; omega, ha0, by simp only [PS.ref]; omega, by simp only [PS.ref]; omega, by simp only [PS.ref]; omega⟩
  · refine raw_mk ?_ ?_
    · simp only [PS.ref, PS.laid]; rw [put_read_self hto ha0 hA.a1]
    · simp only [PS.ref, PS.laid]; rw [put_read_self hto ha0 hA.a1]
      simp only; rw [← hv]; exact openN_seal hn hk hdr.1 hdr.2
  · have := (putL_at (at_ := at_) (n := v.size) I.lg.o0 I.lg.o1 ht0 ht1 ht0 ht1).1 rfl
    simp only [PS.ref, PS.laid]; rw [this.1]; omega
  · intro _
    have := (putL_at (at_ := at_) (n := v.size) I.lg.o0 I.lg.o1 ht0 ht1 ht0 ht1).1 rfl
    simp only [PS.ref, PS.laid]; rw [this.2]; omega
  · simp only [PS.ref] at hs ⊢
    rcases hA.way with ⟨w1, w2⟩ | ⟨w1, _, _⟩
    · have := h.used (by rw [hs, w1]); omega
    · exact absurd w1 (by rw [← hs]; exact h.kind)
/-- What pages hold but for what is cached. -/
def PS.core (S : PS) : PS := { S with ch := ⟨0, [], 0, 0⟩ }
theorem core_ch {S T : PS} (h : S.core = T.core) : T = { S with ch := T.ch } := by
  cases S; cases T
  simp only [PS.core, PS.mk.injEq] at h ⊢
  obtain ⟨rfl, rfl, rfl, rfl, rfl, rfl, _⟩ := h
  simp
theorem verBad_ca {q : Qt} {c : Int} : ∀ (l : List Vn) (k : Int), verBad { q with ca := c } k l = verBad q k l
  | [], k => by simp only [verBad]
  | v :: vs, k => by
    have h := verBad_ca (q := q) (c := c) vs v.no
    simp only [verBad, h]
theorem rightE_ca {q : Qt} {c : Int} (hq : q.ok) (hq2 : ({ q with ca := c } : Qt).ok) (e : En) : rightE { q with ca := c } e = rightE q e := by
  have h : namedE { q with ca := c } e = namedE q e := by
    unfold namedE
    rw [if_neg (not_not_intro hq2), if_neg (not_not_intro hq), verBad_ca]
  unfold rightE; rw [h]
theorem entsBad_ca {q : Qt} {c : Int} (hq : q.ok) (hq2 : ({ q with ca := c } : Qt).ok) : ∀ (l : List En) (p : Option ByteArray), entsBad { q with ca := c } p l = entsBad q p l
  | [], p => by simp only [entsBad]
  | e :: es, p => by
    have h := entsBad_ca hq hq2 es (some e.name)
    simp only [entsBad, h, rightE_ca hq hq2]
theorem kidsBad_ca {q : Qt} {c : Int} : ∀ (l : List Kd) (p : Option ByteArray), kidsBad { q with ca := c } p l = kidsBad q p l
  | [], p => by simp only [kidsBad]
  | k :: ks, p => by
    have h := kidsBad_ca (q := q) (c := c) ks (some k.low)
    simp only [kidsBad, h]
theorem rightN_ca {q : Qt} {c : Int} (hq : q.ok) (hq2 : ({ q with ca := c } : Qt).ok) (n : Nd) : rightN { q with ca := c } n = rightN q n := by
  unfold rightN
  rw [if_neg (not_not_intro hq2), if_neg (not_not_intro hq), entsBad_ca hq hq2, kidsBad_ca]
theorem wr_two {q q' : Qt} {S T : PS} {n : Nd} (h : S.core = T.core) (hr : rightN q' n = rightN q n) : (T.wr q' n).1 = (S.wr q n).1 ∧ (T.wr q' n).2.1 = (S.wr q n).2.1 ∧ (S.wr q n).2.2.core = (T.wr q' n).2.2.core := by
  rw [core_ch h]
  unfold PS.wr
  rw [hr]
  split
  · exact ⟨rfl, rfl, rfl⟩
  · have e : ({ S with ch := T.ch } : PS).app q' n = S.app q n := rfl
    rw [e]
    split
    · exact ⟨rfl, rfl, rfl⟩
    · exact ⟨rfl, rfl, rfl⟩
end Go.Proofs.Ytlgpdglnfjndhaa
