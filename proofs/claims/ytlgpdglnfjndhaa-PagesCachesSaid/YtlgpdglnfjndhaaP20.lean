/-
  Pages on a log (layer 16), as functions on plain data: where pages lie, what is read there.
-/
import Derived.Test.YtlgpdglnfjndhaaP19
namespace Go.Proofs.Ytlgpdglnfjndhaa
set_option maxRecDepth 8000
set_option linter.unusedSimpArgs false
set_option linter.unusedVariables false
open Go Xe Go.Lib
theorem read_ok {s : Md} {i off n : Int} (h : (s.read i off n).2 = 0) : s.is i ∧ 0 ≤ off ∧ 0 ≤ n ∧ off + n ≤ (s.seg i).size ∧ (s.read i off n).1 = (s.seg i).extract off.toNat (off + n).toNat := by
  unfold Md.read at h ⊢
  by_cases h1 : s.is i
  · rw [if_pos h1] at h ⊢
    by_cases h2 : off < 0 ∨ n < 0 ∨ off > (s.seg i).size ∨ n > (s.seg i).size - off
    · rw [if_pos h2] at h; cases h
    · rw [if_neg h2]; exact ⟨h1, by omega, by omega, by omega, rfl⟩
  · rw [if_neg h1] at h; cases h
theorem read_mk {s : Md} {i off n : Int} (h1 : s.is i) (h2 : 0 ≤ off) (h3 : 0 ≤ n) (h4 : off + n ≤ (s.seg i).size) : s.read i off n = ((s.seg i).extract off.toNat (off + n).toNat, 0) := by
  unfold Md.read; rw [if_pos h1, if_neg (by omega)]
theorem put_is {s : Md} {i at_ j : Int} {v : ByteArray} : (s.put i at_ v).is j ↔ s.is j := by
  unfold Md.is Md.put; simp
theorem put_seg_ne {s : Md} {i at_ j : Int} {v : ByteArray} (hi : s.is i) (hj : s.is j) (h : j ≠ i) : (s.put i at_ v).seg j = s.seg j := by
  unfold Md.seg Md.put
  rw [List.getElem?_set_ne (by have := hi.1; have := hj.1; omega)]
theorem put_seg {s : Md} {i at_ : Int} {v : ByteArray} (hi : s.is i) : (s.put i at_ v).seg i = (s.seg i).extract 0 at_.toNat ++ v := by
  have h1 : i.toNat < s.segs.length := by have := hi.1; have := hi.2; omega
  unfold Md.put
  show ((s.segs.set i.toNat _)[i.toNat]?).getD ByteArray.empty = _
  rw [List.getElem?_set_self h1]; rfl
theorem extract_app_left {a b : ByteArray} {i j : Nat} (h : j ≤ a.size) : (a ++ b).extract i j = a.extract i j := by
  apply ByteArray.ext
  rw [ByteArray.data_extract, ByteArray.data_extract, ByteArray.data_append, Array.extract_append]
  have h2 : j - a.data.size = 0 := by have : a.data.size = a.size := rfl; omega
  rw [h2]
  simp
theorem extract_pre {a : ByteArray} {i j k : Nat} (h : j ≤ k) : (a.extract 0 k).extract i j = a.extract i j := by
  apply ByteArray.ext
  rw [ByteArray.data_extract, ByteArray.data_extract, ByteArray.data_extract, Array.extract_extract]
  congr 1 <;> omega
/-- What lies ahead of a write, and in other segments, is read as ever. -/
theorem put_read {s : Md} {i at_ j off n : Int} {v : ByteArray} (hi : s.is i) (h0 : 0 ≤ at_) (h1 : at_ ≤ (s.seg i).size) (h : (s.read j off n).2 = 0) (hk : j = i → off + n ≤ at_) : (s.put i at_ v).read j off n = s.read j off n := by
  obtain ⟨k1, k2, k3, k4, k5⟩ := read_ok h
  have e0 : s.read j off n = ((s.seg j).extract off.toNat (off + n).toNat, 0) := read_mk k1 k2 k3 k4
  rw [e0]
  by_cases hj : j = i
  · subst hj
    have hk := hk rfl
    have hs := put_seg (at_ := at_) (v := v) hi
    have hz : ((s.seg j).extract 0 at_.toNat).size = at_.toNat := by rw [ByteArray.size_extract]; omega
    rw [read_mk (put_is.2 k1) k2 k3 (by rw [hs, ByteArray.size_append, hz]; omega), hs, extract_app_left (by rw [hz]; omega), extract_pre (by omega)]
  · have hs := put_seg_ne (at_ := at_) (v := v) hi k1 hj
    rw [read_mk (put_is.2 k1) k2 k3 (by rw [hs]; exact k4), hs]
theorem put_read_self {s : Md} {i at_ : Int} {v : ByteArray} (hi : s.is i) (h0 : 0 ≤ at_) (h1 : at_ ≤ (s.seg i).size) : (s.put i at_ v).read i at_ v.size = (v, 0) := by
  have hs := put_seg (at_ := at_) (v := v) hi
  have hz : ((s.seg i).extract 0 at_.toNat).size = at_.toNat := by rw [ByteArray.size_extract]; omega
  rw [read_mk (put_is.2 hi) h0 (by omega) (by rw [hs, ByteArray.size_append, hz]; omega), hs]
  refine Prod.ext ?_ rfl
  show ((s.seg i).extract 0 at_.toNat ++ v).extract at_.toNat _ = v
  have e1 : (at_ + (v.size : Int)).toNat = ((s.seg i).extract 0 at_.toNat ++ v).size := by rw [ByteArray.size_append, hz]; omega
  rw [e1]
  have := ba_extract_app (a := (s.seg i).extract 0 at_.toNat) (b := v)
  rw [hz] at this
  exact this
/-- The page of a node lies at a reference. -/
structure PageAt (q : Qt) (S : PS) (r : Rf) (n : Nd) : Prop where
  ref : refR r
  ok : r.ok
  raw : S.raw q r = (n, 0)
  kind : (sgAt S.ss r.seg).kind ≠ 1
  used : r.seg = S.o → r.off + r.len ≤ (sgAt S.ss S.o).used
  right : rightN q n = 0 ∧ keysOk n
theorem raw_read {q : Qt} {S : PS} {r : Rf} {n : Nd} (h : S.raw q r = (n, 0)) : (S.md.read r.seg r.off r.len).2 = 0 ∧ openN q r.key (S.md.read r.seg r.off r.len).1 = (n, 0) := by
  unfold PS.raw at h
  by_cases h1 : (S.md.read r.seg r.off r.len).2 ≠ 0
  · rw [if_pos h1] at h; exact absurd (congrArg Prod.snd h) h1
  · rw [if_neg h1] at h
    by_cases h2 : (openN q r.key (S.md.read r.seg r.off r.len).1).2 ≠ 0
    · rw [if_pos h2] at h; cases congrArg Prod.snd h
    · rw [if_neg h2] at h
      exact ⟨Classical.not_not.1 h1, Prod.ext (show (openN q r.key (S.md.read r.seg r.off r.len).1).1 = n from congrArg Prod.fst h) (Classical.not_not.1 h2)⟩
theorem raw_mk {q : Qt} {S : PS} {r : Rf} {n : Nd} (h1 : (S.md.read r.seg r.off r.len).2 = 0) (h2 : openN q r.key (S.md.read r.seg r.off r.len).1 = (n, 0)) : S.raw q r = (n, 0) := by
  unfold PS.raw; rw [if_neg (by simp [h1]), h2]; simp
/-- Where an Append goes. -/
structure AppTo (o : Int) (ss : List Sg) (md : Md) (v : ByteArray) (to at_ : Int) : Prop where
  t0 : 0 ≤ to
  t1 : to < ss.length
  a0 : 0 ≤ at_
  a1 : at_ ≤ (md.seg to).size
  fit : at_ + v.size ≤ md.size
  way : (to = o ∧ at_ = (sgAt ss o).used) ∨ ((sgAt ss to).kind = 1 ∧ at_ = 0 ∧ to ≠ o)
theorem app_to {size o : Int} {ss : List Sg} {md : Md} {pw : Pw} (I : LgI size o ss md pw) (v : ByteArray) (hv : v ≠ ByteArray.empty) (hs : (v.size : Int) ≤ size) (hf : 0 < frees ss) :
    ∃ to at_, AppTo o ss md v to at_ ∧ appL o ss md pw v = ⟨(to, at_, v.size), 0, to, putL o ss to at_ v.size, md.put to at_ v, pw.spend.2⟩ := by
  have hsz := I.size
  have hox := sgAt_some I.o0 I.o1
  have hu := I.us _ (List.mem_of_getElem? hox)
  have key : ∀ to at_ : Int, 0 ≤ to → to < ss.length → 0 ≤ at_ → at_ ≤ (md.seg to).size → (v.size : Int) ≤ size - at_ → (to = o ∨ (sgAt ss to).kind = 1) → tgtL md.size o ss v.size = (to, at_) → appL o ss md pw v = ⟨(to, at_, v.size), 0, to, putL o ss to at_ v.size, md.put to at_ v, pw.spend.2⟩ := by
    intro to at_ h0 h1 h2 h3 h4 h5 htg
    obtain ⟨hw1, _, _, _⟩ := put_step I v to at_ h0 h1 h2 h3 h4 h5
    unfold appL
    rw [if_neg (by rintro (h | h); exact hv h; omega), htg]
    dsimp only
    rw [hw1, if_neg (by omega), if_neg (by simp)]
  by_cases hc : (v.size : Int) > md.size - (sgAt ss o).used
  · have hi := sgidx_at (p := fun x : Sg => decide (x.kind = 1)) (l := ss) (i := 0) (Int.le_refl _) hf
    have htg : tgtL md.size o ss v.size = (sgidx (fun x : Sg => decide (x.kind = 1)) ss 0, 0) := by unfold tgtL; rw [if_pos hc]
    generalize sgidx (fun x : Sg => decide (x.kind = 1)) ss 0 = to at hi htg
    obtain ⟨h0, x, hx, hk⟩ := hi
    rw [Int.sub_zero] at hx
    obtain ⟨hx1, _⟩ := List.getElem?_eq_some_iff.1 hx
    have hk1 : (sgAt ss to).kind = 1 := by unfold sgAt; rw [hx]; simpa using hk
    have hne : ¬ to = o := fun h => by rw [h, I.ob] at hk1; omega
    exact ⟨to, 0, ⟨h0, by omega, Int.le_refl _, by omega, by omega, .inr ⟨hk1, rfl, hne⟩⟩, key to 0 h0 (by omega) (Int.le_refl _) (by omega) (by omega) (.inr hk1) htg⟩
  · have htg : tgtL md.size o ss v.size = (o, (sgAt ss o).used) := by unfold tgtL; rw [if_neg hc]
    exact ⟨o, (sgAt ss o).used, ⟨I.o0, I.o1, hu.1, I.ou, by omega, .inl ⟨rfl, rfl⟩⟩, key _ _ I.o0 I.o1 hu.1 I.ou (by omega) (.inl rfl) htg⟩
theorem putL_at {o to at_ n j : Int} {ss : List Sg} (h0 : 0 ≤ o) (h1 : o < ss.length) (t0 : 0 ≤ to) (t1 : to < ss.length) (j0 : 0 ≤ j) (j1 : j < ss.length) :
    (j = to → (sgAt (putL o ss to at_ n) j).kind = 3 ∧ (sgAt (putL o ss to at_ n) j).used = at_ + n) ∧ (j ≠ to → j = o → (sgAt (putL o ss to at_ n) j).kind = 2 ∧ (sgAt (putL o ss to at_ n) j).used = (sgAt ss o).used) ∧ (j ≠ to → j ≠ o → sgAt (putL o ss to at_ n) j = sgAt ss j) := by
  have hl1 : (ss.set o.toNat ⟨2, (sgAt ss o).used, (sgAt ss o).live⟩).length = ss.length := List.length_set
  unfold putL
  refine ⟨fun h => ?_, fun h h2 => ?_, fun h h2 => ?_⟩
  · subst h
    have e : sgAt ((ss.set o.toNat ⟨2, (sgAt ss o).used, (sgAt ss o).live⟩).set j.toNat ⟨3, at_ + n, (sgAt (ss.set o.toNat ⟨2, (sgAt ss o).used, (sgAt ss o).live⟩) j).live⟩) j = ⟨3, at_ + n, (sgAt (ss.set o.toNat ⟨2, (sgAt ss o).used, (sgAt ss o).live⟩) j).live⟩ := by
      show (((ss.set o.toNat _).set j.toNat _)[j.toNat]?).getD ⟨0, 0, 0⟩ = _
      rw [List.getElem?_set_self (by rw [hl1]; omega)]; rfl
    rw [e]; exact ⟨rfl, rfl⟩
  · subst h2
    have e : ∀ y, sgAt ((ss.set j.toNat ⟨2, (sgAt ss j).used, (sgAt ss j).live⟩).set to.toNat y) j = ⟨2, (sgAt ss j).used, (sgAt ss j).live⟩ := fun y => by
      show (((ss.set j.toNat ⟨2, (sgAt ss j).used, (sgAt ss j).live⟩).set to.toNat y)[j.toNat]?).getD ⟨0, 0, 0⟩ = _
      rw [List.getElem?_set_ne (by omega), List.getElem?_set_self (by omega)]; rfl
    rw [e]; exact ⟨rfl, rfl⟩
  · show (((ss.set o.toNat _).set to.toNat _)[j.toNat]?).getD ⟨0, 0, 0⟩ = _
    rw [List.getElem?_set_ne (by omega), List.getElem?_set_ne (by omega)]; rfl
/-- A page that was laid down stays where it is. -/
theorem page_keep {q : Qt} {S : PS} {r : Rf} {n : Nd} {v : ByteArray} {to at_ : Int} (h : PageAt q S r n) (hA : AppTo S.o S.ss S.md v to at_) (hl : S.ss.length = S.md.segs.length) (ho0 : 0 ≤ S.o) (ho1 : S.o < S.ss.length)
    {S' : PS} (hmd : S'.md = S.md.put to at_ v) (hss : S'.ss = putL S.o S.ss to at_ v.size) (ho : S'.o = to) : PageAt q S' r n := by
  obtain ⟨h1, h2⟩ := raw_read h.raw
  obtain ⟨k1, _⟩ := read_ok h1
  have hj0 : 0 ≤ r.seg := k1.1
  have hj1 : r.seg < S.ss.length := by have := k1.2; omega
  have hto : S.md.is to := ⟨hA.t0, by have := hA.t1; omega⟩
  obtain ⟨p1, p2, p3⟩ := putL_at (at_ := at_) (n := v.size) ho0 ho1 hA.t0 hA.t1 hj0 hj1
  have hne : r.seg = to → to = S.o ∧ at_ = (sgAt S.ss S.o).used := fun e => hA.way.resolve_right fun ⟨q1, _, _⟩ => h.kind (by rw [e]; exact q1)
  have hrd : (S.md.put to at_ v).read r.seg r.off r.len = S.md.read r.seg r.off r.len := put_read hto hA.a0 hA.a1 h1 fun e => by
    obtain ⟨e1, e2⟩ := hne e
    have := h.used (by rw [e, e1]); omega
  refine ⟨h.ref, h.ok, raw_mk (by rw [hmd, hrd]; exact h1) (by rw [hmd, hrd]; exact h2), ?_, fun e => ?_, h.right⟩
  · rw [hss]
    by_cases e : r.seg = to
    · rw [(p1 e).1]; omega
    · by_cases e2 : r.seg = S.o
      · rw [(p2 e e2).1]; omega
      · rw [p3 e e2]; exact h.kind
  · rw [ho] at e
    obtain ⟨e1, e2⟩ := hne e
    have h5 := h.used (by rw [e, e1])
    have h6 := (p1 e).2
    have h7 : sgAt (putL S.o S.ss to at_ v.size) r.seg = sgAt (putL S.o S.ss to at_ v.size) to := by rw [e]
    rw [hss, ho, ← h7, h6]; omega
/-- Where cached nodes come from. -/
def CacheOk (q : Qt) (S : PS) : Prop := ∀ h ∈ S.ch.l, PageAt q S h.ref h.node
theorem put_mem {s : Ch} {r : Rf} {n : Nd} : ∀ h ∈ (s.put r n).2.l, h ∈ s.l ∨ (h.ref = r ∧ h.node = n) := by
  intro h hh
  have he : ∀ i, h ∈ s.l.eraseIdx i → h ∈ s.l := fun i hi => (List.eraseIdx_sublist _ _).mem hi
  have ha : ∀ (l : List Hd) (x : Hd), h ∈ l ++ [x] → h ∈ l ∨ h = x := fun l x hx => (List.mem_append.1 hx).imp id List.mem_singleton.1
  unfold Ch.put at hh
  split at hh
  · split at hh
    · rcases ha _ _ hh with h1 | rfl
      · exact .inl (he _ h1)
      · exact .inr ⟨rfl, rfl⟩
    · split at hh
      · split at hh
        · exact .inl hh
        · rcases ha _ _ hh with h1 | rfl
          · exact .inl (he _ h1)
          · exact .inr ⟨rfl, rfl⟩
      · rcases ha _ _ hh with h1 | rfl
        · exact .inl h1
        · exact .inr ⟨rfl, rfl⟩
  · split at hh
    · exact .inl hh
    · rcases ha _ _ hh with h1 | rfl
      · exact .inl h1
      · exact .inr ⟨rfl, rfl⟩
theorem pl_ref {s : Ch} {r : Rf} {x : Hd} (h0 : 0 ≤ s.pl r) (hx : s.l[(s.pl r).toNat]? = some x) : x.ref = r := by
  have key : ∀ (l : List Hd) (i : Int), 0 ≤ i → 0 ≤ idx (fun h : Hd => decide (h.ref = r)) l i → ∀ x, l[(idx (fun h : Hd => decide (h.ref = r)) l i - i).toNat]? = some x → x.ref = r := by
    intro l
    induction l with
    | nil => intro i _ h; simp [idx] at h
    | cons y ys ih =>
      intro i hi h x hx
      simp only [idx] at h hx
      by_cases hy : decide (y.ref = r) = true
      · rw [if_pos hy, Int.sub_self] at hx
        obtain rfl : y = x := by simpa using hx
        exact of_decide_eq_true hy
      · rw [if_neg hy] at h hx
        have hb := idx_bound (p := fun h : Hd => decide (h.ref = r)) (l := ys) (i := i + 1) (by omega)
        have h2 := hb.2.2 h
        refine ih (i + 1) (by omega) h x ?_
        rw [show (idx (fun h : Hd => decide (h.ref = r)) ys (i + 1) - i).toNat = (idx (fun h : Hd => decide (h.ref = r)) ys (i + 1) - (i + 1)).toNat + 1 by omega, List.getElem?_cons_succ] at hx
        exact hx
  refine key s.l 0 (Int.le_refl _) h0 x ?_
  rw [Int.sub_zero]; exact hx
theorem PageAt.cong {q : Qt} {S S' : PS} {r : Rf} {n : Nd} (h : PageAt q S r n) (h1 : S'.md = S.md) (h2 : S'.ss = S.ss) (h3 : S'.o = S.o) : PageAt q S' r n :=
  ⟨h.ref, h.ok, by have := h.raw; unfold PS.raw at this ⊢; rw [h1]; exact this, by rw [h2]; exact h.kind, by rw [h2, h3]; exact h.used, h.right⟩
/-- A page is read as it is. -/
theorem rd_page {q : Qt} {S : PS} {r : Rf} {n : Nd} (h : PageAt q S r n) (hc : CacheOk q S) (hr : S.ch.l.length ≤ S.ch.room) (hr2 : S.ch.room ≤ 32) :
    ∃ c, S.rd q r = (n, 0, S.got c) ∧ c.room = S.ch.room ∧ c.l.length ≤ c.room ∧ CacheOk q (S.got c) ∧ (∀ x ∈ c.l, x ∈ S.ch.l ∨ (x.ref = r ∧ x.node = n)) := by
  have hgf := S.ch.get_facts r
  unfold PS.rd
  rw [if_neg (fun hh => hh h.ref)]
  have hpb := S.ch.pl_bound r
  by_cases hno : S.ch.pl r = -1
  · have hg := Ch.get_no hno
    rw [hg, if_neg (by simp), h.raw, if_neg (by simp)]
    have hpr := put_room_le (s := S.ch.miss) r n hr hr2
    refine ⟨(S.ch.miss.put r n).2, rfl, (put_facts ..).2.2.2, by rw [(put_facts ..).2.2.2]; exact hpr.1, fun x hx => ?_, fun x hx => ?_⟩
    · rcases put_mem (s := S.ch.miss) x hx with h1 | ⟨h1, h2⟩
      · exact (hc x h1).cong rfl rfl rfl
      · rw [h1, h2]; exact h.cong rfl rfl rfl
    · exact put_mem (s := S.ch.miss) x hx
  · have hlt : (S.ch.pl r).toNat < S.ch.l.length := by omega
    have hx : S.ch.l[(S.ch.pl r).toNat]? = some S.ch.l[(S.ch.pl r).toNat] := List.getElem?_eq_getElem hlt
    have hg := Ch.get_yes (r := r) (i := (S.ch.pl r).toNat) (by omega) hx
    have hxm := List.getElem_mem hlt
    have href := pl_ref (by omega) hx
    have hpa := hc _ hxm
    rw [href] at hpa
    have hn : S.ch.l[(S.ch.pl r).toNat].node = n := congrArg Prod.fst (hpa.raw.symm.trans h.raw)
    rw [hg] at hgf ⊢
    rw [if_pos rfl, hn]
    have hmem : ∀ x ∈ (S.ch.hit (S.ch.pl r).toNat S.ch.l[(S.ch.pl r).toNat]).l, x ∈ S.ch.l := fun x hm => by
      rcases List.mem_append.1 hm with h1 | h1
      · exact (List.eraseIdx_sublist _ _).mem h1
      · rw [List.mem_singleton.1 h1]; exact hxm
    exact ⟨_, rfl, rfl, by rw [hgf.1]; exact hr, fun x hm => (hc x (hmem x hm)).cong rfl rfl rfl, fun x hm => .inl (hmem x hm)⟩
end Go.Proofs.Ytlgpdglnfjndhaa
