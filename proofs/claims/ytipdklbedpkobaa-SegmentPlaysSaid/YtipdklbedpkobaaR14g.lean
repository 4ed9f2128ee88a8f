/-
  The log and the document's, side by side (no program).
-/
import Derived.Test.YtipdklbedpkobaaR14f
namespace Go.Proofs.Ytipdklbedpkobaa
set_option maxRecDepth 8000
set_option linter.unusedSimpArgs false
set_option linter.unusedVariables false
open Go Xe Go.Lib
structure Lk (o : Int) (ss rs : List Sg) (md : Md) (pw : Pw) : Prop where
  mo : md.ok
  pk : pw.ok
  len : ss.length = md.segs.length
  rlen : rs.length = ss.length
  o0 : 0 ≤ o
  o1 : o < ss.length
  kd : ∀ (i : Nat) (x : Sg), ss[i]? = some x → (x.kind = 3 ↔ (i : Int) = o)
  rel : ∀ (i : Nat) (x y : Sg), ss[i]? = some x → rs[i]? = some y → y.kind = x.kind ∧ y.live = x.live ∧ (x.kind ≠ 1 → y.used = x.used)
  us : ∀ x ∈ ss, 0 ≤ x.used ∧ x.used ≤ md.size
  ur : ∀ x ∈ rs, 0 ≤ x.used ∧ x.used ≤ md.size
theorem Lk.at {o : Int} {ss rs : List Sg} {md : Md} {pw : Pw} (K : Lk o ss rs md pw) {i : Int} (h0 : 0 ≤ i) (h1 : i < ss.length) : (sgAt rs i).kind = (sgAt ss i).kind ∧ (sgAt rs i).live = (sgAt ss i).live ∧ ((sgAt ss i).kind ≠ 1 → (sgAt rs i).used = (sgAt ss i).used) :=
  K.rel i.toNat _ _ (sgAt_some h0 h1) (sgAt_some h0 (by have := K.rlen; omega))
theorem Lk.ob {o : Int} {ss rs : List Sg} {md : Md} {pw : Pw} (K : Lk o ss rs md pw) : (sgAt ss o).kind = 3 := (K.kd o.toNat _ (sgAt_some K.o0 K.o1)).2 (by have := K.o0; omega)
theorem Lk.robk {o : Int} {ss rs : List Sg} {md : Md} {pw : Pw} (K : Lk o ss rs md pw) : (sgAt rs o).kind = 3 := by rw [(K.at K.o0 K.o1).1]; exact K.ob
theorem idx_same (k : Int) : ∀ (xs ys : List Sg) (i : Int), xs.length = ys.length → (∀ (j : Nat) (x y : Sg), xs[j]? = some x → ys[j]? = some y → y.kind = x.kind) → idx (fun x : Sg => decide (x.kind = k)) ys i = idx (fun x : Sg => decide (x.kind = k)) xs i
  | [], [], _, _, _ => rfl
  | [], _ :: _, _, h, _ => by simp at h
  | _ :: _, [], _, h, _ => by simp at h
  | x :: xs, y :: ys, i, hl, h => by
    have h0 := h 0 x y rfl rfl
    have ih := idx_same k xs ys (i + 1) (by simpa using hl) (fun j a b ha hb => h (j + 1) a b (by rw [List.getElem?_cons_succ]; exact ha) (by rw [List.getElem?_cons_succ]; exact hb))
    simp only [idx, h0, ih]
theorem idx_one {p : Sg → Bool} : ∀ {xs : List Sg} {s o : Nat}, (∀ (i : Nat) (x : Sg), xs[i]? = some x → (p x = true ↔ i + s = o)) → s ≤ o → o < xs.length + s → idx p xs (s : Int) = (o : Int)
  | [], s, o, _, h1, h2 => by simp at h2; omega
  | x :: xs, s, o, h, h1, h2 => by
    have h0 := h 0 x rfl
    simp only [idx]
    by_cases hp : p x = true
    · rw [if_pos hp]
      have := h0.1 hp
      omega
    · rw [if_neg hp]
      have hne := mt h0.2 hp
      have := idx_one (xs := xs) (s := s + 1) (o := o) (fun i y hy => by have := h (i + 1) y (by rw [List.getElem?_cons_succ]; exact hy); rw [this]; omega) (by omega) (by simp at h2; omega)
      rw [← this]; congr 1
theorem Lk.idx3 {o : Int} {ss rs : List Sg} {md : Md} {pw : Pw} (K : Lk o ss rs md pw) : idx (fun x : Sg => decide (x.kind = 3)) rs 0 = o := by
  rw [idx_same 3 ss rs 0 K.rlen.symm (fun j x y hx hy => (K.rel j x y hx hy).1)]
  have := idx_one (p := fun x : Sg => decide (x.kind = 3)) (xs := ss) (s := 0) (o := o.toNat) (fun i x hx => by rw [decide_eq_true_iff, K.kd i x hx]; have := K.o0; omega) (by omega) (by have := K.o1; have := K.o0; omega)
  have h2 := K.o0
  rw [show ((0 : Nat) : Int) = 0 from rfl] at this
  rw [this]; omega
theorem new_Lk {size : Int} {n : Nat} (h1 : 1 ≤ n) (h2 : n ≤ 4096) (h3 : 1 ≤ size) (h4 : size ≤ 1048576) : Lk 0 (newSegs n) (newSegs n) (newMd size n) ⟨false, 0, 0⟩ := by
  have K := new_LgK h1 h2 h3 h4
  exact ⟨K.I.ok, K.I.pok, K.I.len, rfl, K.I.o0, K.I.o1, fun i x h => (K.kd i x h).1, fun i x y hx hy => by rw [hx] at hy; obtain rfl := Option.some.inj hy; exact ⟨rfl, rfl, fun _ => rfl⟩, K.I.us, K.I.us⟩
theorem write_ok {md : Md} {pw : Pw} (hm : md.ok) (hp : pw.ok) (i at_ : Int) (v : ByteArray) : (md.write pw i at_ v).2.1.ok ∧ (md.write pw i at_ v).2.2.ok ∧ (md.write pw i at_ v).2.1.size = md.size ∧ (md.write pw i at_ v).2.1.segs.length = md.segs.length ∧ (md.write pw i at_ v).2.1.past.length ≤ md.past.length + 1 ∧ ((md.write pw i at_ v).1 = 0 → (v.size : Int) ≤ md.size - at_) := by
  unfold Md.write
  split
  · rename_i hi
    split
    · exact ⟨hm, hp, rfl, rfl, by simp only; omega, fun h => by simp at h⟩
    · rename_i h1
      split
      · exact ⟨hm, hp, rfl, rfl, by simp only; omega, fun h => by simp at h⟩
      · rename_i h2
        split
        · exact ⟨Md.ok_put hm hi (by omega) (by omega) (by omega), Pw.ok_spend hp, rfl, by simp [Md.put], by simp [Md.put], fun _ => by omega⟩
        · rename_i h3
          exact ⟨hm, Pw.ok_spend hp, rfl, rfl, by simp only; omega, fun h => absurd h h3⟩
  · exact ⟨hm, hp, rfl, rfl, by simp only; omega, fun h => by simp at h⟩
theorem Lk.write {o : Int} {ss rs : List Sg} {md : Md} {pw : Pw} (K : Lk o ss rs md pw) (i at_ : Int) (v : ByteArray) : Lk o ss rs (md.write pw i at_ v).2.1 (md.write pw i at_ v).2.2 := by
  obtain ⟨h1, h2, h3, h4, _⟩ := write_ok K.mo K.pk i at_ v
  exact ⟨h1, h2, by rw [h4]; exact K.len, K.rlen, K.o0, K.o1, K.kd, K.rel, by rw [h3]; exact K.us, by rw [h3]; exact K.ur⟩
theorem Lk.power {o : Int} {ss rs : List Sg} {md : Md} {pw pw' : Pw} (K : Lk o ss rs md pw) (h : pw'.ok) : Lk o ss rs md pw' := ⟨K.mo, h, K.len, K.rlen, K.o0, K.o1, K.kd, K.rel, K.us, K.ur⟩
theorem put_get_rel {o to at_ n : Int} {ss rs : List Sg} {md : Md} {pw : Pw} (K : Lk o ss rs md pw) (h0 : 0 ≤ to) (h1 : to < ss.length) (ha : 0 ≤ at_) (hn : 0 ≤ n) (hb : at_ + n ≤ md.size) : Lk to (putL o ss to at_ n) (putL o rs to at_ n) md pw := by
  have hrl := K.rlen
  have g1 := putL_get (at_ := at_) (n := n) K.o0 K.o1 h0 h1
  have g2 := putL_get (at_ := at_) (n := n) (ss := rs) K.o0 (by have := K.o1; omega) h0 (by omega)
  refine ⟨K.mo, K.pk, by rw [putL_len]; exact K.len, by rw [putL_len, putL_len]; exact hrl, h0, by rw [putL_len]; exact h1, ?_, ?_, ?_, ?_⟩
  · intro i x hx
    rw [g1] at hx
    split at hx
    · rename_i h; rw [← Option.some.inj hx]; exact ⟨fun _ => h, fun _ => rfl⟩
    · rename_i h
      split at hx
      · rw [← Option.some.inj hx]; exact ⟨fun h3 => absurd h3 (by simp), fun h3 => absurd h3 h⟩
      · rename_i h2
        exact ⟨fun h3 => absurd ((K.kd i x hx).1 h3) h2, fun h3 => absurd h3 h⟩
  · intro i x y hx hy
    rw [g1] at hx
    rw [g2] at hy
    split at hx
    · rename_i h
      rw [if_pos h] at hy
      rw [← Option.some.inj hx, ← Option.some.inj hy]
      exact ⟨rfl, (K.at h0 h1).2.1, fun _ => rfl⟩
    · rename_i h
      rw [if_neg h] at hy
      split at hx
      · rename_i h2
        rw [if_pos h2] at hy
        rw [← Option.some.inj hx, ← Option.some.inj hy]
        have := K.at K.o0 K.o1
        exact ⟨rfl, this.2.1, fun _ => this.2.2 (by rw [K.ob]; omega)⟩
      · rename_i h2
        rw [if_neg h2] at hy
        exact K.rel i x y hx hy
  · intro x hx
    obtain ⟨i, hi⟩ := List.getElem?_of_mem hx
    rw [g1] at hi
    split at hi
    · rw [← Option.some.inj hi]; simp only; omega
    · split at hi
      · rw [← Option.some.inj hi]; have h9 := K.us _ (List.mem_of_getElem? (sgAt_some K.o0 K.o1)); exact h9
      · exact K.us x (List.mem_of_getElem? hi)
  · intro x hx
    obtain ⟨i, hi⟩ := List.getElem?_of_mem hx
    rw [g2] at hi
    split at hi
    · rw [← Option.some.inj hi]; simp only; omega
    · split at hi
      · rw [← Option.some.inj hi]; have h9 := K.ur _ (List.mem_of_getElem? (sgAt_some (ss := rs) K.o0 (by have := K.o1; omega))); exact h9
      · exact K.ur x (List.mem_of_getElem? hi)
theorem tgt_same {o : Int} {ss rs : List Sg} {md : Md} {pw : Pw} (K : Lk o ss rs md pw) (n : Int) : tgtL md.size o rs n = tgtL md.size o ss n := by
  unfold tgtL
  rw [idx_same 1 ss rs 0 K.rlen.symm (fun j x y hx hy => (K.rel j x y hx hy).1), (K.at K.o0 K.o1).2.2 (by rw [K.ob]; omega)]
theorem Lk.app {o : Int} {ss rs : List Sg} {md : Md} {pw : Pw} (K : Lk o ss rs md pw) (v : ByteArray) :
    (appL o rs md pw v).at_ = (appL o ss md pw v).at_ ∧ (appL o rs md pw v).bad = (appL o ss md pw v).bad ∧ (appL o rs md pw v).md = (appL o ss md pw v).md ∧ (appL o rs md pw v).pw = (appL o ss md pw v).pw ∧
      Lk (appL o ss md pw v).o (appL o ss md pw v).ss (appL o rs md pw v).ss (appL o ss md pw v).md (appL o ss md pw v).pw ∧ (appL o ss md pw v).md.past.length ≤ md.past.length + 1 ∧ (appL o ss md pw v).ss.length = ss.length := by
  have htg := tgt_same K v.size
  have hib := idx_bound (p := fun x : Sg => decide (x.kind = 1)) (l := ss) (i := 0) (by omega)
  have hux := K.us _ (List.mem_of_getElem? (sgAt_some K.o0 K.o1))
  have ho0 := K.o0
  have ho1 := K.o1
  unfold appL
  rw [htg]
  by_cases h1 : v = ByteArray.empty ∨ (v.size : Int) > md.size
  · rw [if_pos h1, if_pos h1]; exact ⟨rfl, rfl, rfl, rfl, K, by simp only; omega, rfl⟩
  rw [if_neg h1, if_neg h1]
  by_cases h2 : (tgtL md.size o ss v.size).1 < 0
  · rw [if_pos h2, if_pos h2]; exact ⟨rfl, rfl, rfl, rfl, K, by simp only; omega, rfl⟩
  rw [if_neg h2, if_neg h2]
  have hb : (tgtL md.size o ss v.size).1 < ss.length ∧ 0 ≤ (tgtL md.size o ss v.size).2 := by
    unfold tgtL
    split
    · exact ⟨by simp only; omega, by simp only; omega⟩
    · exact ⟨ho1, hux.1⟩
  obtain ⟨k1, k2, k3, k4, k5, k6⟩ := write_ok K.mo K.pk (tgtL md.size o ss v.size).1 (tgtL md.size o ss v.size).2 v
  have KW := K.write (tgtL md.size o ss v.size).1 (tgtL md.size o ss v.size).2 v
  by_cases h3 : (md.write pw (tgtL md.size o ss v.size).1 (tgtL md.size o ss v.size).2 v).1 ≠ 0
  · rw [if_pos h3, if_pos h3]; exact ⟨rfl, rfl, rfl, rfl, KW, k5, rfl⟩
  rw [if_neg h3, if_neg h3]
  refine ⟨rfl, rfl, rfl, rfl, ?_, k5, putL_len ..⟩
  have h4 := k6 (by omega)
  exact put_get_rel KW (Int.not_lt.1 h2) hb.1 hb.2 (by omega) (by rw [k3]; omega)
theorem Lk.used {o : Int} {ss rs : List Sg} {md : Md} {pw : Pw} (K : Lk o ss rs md pw) {i : Int} (h0 : 0 ≤ i) (h1 : i < ss.length) : usedS rs i = usedS ss i := by
  have h := K.at h0 h1
  unfold usedS
  rw [h.1]
  split
  · rfl
  · rename_i hk; exact h.2.2 hk
theorem fits_cong {u u' : Int → Int} {n : Nat} {ps : List Pl} (h : ∀ i : Int, 0 ≤ i → i < n → u i = u' i) : fitsP u n ps ↔ fitsP u' n ps := by
  unfold fitsP within
  refine and_congr ⟨fun hh p hp => ?_, fun hh p hp => ?_⟩ Iff.rfl
  · have h1 := hh p hp; rw [← h p.seg h1.1 h1.2.1]; exact h1
  · have h1 := hh p hp; rw [h p.seg h1.1 h1.2.1]; exact h1
theorem Lk.fits {o : Int} {ss rs : List Sg} {md : Md} {pw : Pw} (K : Lk o ss rs md pw) (ps : List Pl) : fitsP (usedS rs) rs.length ps ↔ fitsP (usedS ss) ss.length ps := by
  rw [K.rlen]; exact fits_cong fun i h0 h1 => K.used h0 h1
theorem Lk.settle {o : Int} {ss rs : List Sg} {md : Md} {pw : Pw} (K : Lk o ss rs md pw) (ps : List Pl) : Lk o (settled ss ps) (settled rs ps) md pw := by
  refine ⟨K.mo, K.pk, by rw [settled_len]; exact K.len, by rw [settled_len, settled_len]; exact K.rlen, K.o0, by rw [settled_len]; exact K.o1, ?_, ?_, ?_, ?_⟩
  · intro i y hy
    obtain ⟨x, hx, _, _, hk⟩ := settled_sg ps hy
    rw [← K.kd i x hx]; omega
  · intro i x y hx hy
    obtain ⟨x0, hx0, hu, hlv, hk⟩ := settled_sg ps hx
    obtain ⟨y0, hy0, hu2, hlv2, hk2⟩ := settled_sg ps hy
    have h := K.rel i x0 y0 hx0 hy0
    refine ⟨by omega, by omega, fun h1 => ?_⟩
    rw [hu, hu2]
    exact h.2.2 (by omega)
  · intro y hy
    obtain ⟨i, hi⟩ := List.getElem?_of_mem hy
    obtain ⟨x, hx, hu, _⟩ := settled_sg ps hi
    rw [hu]; exact K.us x (List.mem_of_getElem? hx)
  · intro y hy
    obtain ⟨i, hi⟩ := List.getElem?_of_mem hy
    obtain ⟨x, hx, hu, _⟩ := settled_sg ps hi
    rw [hu]; exact K.ur x (List.mem_of_getElem? hx)
theorem bgU_le {op us : Int} {md : Md} (hok : md.ok) (h0 : 0 ≤ us) (h1 : us ≤ md.used op) (s : Int) : 0 ≤ bgU op us md s ∧ bgU op us md s ≤ md.size := by
  have hb : ∀ s, 0 ≤ md.used s ∧ md.used s ≤ md.size := fun s => by
    have h3 := hok.2.2.1
    unfold Md.used
    split
    · rename_i h
      have h2 := Md.seg_le hok h
      omega
    · omega
  have h2 := hb op
  have h3 := hb s
  unfold bgU
  split <;> omega
theorem Lk.begin_ {o op us : Int} {ss rs : List Sg} {md : Md} {pw : Pw} (K : Lk o ss rs md pw) (ps : List Pl) (h0 : 0 ≤ op) (h1 : op < ss.length) (hu0 : 0 ≤ us) (hu1 : us ≤ md.used op) : Lk op (begun (bgU op us md) op ss ps) (rbegun md op us rs ps) md pw := by
  have hbg := bgU_le K.mo hu0 hu1
  have hb2 : ∀ s, 0 ≤ md.used s ∧ md.used s ≤ md.size := fun s => by
    have h3 := K.mo.2.2.1
    unfold Md.used
    split
    · rename_i h
      have h2 := Md.seg_le K.mo h
      omega
    · omega
  have hr9 : ∀ (j : Nat), (rbegun md op us rs ps)[j]? = rs[j]?.map fun _ => (⟨if (j : Int) = op then 3 else if liveOf ps j > 0 then 2 else 1, if (j : Int) = op then us else if liveOf ps j > 0 then md.used j else 0, liveOf ps j⟩ : Sg) := fun j => by unfold rbegun; rw [List.getElem?_mapIdx]
  have hb9 : ∀ (j : Nat), (begun (bgU op us md) op ss ps)[j]? = ss[j]?.map fun _ => (⟨if (j : Int) = op then 3 else if liveOf ps j > 0 then 2 else 1, bgU op us md j, liveOf ps j⟩ : Sg) := fun j => by unfold begun; rw [List.getElem?_mapIdx]
  refine ⟨K.mo, K.pk, by rw [begun_len]; exact K.len, by rw [begun_len, rbegun_len]; exact K.rlen, h0, by rw [begun_len]; exact h1, ?_, ?_, ?_, ?_⟩
  · intro i y hy
    rw [hb9] at hy
    obtain ⟨x, _, rfl⟩ := Option.map_eq_some_iff.1 hy
    dsimp only
    by_cases he : (i : Int) = op
    · rw [if_pos he]; exact ⟨fun _ => he, fun _ => rfl⟩
    · rw [if_neg he]
      split
      · exact ⟨fun h => absurd h (by omega), fun h => absurd h he⟩
      · exact ⟨fun h => absurd h (by omega), fun h => absurd h he⟩
  · intro i x y hx hy
    rw [hb9] at hx
    rw [hr9] at hy
    obtain ⟨_, _, rfl⟩ := Option.map_eq_some_iff.1 hx
    obtain ⟨_, _, rfl⟩ := Option.map_eq_some_iff.1 hy
    refine ⟨rfl, rfl, fun hk => ?_⟩
    dsimp only at hk ⊢
    unfold bgU
    by_cases he : (i : Int) = op
    · rw [if_pos he, if_pos he]
    · rw [if_neg he] at hk ⊢
      rw [if_neg he]
      by_cases hl : liveOf ps i > 0
      · rw [if_pos hl]
      · rw [if_neg hl] at hk; exact absurd rfl hk
  · intro y hy
    obtain ⟨i, hi⟩ := List.getElem?_of_mem hy
    rw [hb9] at hi
    obtain ⟨_, _, rfl⟩ := Option.map_eq_some_iff.1 hi
    exact hbg i
  · intro y hy
    obtain ⟨i, hi⟩ := List.getElem?_of_mem hy
    rw [hr9] at hi
    obtain ⟨_, _, rfl⟩ := Option.map_eq_some_iff.1 hi
    have h2 := hb2 op
    have h3 := hb2 i
    dsimp only
    split
    · omega
    · split <;> omega
theorem Lk.kindS {o : Int} {ss rs : List Sg} {md : Md} {pw : Pw} (K : Lk o ss rs md pw) (i : Int) : kindS rs i = kindS ss i ∧ liveS rs i = liveS ss i := by
  unfold Go.Proofs.Ytipdklbedpkobaa.kindS liveS
  rw [K.rlen]
  by_cases h : 0 ≤ i ∧ i < ss.length
  · have h2 := K.at h.1 h.2
    rw [if_pos h, if_pos h, if_pos h, if_pos h]; exact ⟨h2.1, h2.2.1⟩
  · rw [if_neg h, if_neg h, if_neg h, if_neg h]; exact ⟨rfl, rfl⟩
theorem Lk.ofS {o : Int} {ss rs : List Sg} {md : Md} {pw : Pw} (K : Lk o ss rs md pw) (k : Int) : ofS k rs 0 = ofS k ss 0 := by
  have : ∀ (xs ys : List Sg) (i : Int), xs.length = ys.length → (∀ (j : Nat) (x y : Sg), xs[j]? = some x → ys[j]? = some y → y.kind = x.kind) → Go.Proofs.Ytipdklbedpkobaa.ofS k ys i = Go.Proofs.Ytipdklbedpkobaa.ofS k xs i := by
    intro xs
    induction xs with
    | nil => intro ys i hl _; rw [List.eq_nil_of_length_eq_zero hl.symm]
    | cons x xs ih =>
      intro ys i hl h
      cases ys with
      | nil => simp at hl
      | cons y ys =>
        have h0 := h 0 x y rfl rfl
        have := ih ys (i + 1) (by simpa using hl) (fun j a b ha hb => h (j + 1) a b (by rw [List.getElem?_cons_succ]; exact ha) (by rw [List.getElem?_cons_succ]; exact hb))
        simp only [Go.Proofs.Ytipdklbedpkobaa.ofS, h0, this]
  exact this ss rs 0 K.rlen.symm (fun j x y hx hy => (K.rel j x y hx hy).1)
end Go.Proofs.Ytipdklbedpkobaa
