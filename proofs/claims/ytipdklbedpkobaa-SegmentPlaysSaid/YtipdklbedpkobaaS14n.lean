/-
  The log (layer 14): behind Settle; how many segments are of each kind.
-/
import Derived.Test.YtipdklbedpkobaaS14m
namespace Go.Proofs.Ytipdklbedpkobaa
set_option maxRecDepth 8000
set_option linter.unusedSimpArgs false
set_option linter.unusedVariables false
open Go Xe Go.Lib
theorem settled_get (ss : List Sg) (ps : List Pl) (i : Nat) : (settled ss ps)[i]? = ss[i]?.map fun x => fr ⟨x.kind, x.used, liveOf ps i⟩ := by
  unfold settled lived; rw [List.getElem?_map, List.getElem?_mapIdx, Option.map_map]; rfl
theorem liveOf_zero {s : Int} : ∀ {ps : List Pl}, (∀ p ∈ ps, p.seg ≠ s) → liveOf ps s = 0
  | [], _ => rfl
  | p :: ps, h => by
    simp only [liveOf]
    rw [if_neg (h p (by simp)), liveOf_zero (fun q hq => h q (List.mem_cons_of_mem _ hq))]; rfl
theorem liveOf_nonneg {s : Int} : ∀ {ps : List Pl}, (∀ p ∈ ps, 1 ≤ p.len) → 0 ≤ liveOf ps s
  | [], _ => Int.le_refl _
  | p :: ps, h => by
    have h1 := h p (by simp)
    have h2 := liveOf_nonneg (s := s) (ps := ps) (fun q hq => h q (List.mem_cons_of_mem _ hq))
    simp only [liveOf]; split <;> omega
theorem liveOf_pos : ∀ {ps : List Pl} {p : Pl}, (∀ p ∈ ps, 1 ≤ p.len) → p ∈ ps → 1 ≤ liveOf ps p.seg
  | [], _, _, h => by cases h
  | q :: ps, p, h, hp => by
    have h1 := h q (by simp)
    have h2 := liveOf_nonneg (s := p.seg) (ps := ps) (fun q hq => h q (List.mem_cons_of_mem _ hq))
    simp only [liveOf]
    rcases List.mem_cons.1 hp with rfl | hp
    · rw [if_pos rfl]; omega
    · have h3 := liveOf_pos (fun q hq => h q (List.mem_cons_of_mem _ hq)) hp
      split <;> omega
theorem fr_kind (x : Sg) : (fr x).used = x.used ∧ (fr x).live = x.live ∧ ((fr x).kind = x.kind ∧ ¬ (x.kind = 2 ∧ x.live = 0) ∨ (x.kind = 2 ∧ (fr x).kind = 1 ∧ x.live = 0)) := by
  unfold fr
  split
  · rename_i h; exact ⟨rfl, rfl, .inr ⟨h.1, rfl, h.2⟩⟩
  · rename_i h; exact ⟨rfl, rfl, .inl ⟨rfl, h⟩⟩
theorem settled_sg {ss : List Sg} (ps : List Pl) {i : Nat} {y : Sg} (h : (settled ss ps)[i]? = some y) : ∃ x, ss[i]? = some x ∧ y.used = x.used ∧ y.live = liveOf ps i ∧ (y.kind = x.kind ∧ ¬ (x.kind = 2 ∧ liveOf ps i = 0) ∨ (x.kind = 2 ∧ y.kind = 1 ∧ liveOf ps i = 0)) := by
  rw [settled_get] at h
  obtain ⟨x, hx, rfl⟩ := Option.map_eq_some_iff.1 h
  exact ⟨x, hx, fr_kind ⟨x.kind, x.used, liveOf ps i⟩⟩
theorem settle_k {size o : Int} {ss : List Sg} {md : Md} {pw : Pw} {ps : List Pl} (K : LgK size o ss md pw) (hf : fitsP (usedS ss) ss.length ps) : LgK size o (settled ss ps) md pw := by
  have I := K.I
  have hl := settled_len ss ps
  have hox := sgAt_some I.o0 I.o1
  have hoy := sgAt_some (ss := settled ss ps) I.o0 (by rw [hl]; exact I.o1)
  obtain ⟨x, hx, hu, _, hk⟩ := settled_sg ps hoy
  rw [hox] at hx
  obtain rfl := Option.some.inj hx
  have hk3 : (sgAt (settled ss ps) o).kind = 3 := by have := I.ob; omega
  refine ⟨⟨I.ok, I.size, by rw [hl]; exact I.len, I.o0, by rw [hl]; exact I.o1, hk3, by rw [hu]; exact I.ou, ?_, I.pok, I.on⟩, ?_, ?_, ?_⟩
  · intro y hy
    obtain ⟨i, hi⟩ := List.getElem?_of_mem hy
    obtain ⟨x, hx, hu, _⟩ := settled_sg ps hi
    rw [hu]
    exact I.us x (List.mem_of_getElem? hx)
  · intro i y hy
    obtain ⟨x, hx, _, _, hk⟩ := settled_sg ps hy
    have := K.kd i x hx
    omega
  · intro i y hy hk1
    obtain ⟨x, hx, hu, _, hk⟩ := settled_sg ps hy
    rw [hu]
    exact K.fu i x hx (by omega)
  · intro y hy hk1
    obtain ⟨i, hi⟩ := List.getElem?_of_mem hy
    obtain ⟨x, hx, _, hlv, hk⟩ := settled_sg ps hi
    rw [hlv]
    rcases hk with hk | hk
    · refine liveOf_zero fun p hp e => ?_
      have := hf.1 p hp
      unfold within usedS at this
      rw [e, sgAt_get hx, if_pos (by omega)] at this
      omega
    · exact hk.2.2
/-- A segment whose kept places stay is not freed. -/
theorem settle_keeps {ss : List Sg} {ps : List Pl} (hf : fitsP (usedS ss) ss.length ps) : fitsP (usedS (settled ss ps)) (settled ss ps).length ps := by
  rw [settled_len]
  refine ⟨fun p hp => ?_, hf.2⟩
  have h := hf.1 p hp
  have hpos := liveOf_pos (fun q hq => (hf.1 q hq).2.2.1) hp
  unfold within at h ⊢
  have hy := sgAt_some (ss := settled ss ps) h.1 (by rw [settled_len]; exact h.2.1)
  obtain ⟨x, hx, hu, _, hk⟩ := settled_sg ps hy
  have e : sgAt ss p.seg = x := by unfold sgAt; rw [hx]; rfl
  have e2 : ((p.seg.toNat : Nat) : Int) = p.seg := by omega
  rw [e2] at hk
  have hus : usedS (settled ss ps) p.seg = usedS ss p.seg := by
    unfold usedS
    rw [hu, e, show (sgAt (settled ss ps) p.seg).kind = x.kind by omega]
  rw [hus]; exact h
theorem count_one {p : Sg → Bool} : ∀ {ss : List Sg} {o : Nat} {s : Nat}, (∀ (i : Nat) (x : Sg), ss[i]? = some x → (p x = true ↔ i + s = o)) → s ≤ o → o < ss.length + s → ss.countP p = 1
  | [], o, s, _, h1, h2 => by simp at h2; omega
  | x :: xs, o, s, h, h1, h2 => by
    rw [List.countP_cons]
    have h0 := h 0 x rfl
    by_cases hp : p x = true
    · have : o = s := by have := h0.1 hp; omega
      subst this
      rw [if_pos hp]
      have : xs.countP p = 0 := List.countP_eq_zero.2 fun y hy hp => by
        obtain ⟨i, hi⟩ := List.getElem?_of_mem hy
        have := (h (i + 1) y (by rw [List.getElem?_cons_succ]; exact hi)).1 hp
        omega
      omega
    · rw [if_neg hp, count_one (o := o) (s := s + 1) (fun i y hy => by have := h (i + 1) y (by rw [List.getElem?_cons_succ]; exact hy); rw [this]; omega) (by have := mt h0.2 hp; omega) (by simp at h2; omega)]
theorem count_all : ∀ {ss : List Sg}, (∀ x ∈ ss, x.kind = 1 ∨ x.kind = 2 ∨ x.kind = 3) → (ss.countP fun x => decide (x.kind = 1)) + (ss.countP fun x => decide (x.kind = 2)) + (ss.countP fun x => decide (x.kind = 3)) = ss.length
  | [], _ => rfl
  | x :: xs, h => by
    have ih := count_all (ss := xs) (fun y hy => h y (List.mem_cons_of_mem _ hy))
    rw [List.countP_cons, List.countP_cons, List.countP_cons, List.length_cons]
    have := h x (by simp)
    simp only [decide_eq_true_eq]
    split <;> split <;> split <;> omega
/-- Each segment is free, sealed or open; just one is open. -/
theorem LgK.count {size o : Int} {ss : List Sg} {md : Md} {pw : Pw} (K : LgK size o ss md pw) : (ss.countP fun x => decide (x.kind = 1)) + (ss.countP fun x => decide (x.kind = 2)) + 1 = ss.length := by
  have h0 := K.I.o0
  have h1 := K.I.o1
  have h3 : (ss.countP fun x => decide (x.kind = 3)) = 1 := count_one (o := o.toNat) (s := 0) (fun i x hx => by rw [decide_eq_true_iff, (K.kd i x hx).1]; omega) (by omega) (by omega)
  rw [← count_all (ss := ss) fun x hx => by obtain ⟨i, hi⟩ := List.getElem?_of_mem hx; exact (K.kd i x hi).2, h3]
theorem settled_none (ss : List Sg) : (settled ss []).countP (fun x => decide (x.kind = 2)) = 0 := List.countP_eq_zero.2 fun y hy hk => by
  obtain ⟨i, hi⟩ := List.getElem?_of_mem hy
  obtain ⟨x, _, _, _, h⟩ := settled_sg [] hi
  have : liveOf [] (i : Int) = 0 := rfl
  have hk := of_decide_eq_true hk
  omega
theorem settle_fit {E : Env} {w : World} {L : List As} {l m b c : Nat} {o : Int} {ss : List Sg} {A : As} {v : Value} {xs : List Pl} (hb : ss.length ≤ 4096) (hu : ∀ x ∈ ss, 0 ≤ x.used ∧ x.used ≤ 1048576) (hS : SrcA A v xs) (hok : ∀ p ∈ xs, p.len ≤ 9223372036854775807) (hf : fitsP (usedS ss) ss.length xs)
    (hw : Sat E w (pt l (.cells [Value.pointer (some ⟨m, 0, none⟩), .int .i64 o, .slice (some ⟨b, 0, none⟩) (ss : List Sg).length c].toArray 47 (0, 0)) :: OwnSl 104 3 (.slice (some ⟨b, 0, none⟩) (ss).length c) (ss).length ((ss).flatMap Sg.cells) :: A :: L)) :
    Calls Try.prog 26 #[.pointer (some ⟨l, 0, none⟩), v] w fun e w' => e = .returned (.int .i64 0) ∧ Sat E w' (pt l (.cells [Value.pointer (some ⟨m, 0, none⟩), .int .i64 o, .slice (some ⟨b, 0, none⟩) ((settled ss xs) : List Sg).length c].toArray 47 (0, 0)) :: OwnSl 104 3 (.slice (some ⟨b, 0, none⟩) ((settled ss xs)).length c) ((settled ss xs)).length (((settled ss xs)).flatMap Sg.cells) :: A :: L) := by
  refine Calls.mono (settle_calls hb hu hS hok hw) ?_
  rintro _ w ⟨r, rfl, hr, hw⟩
  obtain rfl := hr.2 hf
  exact ⟨rfl, hw⟩
theorem srcA_none : SrcA Xe.emp (.slice none 0 0) [] := ⟨none, 0, rfl, by simp, fun i x h => by simp at h⟩
theorem LgK.us' {size o : Int} {ss : List Sg} {md : Md} {pw : Pw} (K : LgK size o ss md pw) : ∀ x ∈ ss, 0 ≤ x.used ∧ x.used ≤ 1048576 := fun x hx => by
  have h1 := K.I.us x hx
  have h2 := K.I.ok.2.2.2.1
  omega
end Go.Proofs.Ytipdklbedpkobaa
