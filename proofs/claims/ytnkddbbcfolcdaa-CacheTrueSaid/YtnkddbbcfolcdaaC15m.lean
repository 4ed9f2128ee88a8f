/-
  CacheTrue's plain law.
-/
import Derived.Test.YtnkddbbcfolcdaaC15l
import Derived.Test.YtnkddbbcfolcdaaC15W
namespace Go.Proofs.Ytnkddbbcfolcdaa
set_option linter.unusedSimpArgs false
set_option linter.unusedVariables false
open Go Xe Go.Lib Go.RowKit Go.ChangeShapes Go.WideShapes Go.ChangeAt


structure Tr (rm i : Int) (s : Ch) (l : List Op) (done : List Bool) : Prop where
  uniq : s.uniq
  room : s.room = rm
  len : (s.l.length : Int) ≤ rm
  eq : l.length = done.length
  tell : ∀ h ∈ s.l, lastOf l done h.ref = (h.node, true) ∧ 0 ≤ h.pins ∧ h.pins ≤ i
def Stays (o : Op) (s s' : Ch) : Prop := ∀ h ∈ s.l, 0 < h.pins → o.do_ ≠ 4 → o.do_ ≠ 5 → ∃ y ∈ s'.l, y.ref = h.ref
theorem Tr.next {rm i : Int} {s s' : Ch} {l : List Op} {done : List Bool} (t : Tr rm i s l done) (o : Op) (d : Bool) (hu : s'.uniq) (hr : s'.room = rm) (hl : (s'.l.length : Int) ≤ rm)
    (hm : ∀ y ∈ s'.l, 0 ≤ y.pins ∧ y.pins ≤ i + 1 ∧ ((∃ h ∈ s.l, h.ref = y.ref ∧ h.node = y.node ∧ (d = true → o.step y.ref (y.node, true) = (y.node, true))) ∨ (d = true ∧ (o.do_ < 1 ∨ 6 < o.do_) ∧ ofR o.r = y.ref ∧ o.n = y.node))) :
    Tr rm (i + 1) s' (l ++ [o]) (done ++ [d]) := by
  refine ⟨hu, hr, hl, by simp [t.eq], fun y hy => ?_⟩
  obtain ⟨h1, h2, h3⟩ := hm y hy
  refine ⟨?_, h1, h2⟩
  rw [lastOf_snoc t.eq]
  rcases h3 with ⟨h, hh, e1, e2, e3⟩ | ⟨e0, e1, e2, e3⟩
  · have h4 := (t.tell h hh).1
    rw [e1, e2] at h4
    rw [h4]
    cases d with
    | true => rw [if_pos rfl]; exact e3 rfl
    | false => rw [if_neg (by simp)]
  · rw [if_pos e0]
    obtain ⟨p, b⟩ : ∃ p : Nd × Bool, p = lastOf l done y.ref := ⟨_, rfl⟩
    rw [← e3, ← e2]
    exact if_pos ⟨e1, rfl⟩
theorem hit_perm {s : Ch} {i : Nat} {x : Hd} (hx : s.l[i]? = some x) : (s.l.eraseIdx i ++ [x]).Perm s.l := by
  obtain ⟨h, rfl⟩ := List.getElem?_eq_some_iff.1 hx
  rw [List.eraseIdx_eq_take_drop_succ, List.append_assoc]
  refine ((List.perm_append_comm (l₁ := s.l.drop (i + 1)) (l₂ := [s.l[i]])).append_left _).trans (.of_eq ?_)
  rw [List.singleton_append, List.getElem_cons_drop, List.take_append_drop]
theorem get_perm (s : Ch) (r : Rf) : (s.get r).2.2.l.Perm s.l := by
  have hpb := s.pl_bound r
  by_cases h : s.pl r = -1
  · rw [Ch.get_no h]; exact .refl _
  · have hlt : (s.pl r).toNat < s.l.length := by omega
    rw [Ch.get_yes (i := (s.pl r).toNat) (by omega) (List.getElem?_eq_getElem hlt)]
    exact hit_perm (List.getElem?_eq_getElem hlt)
theorem perm_uniq {s s' : Ch} (h : s'.l.Perm s.l) (hu : s.uniq) : s'.uniq := (h.map Hd.ref).nodup_iff.2 hu
theorem get_some {s : Ch} {r : Rf} (h : (s.get r).2.1 = true) : ∃ x ∈ s.l, x.ref = r ∧ x.node = (s.get r).1 := by
  have hpb := s.pl_bound r
  by_cases h0 : s.pl r = -1
  · rw [Ch.get_no h0] at h; cases h
  · have hlt : (s.pl r).toNat < s.l.length := by omega
    obtain ⟨x, hx, hp⟩ := idx_some (p := fun h : Hd => decide (h.ref = r)) (l := s.l) (i := 0) (k := (s.pl r).toNat) (by omega) (by unfold Ch.pl at *; omega)
    rw [Ch.get_yes (i := (s.pl r).toNat) (by omega) hx]
    exact ⟨x, List.mem_of_getElem? hx, by simpa using hp, rfl⟩
theorem get_there {s : Ch} {x : Hd} (hu : s.uniq) (hx : x ∈ s.l) : (s.get x.ref).2.1 = true ∧ (s.get x.ref).1 = x.node := by
  have hpb := s.pl_bound x.ref
  have h0 : ¬ s.pl x.ref = -1 := fun h => Ch.pl_none.1 h x hx rfl
  obtain ⟨y, hy, hp⟩ := idx_some (p := fun h : Hd => decide (h.ref = x.ref)) (l := s.l) (i := 0) (k := (s.pl x.ref).toNat) (by omega) (by unfold Ch.pl at *; omega)
  have hp : y.ref = x.ref := by simpa using hp
  have hb : (s.get x.ref) = (y.node, true, s.hit (s.pl x.ref).toNat y) := Ch.get_yes (by omega) hy
  have e : y = x := by
    apply Classical.byContradiction
    intro hne
    obtain ⟨i, hi, hxi⟩ := List.mem_iff_getElem.1 hx
    have h1 := erase_gone hu hy x
    refine h1 ?_ hp.symm
    rw [List.mem_eraseIdx_iff_getElem?]
    refine ⟨i, ?_, by rw [List.getElem?_eq_getElem hi, hxi]⟩
    intro hii
    rw [← hii, List.getElem?_eq_getElem hi, hxi] at hy
    exact hne (Option.some.inj hy).symm
  rw [hb, e]; exact ⟨rfl, rfl⟩
theorem Tr.get {rm i : Int} {s : Ch} {l : List Op} {done : List Bool} (t : Tr rm i s l done) {o : Op} (ho : o.do_ = 1) (r : Rf) : Tr rm (i + 1) (s.get r).2.2 (l ++ [o]) (done ++ [true]) ∧ Stays o s (s.get r).2.2 := by
  have hp := get_perm s r
  refine ⟨t.next o true (perm_uniq hp t.uniq) ((s.get_facts r).2.trans t.room) (by rw [hp.length_eq]; exact t.len) fun y hy => ?_, fun h hh _ _ _ => ⟨h, hp.mem_iff.2 hh, rfl⟩⟩
  have hy := hp.mem_iff.1 hy
  have := (t.tell y hy).2
  exact ⟨this.1, by omega, .inl ⟨y, hy, rfl, rfl, fun _ => stepNo (by omega) (by omega) (by omega)⟩⟩
theorem Tr.perm {rm i : Int} {s s' : Ch} {l : List Op} {done : List Bool} (t : Tr rm i s l done) (h : s'.l.Perm s.l) (hr : s'.room = s.room) : Tr rm i s' l done :=
  ⟨perm_uniq h t.uniq, hr.trans t.room, by rw [h.length_eq]; exact t.len, t.eq, fun y hy => t.tell y (h.mem_iff.1 hy)⟩
theorem Stays.perm {o : Op} {s s' s2 : Ch} (t : Stays o s s') (h : s2.l.Perm s'.l) : Stays o s s2 := fun y hy h1 h2 h3 =>
  let ⟨z, hz, he⟩ := t y hy h1 h2 h3
  ⟨z, h.mem_iff.2 hz, he⟩
theorem repin_mem {s : Ch} {r : Rf} {d : Int} {y : Hd} (hy : y ∈ (s.repin r d).l) : y ∈ s.l ∨ ∃ h ∈ s.l, s.l[(s.pl r).toNat]? = some h ∧ y = h.pin d := by
  unfold Ch.repin at hy
  split at hy
  · rename_i x hx
    rcases List.mem_or_eq_of_mem_set hy with h | h
    · exact .inl h
    · exact .inr ⟨x, List.mem_of_getElem? hx, hx, h⟩
  · exact .inl hy
theorem repin_refs (s : Ch) (r : Rf) (d : Int) : (s.repin r d).l.map Hd.ref = s.l.map Hd.ref := by
  unfold Ch.repin
  split
  · rename_i x hx
    apply List.ext_getElem?
    intro j
    simp only [List.getElem?_map, List.getElem?_set]
    split
    · rename_i hj; subst hj
      split
      · rw [hx]; rfl
      · rename_i h2; rw [List.getElem?_eq_none (by omega)]
    · rfl
  · rfl
theorem Tr.repin {rm i : Int} {s : Ch} {l : List Op} {done : List Bool} (t : Tr rm i s l done) {o : Op} (ho : o.do_ = 2 ∨ o.do_ = 3) (r : Rf) (d : Int) (hi : 0 ≤ i ∧ i ≤ 1000) (hd : d = 1 ∨ d = -1 ∧ ∀ h, s.l[(s.pl r).toNat]? = some h → ¬ h.pins = 0) :
    Tr rm (i + 1) (s.repin r d) (l ++ [o]) (done ++ [true]) ∧ Stays o s (s.repin r d) := by
  have hrf := repin_refs s r d
  have hl : (s.repin r d).l.length = s.l.length := by simpa using congrArg List.length hrf
  refine ⟨t.next o true (by unfold Ch.uniq; rw [hrf]; exact t.uniq) ?_ (by rw [hl]; exact t.len) fun y hy => ?_, fun h hh _ _ _ => ?_⟩
  · rw [← t.room]; unfold Ch.repin; split <;> rfl
  · rcases repin_mem hy with h | ⟨h, hh, hx, rfl⟩
    · have := (t.tell y h).2
      exact ⟨this.1, by omega, .inl ⟨y, h, rfl, rfl, fun _ => stepNo (by omega) (by omega) (by omega)⟩⟩
    · have h1 := (t.tell h hh).2
      have h2 : (h.pin d).pins = h.pins + d := i64_in (by rcases hd with rfl | ⟨rfl, _⟩ <;> omega)
      refine ⟨?_, ?_, .inl ⟨h, hh, rfl, rfl, fun _ => stepNo (by omega) (by omega) (by omega)⟩⟩
      · rw [h2]
        rcases hd with rfl | ⟨rfl, h3⟩
        · omega
        · have := h3 h hx; omega
      · rw [h2]; rcases hd with rfl | ⟨rfl, _⟩ <;> omega
  · have : h.ref ∈ (s.repin r d).l.map Hd.ref := by rw [hrf]; exact List.mem_map_of_mem hh
    obtain ⟨y, hy, he⟩ := List.mem_map.1 this
    exact ⟨y, hy, he⟩
theorem Tr.same {rm i : Int} {s : Ch} {l : List Op} {done : List Bool} (t : Tr rm i s l done) {o : Op} (d : Bool) (ho : d = true → 1 ≤ o.do_ ∧ o.do_ ≤ 6 ∧ o.do_ ≠ 4 ∧ o.do_ ≠ 5) : Tr rm (i + 1) s (l ++ [o]) (done ++ [d]) ∧ Stays o s s :=
  ⟨t.next o d t.uniq t.room t.len fun y hy => ⟨(t.tell y hy).2.1, by have := (t.tell y hy).2; omega, .inl ⟨y, hy, rfl, rfl, fun hd => by have := ho hd; exact stepNo (by omega) (by omega) (by omega)⟩⟩, fun h hh _ _ _ => ⟨h, hh, rfl⟩⟩
theorem Tr.pin {rm i : Int} {s : Ch} {l : List Op} {done : List Bool} (t : Tr rm i s l done) {o : Op} (ho : o.do_ = 2) (r : Rf) (hi : 0 ≤ i ∧ i ≤ 1000) : Tr rm (i + 1) (s.pin r).2 (l ++ [o]) (done ++ [true]) ∧ Stays o s (s.pin r).2 := by
  unfold Ch.pin
  split
  · exact t.same true (by omega)
  · exact t.repin (by omega) r 1 hi (.inl rfl)
theorem Tr.unpin {rm i : Int} {s : Ch} {l : List Op} {done : List Bool} (t : Tr rm i s l done) {o : Op} (ho : o.do_ = 3) (r : Rf) (hi : 0 ≤ i ∧ i ≤ 1000) : Tr rm (i + 1) (s.unpin r).2 (l ++ [o]) (done ++ [true]) ∧ Stays o s (s.unpin r).2 := by
  unfold Ch.unpin
  split
  · exact t.same true (by omega)
  · split
    · rename_i x hx
      split
      · exact t.same true (by omega)
      · rename_i h0
        exact t.repin (by omega) r (-1) hi (.inr ⟨rfl, fun h hh => by rw [hx] at hh; cases hh; exact h0⟩)
    · exact t.same true (by omega)
theorem Tr.drop {rm i : Int} {s : Ch} {l : List Op} {done : List Bool} (t : Tr rm i s l done) {o : Op} (ho : o.do_ = 4) : Tr rm (i + 1) ((refsOf o.refs).foldl Ch.drop1 (s, 0)).1 (l ++ [o]) (done ++ [true]) ∧ Stays o s ((refsOf o.refs).foldl Ch.drop1 (s, 0)).1 := by
  obtain ⟨h1, h2, h3, _, _⟩ := drops_facts (refsOf o.refs) (s, 0) t.uniq
  obtain ⟨h4, _, _, h5⟩ := drop_facts (refsOf o.refs) (s, 0)
  refine ⟨t.next o true h1 (h5.trans t.room) (by have := t.len; simp only at h4; omega) fun y hy => ?_, fun _ _ _ h => absurd ho h⟩
  have hy2 := h2 y hy
  refine ⟨(t.tell y hy2).2.1, by have := (t.tell y hy2).2; omega, .inl ⟨y, hy2, rfl, rfl, fun _ => ?_⟩⟩
  have h9 : y.ref ∉ refsOf o.refs := fun hr => h3 _ hr y hy rfl
  rw [step4 ho, decide_eq_true h9]; rfl
theorem Tr.wipe {rm i : Int} {s : Ch} {l : List Op} {done : List Bool} (t : Tr rm i s l done) (h0 : 0 ≤ rm) {o : Op} (ho : o.do_ = 5) : Tr rm (i + 1) ⟨s.room, [], s.hits, s.misses⟩ (l ++ [o]) (done ++ [true]) ∧ Stays o s ⟨s.room, [], s.hits, s.misses⟩ :=
  ⟨t.next o true (by simp [Ch.uniq]) t.room (by simpa using h0) fun y hy => by simp at hy, fun _ _ _ _ h => absurd ho h⟩
theorem Tr.put {rm i : Int} {s : Ch} {l : List Op} {done : List Bool} (t : Tr rm i s l done) {o : Op} (ho : o.do_ < 1 ∨ 6 < o.do_) (hi : 0 ≤ i) :
    Tr rm (i + 1) (s.put (ofR o.r) o.n).2 (l ++ [o]) (done ++ [decide ((s.put (ofR o.r) o.n).1 = 0)]) ∧ Stays o s (s.put (ofR o.r) o.n).2 ∧ ((s.put (ofR o.r) o.n).1 = 0 → ∃ y ∈ (s.put (ofR o.r) o.n).2.l, y.ref = ofR o.r ∧ y.node = o.n) := by
  have hu := put_uniq t.uniq (ofR o.r) o.n
  have hb := s.pl_bound (ofR o.r)
  have hlen := t.len
  have hrm := t.room
  have old : ∀ y ∈ s.l, y.ref ≠ ofR o.r → o.step y.ref (y.node, true) = (y.node, true) := fun y hy hne => stepNo (by omega) (by omega) (fun h => hne h.2.symm)
  generalize hr : ofR o.r = r at *
  by_cases h0 : s.pl r < 0
  · have hne := Ch.pl_none.1 (show s.pl r = -1 by omega)
    by_cases h1 : s.room ≤ s.l.length
    · by_cases h2 : idx (fun h : Hd => decide (h.pins = 0)) s.l 0 < 0
      · rw [put_full h0 h1 h2]
        obtain ⟨a, b⟩ := t.same (o := o) false (by simp)
        exact ⟨a, b, fun h => by simp at h⟩
      · have hib := idx_bound (p := fun h : Hd => decide (h.pins = 0)) (l := s.l) (i := 0) (by omega)
        obtain ⟨k, hk⟩ : ∃ k : Nat, idx (fun h : Hd => decide (h.pins = 0)) s.l 0 = k := ⟨(idx (fun h : Hd => decide (h.pins = 0)) s.l 0).toNat, by omega⟩
        obtain ⟨x, hx, hx0⟩ := idx_some (p := fun h : Hd => decide (h.pins = 0)) (l := s.l) (i := 0) (k := k) (by omega) (by omega)
        have hx0 : x.pins = 0 := by simpa using hx0
        have hlt : k < s.l.length := by omega
        rw [put_free (i := k) h0 h1 hk hlt] at hu ⊢
        refine ⟨t.next o true hu hrm (by simp only [List.length_append, List.length_cons, List.length_nil, List.length_eraseIdx_of_lt hlt]; omega) fun y hy => ?_, fun h hh hp _ _ => ?_, fun _ => ⟨⟨r, o.n, 0⟩, by simp, rfl, rfl⟩⟩
        · rcases List.mem_append.1 hy with hy | hy
          · have hy := (List.eraseIdx_sublist ..).subset hy
            exact ⟨(t.tell y hy).2.1, by have := (t.tell y hy).2; omega, .inl ⟨y, hy, rfl, rfl, fun _ => old y hy (hne y hy)⟩⟩
          · obtain rfl := List.mem_singleton.1 hy
            exact ⟨by simp, by simp only; omega, .inr ⟨rfl, ho, hr, rfl⟩⟩
        · refine ⟨h, List.mem_append.2 (.inl ?_), rfl⟩
          rw [List.mem_eraseIdx_iff_getElem?]
          obtain ⟨j, hj, hhj⟩ := List.mem_iff_getElem.1 hh
          refine ⟨j, fun hjk => ?_, by rw [List.getElem?_eq_getElem hj, hhj]⟩
          rw [← hjk, List.getElem?_eq_getElem hj, hhj] at hx
          cases hx; omega
    · rw [put_room h0 h1] at hu ⊢
      refine ⟨t.next o true hu hrm (by simp only [List.length_append, List.length_cons, List.length_nil]; omega) fun y hy => ?_, fun h hh hp _ _ => ⟨h, List.mem_append.2 (.inl hh), rfl⟩, fun _ => ⟨⟨r, o.n, 0⟩, by simp, rfl, rfl⟩⟩
      rcases List.mem_append.1 hy with hy | hy
      · exact ⟨(t.tell y hy).2.1, by have := (t.tell y hy).2; omega, .inl ⟨y, hy, rfl, rfl, fun _ => old y hy (hne y hy)⟩⟩
      · obtain rfl := List.mem_singleton.1 hy
        exact ⟨by simp, by simp only; omega, .inr ⟨rfl, ho, hr, rfl⟩⟩
  · obtain ⟨k, hk⟩ : ∃ k : Nat, s.pl r = k := ⟨(s.pl r).toNat, by omega⟩
    obtain ⟨x, hx, hp⟩ := idx_some (p := fun h : Hd => decide (h.ref = r)) (l := s.l) (i := 0) (k := k) (by omega) (by unfold Ch.pl at hk; omega)
    have hp : x.ref = r := by simpa using hp
    have hlt : k < s.l.length := by omega
    have e : s.put r o.n = (0, ⟨s.room, s.l.eraseIdx k ++ [⟨r, o.n, x.pins⟩], s.hits, s.misses⟩) := by
      unfold Ch.put; rw [hk, Int.toNat_natCast, hx]; exact if_pos (by omega)
    rw [e] at hu ⊢
    have hxm := List.mem_of_getElem? hx
    refine ⟨t.next o true hu hrm (by simp only [List.length_append, List.length_cons, List.length_nil, List.length_eraseIdx_of_lt hlt]; omega) fun y hy => ?_, fun h hh _ _ _ => ?_, fun _ => ⟨⟨r, o.n, x.pins⟩, by simp, rfl, rfl⟩⟩
    · rcases List.mem_append.1 hy with hy | hy
      · have hgo := erase_gone t.uniq hx y hy
        have hy := (List.eraseIdx_sublist ..).subset hy
        exact ⟨(t.tell y hy).2.1, by have := (t.tell y hy).2; omega, .inl ⟨y, hy, rfl, rfl, fun _ => old y hy (hp ▸ hgo)⟩⟩
      · obtain rfl := List.mem_singleton.1 hy
        have := (t.tell x hxm).2
        exact ⟨by simp only; omega, by simp only; omega, .inr ⟨rfl, ho, hr, rfl⟩⟩
    · by_cases hh2 : h ∈ s.l.eraseIdx k
      · exact ⟨h, List.mem_append.2 (.inl hh2), rfl⟩
      · refine ⟨⟨r, o.n, x.pins⟩, by simp, ?_⟩
        obtain ⟨j, hj, hhj⟩ := List.mem_iff_getElem.1 hh
        have : j = k := by
          apply Classical.byContradiction
          intro hjk
          exact hh2 (List.mem_eraseIdx_iff_getElem?.2 ⟨j, hjk, by rw [List.getElem?_eq_getElem hj, hhj]⟩)
        subst this
        rw [List.getElem?_eq_getElem hj, hhj] at hx
        cases hx; exact hp.symm
end Go.Proofs.Ytnkddbbcfolcdaa
