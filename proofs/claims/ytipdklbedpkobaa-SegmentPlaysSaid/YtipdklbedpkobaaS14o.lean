/-
  The log (layer 14): the places that were told and what was written there; lists compared.
-/
import Derived.Test.YtipdklbedpkobaaS14n
namespace Go.Proofs.Ytipdklbedpkobaa
set_option maxRecDepth 8000
set_option linter.unusedSimpArgs false
set_option linter.unusedVariables false
open Go Xe Go.Lib
abbrev Row14 := Pl × ByteArray
structure PlI (ss : List Sg) (md : Md) (qs : List Row14) : Prop where
  fit : fitsP (usedS ss) ss.length (qs.map Prod.fst)
  rd : ∀ q ∈ qs, q.1.len = q.2.size ∧ (md.seg q.1.seg).extract q.1.off.toNat (q.1.off + q.1.len).toNat = q.2
theorem PlI.nil (ss : List Sg) (md : Md) : PlI ss md [] := ⟨⟨by simp, .nil⟩, by simp⟩
theorem extract_pre {a b : ByteArray} {i j n : Nat} (h1 : j ≤ n) (h2 : n ≤ a.size) : (a.extract 0 n ++ b).extract i j = a.extract i j := by
  apply ByteArray.ext
  apply Array.ext
  · simp only [ByteArray.data_extract, ByteArray.data_append, Array.size_extract, Array.size_append]
    have : a.data.size = a.size := rfl
    omega
  · intro k h3 h4
    have hs : a.data.size = a.size := rfl
    simp only [ByteArray.data_extract, ByteArray.data_append, Array.getElem_extract] at h3 h4 ⊢
    simp only [Array.size_extract] at h4
    rw [Array.getElem_append_left (by simp only [Array.size_extract]; omega), Array.getElem_extract]
    simp only [Nat.zero_add]
theorem extract_new {a b : ByteArray} {n : Nat} (h : n ≤ a.size) : (a.extract 0 n ++ b).extract n (n + b.size) = b := by
  have e : (a.extract 0 n).size = n := by rw [ByteArray.size_extract]; omega
  exact ByteArray.extract_append_eq_right e.symm (by rw [e])
theorem PlI.app {size o : Int} {ss : List Sg} {md : Md} {pw : Pw} {v : ByteArray} {r : Ap} {at_ : Int} {qs : List Row14} (K : LgK size o ss md pw) (A : AppK size o ss md v r at_) (P : PlI ss md qs) : PlI r.ss r.md (qs ++ [(⟨r.o, at_, v.size⟩, v)]) := by
  have I := K.I
  have hro0 := A.K.I.o0
  have hro1 := A.K.I.o1
  have hlen := A.len
  have hl2 := I.len
  have hget := putL_get (at_ := at_) (n := v.size) I.o0 I.o1 hro0 (by omega : r.o < ss.length)
  rw [← A.hs] at hget
  have hou := I.ou
  have hb := I.ob
  have hway := A.way
  have hus := A.us
  have ha0 := A.a0
  have hvs := A.vs
  have hatl : at_ ≤ (md.seg r.o).size := by
    rcases hway with ⟨h1, h2⟩ | ⟨_, h2, _⟩
    · rw [h1, h2]; exact hou
    · rw [h2]; omega
  have hold : ∀ q ∈ qs, within (usedS r.ss) r.ss.length q.1 ∧ (q.1.seg = r.o → q.1.off + q.1.len ≤ at_) := by
    intro q hq
    have h := P.fit.1 q.1 (List.mem_map_of_mem hq)
    unfold within at h ⊢
    have hx := sgAt_some h.1 h.2.1
    have hy := sgAt_some (ss := r.ss) h.1 (by omega)
    have hk1 : (sgAt ss q.1.seg).kind ≠ 1 := fun hk => by
      have h5 := h.2.2.2.2
      unfold usedS at h5
      rw [if_pos hk] at h5
      omega
    have hu1 : usedS ss q.1.seg = (sgAt ss q.1.seg).used := by unfold usedS; rw [if_neg hk1]
    rw [hu1] at h
    rw [hget] at hy
    split at hy
    · rename_i he
      have he : q.1.seg = r.o := by omega
      have hro : r.o = o ∧ at_ = (sgAt ss o).used := by
        rcases hway with h6 | ⟨_, _, _, h7, _⟩
        · exact h6
        · rw [he] at hk1; exact absurd h7 hk1
      have hz := Option.some.inj hy
      have hu2 : usedS r.ss q.1.seg = at_ + v.size := by unfold usedS; rw [← hz]; simp
      rw [hu2]
      rw [he, hro.1] at h
      refine ⟨⟨by omega, by omega, h.2.2.1, h.2.2.2.1, by omega⟩, fun _ => by omega⟩
    · rename_i he
      refine ⟨?_, fun e => absurd e (by omega)⟩
      have hu2 : usedS r.ss q.1.seg = (sgAt ss q.1.seg).used := by
        split at hy
        · rename_i h8
          have hz := Option.some.inj hy
          have h9 : q.1.seg = o := by omega
          unfold usedS; rw [← hz, h9]; simp
        · rw [hx] at hy
          have hz := Option.some.inj hy
          unfold usedS; rw [← hz, if_neg hk1]
      rw [hu2]
      exact ⟨h.1, by omega, h.2.2.1, h.2.2.2.1, h.2.2.2.2⟩
  have hnewk : usedS r.ss r.o = at_ + v.size := by
    have hy := sgAt_some (ss := r.ss) hro0 hro1
    rw [hget, if_pos (by omega)] at hy
    unfold usedS; rw [← Option.some.inj hy]; simp
  refine ⟨⟨?_, ?_⟩, ?_⟩
  · intro p hp
    rw [List.map_append, List.mem_append] at hp
    rcases hp with hp | hp
    · obtain ⟨q, hq, rfl⟩ := List.mem_map.1 hp
      exact (hold q hq).1
    · obtain rfl : p = ⟨r.o, at_, v.size⟩ := by simpa using hp
      exact ⟨hro0, hro1, hvs, ha0, by rw [hnewk]; simp only; omega⟩
  · rw [List.map_append, List.pairwise_append]
    refine ⟨P.fit.2, by simp, ?_⟩
    intro p hp q hq
    obtain ⟨q', hq', rfl⟩ := List.mem_map.1 hp
    obtain rfl : q = ⟨r.o, at_, v.size⟩ := by simpa using hq
    intro he
    exact .inl ((hold q' hq').2 he)
  · intro q hq
    rcases List.mem_append.1 hq with hq | hq
    · obtain ⟨h1, h2⟩ := P.rd q hq
      refine ⟨h1, ?_⟩
      have h := P.fit.1 q.1 (List.mem_map_of_mem hq)
      rw [A.hm, put_seg hro0 (by omega) _ h.1]
      split
      · rename_i he
        rw [← he] at hatl ⊢
        have h3 := (hold q hq).2 he
        rw [extract_pre (by omega) (by omega)]
        exact h2
      · exact h2
    · obtain rfl : q = (⟨r.o, at_, v.size⟩, v) := by simpa using hq
      refine ⟨rfl, ?_⟩
      dsimp only
      rw [A.hm, put_seg hro0 (by omega) _ hro0, if_pos rfl, show (at_ + (v.size : Nat)).toNat = at_.toNat + v.size by omega]
      exact extract_new (by omega)
theorem fits_sub {u : Int → Int} {n : Nat} {ps qs : List Pl} (h : fitsP u n qs) (s : ps.Sublist qs) : fitsP u n ps := ⟨fun p hp => h.1 p (s.subset hp), h.2.sublist s⟩
theorem PlI.settle {ss : List Sg} {md : Md} {qs qs' : List Row14} (P : PlI ss md qs) (s : qs'.Sublist qs) : fitsP (usedS ss) ss.length (qs'.map Prod.fst) ∧ PlI (settled ss (qs'.map Prod.fst)) md qs' := by
  have h := fits_sub P.fit (s.map Prod.fst)
  exact ⟨h, settle_keeps h, fun q hq => P.rd q (s.subset hq)⟩
theorem PlI.read {size o : Int} {ss : List Sg} {md : Md} {pw : Pw} {qs : List Row14} (K : LgK size o ss md pw) (P : PlI ss md qs) {q : Row14} (hq : q ∈ qs) : md.read q.1.seg q.1.off q.1.len = (q.2, 0) ∧ kindS ss q.1.seg ≠ 1 := by
  have h := P.fit.1 q.1 (List.mem_map_of_mem hq)
  unfold within at h
  have hx := sgAt_some h.1 h.2.1
  have hk1 : (sgAt ss q.1.seg).kind ≠ 1 := fun hk => by
    have h5 := h.2.2.2.2
    unfold usedS at h5
    rw [if_pos hk] at h5
    omega
  have hu1 : usedS ss q.1.seg = (sgAt ss q.1.seg).used := by unfold usedS; rw [if_neg hk1]
  have hfu := K.fu _ _ hx hk1
  rw [show ((q.1.seg.toNat : Nat) : Int) = q.1.seg by omega] at hfu
  rw [hu1] at h
  have hl := K.I.len
  refine ⟨?_, ?_⟩
  · unfold Md.read
    rw [if_pos ⟨h.1, by omega⟩, if_neg (by omega), (P.rd q hq).2]
  · unfold kindS
    rw [if_pos ⟨h.1, h.2.1⟩]
    exact hk1
/-- All but each whose number is d modulo 3. -/
def thin {α : Type} (d : Int) : List α → Int → List α
  | [], _ => []
  | x :: xs, k => if k % 3 ≠ d then x :: thin d xs (k + 1) else thin d xs (k + 1)
theorem thin_snoc {α : Type} (d : Int) (x : α) : ∀ (xs : List α) (k : Int), thin d (xs ++ [x]) k = thin d xs k ++ (if (k + xs.length) % 3 ≠ d then [x] else [])
  | [], k => by simp only [List.nil_append, thin, List.length_nil, Int.natCast_zero, Int.add_zero]
  | y :: xs, k => by
    have e : k + 1 + (xs.length : Int) = k + ((y :: xs).length : Nat) := by simp only [List.length_cons]; omega
    simp only [List.cons_append, thin]
    split <;> rw [thin_snoc d x xs (k + 1), e] <;> rfl
theorem thin_sub {α : Type} (d : Int) : ∀ (xs : List α) (k : Int), (thin d xs k).Sublist xs
  | [], _ => List.nil_sublist _
  | x :: xs, k => by
    simp only [thin]
    split
    · exact (thin_sub d xs (k + 1)).cons_cons x
    · exact (thin_sub d xs (k + 1)).cons x
theorem srcA_own {E : Env} {w : World} {L : List As} {v : Value} {ps : List Pl} {n : Nat} (hn : n = ps.length) (hb : n * 24 ≤ 140737488355328) (hw : Sat E w (OwnSl 58 3 v n (ps.flatMap Pl.cells) :: L)) : SrcA (OwnSl 58 3 v n (ps.flatMap Pl.cells)) v ps := by
  subst hn
  obtain ⟨a, c, rfl, _, _, ha⟩ := hw.own_shape
  refine ⟨a, c, rfl, hb, fun i x hx => ?_⟩
  have hi := (List.getElem?_eq_some_iff.1 hx).1
  obtain ⟨g, rfl⟩ := ha (by omega)
  refine ⟨g, 0, rfl, fun E w L hw => ?_⟩
  exact own_cells hw (.here _) (subAt_flat (f := Pl.cells) (sz := 3) (fun _ => rfl) hx)
theorem ord_f29_r6_S14o : orderOfB Try.f29 6 [] (.a 0 (.a 1 (.a 2 (.a 4 (.a 5 (.a 6 (.v 3 (.k 7 (.k 8 .done))))))))) = true := by kernel_rfl
set_option maxHeartbeats 1000000 in
theorem same_calls {E : Env} {w : World} {L : List As} {v1 v2 : Value} {xs ys : List Int} (hw : Sat E w (OwnSl 3 1 v1 xs.length (xs.map (Value.int .i64)) :: OwnSl 3 1 v2 ys.length (ys.map (Value.int .i64)) :: L)) :
    Calls Try.prog 29 #[v1, v2] w fun e w' => e = .returned (.bool (decide (xs = ys))) ∧ Sat E w' (OwnSl 3 1 v1 xs.length (xs.map (Value.int .i64)) :: OwnSl 3 1 v2 ys.length (ys.map (Value.int .i64)) :: L) := by
  obtain ⟨a1, c1, rfl, hc1, hm1, ha1⟩ := hw.own_shape
  obtain ⟨a2, c2, rfl, hc2, hm2, ha2⟩ := (hw.pick .at1).own_shape
  simp only [maxLen] at hm1 hm2
  refine calls_of_g (n := 26) Try.func29 rfl rfl rfl ?_
  change G _ _ _ _ _ [(0, _), (1, _)] _
  refine g_seq ?_
  refine g_region ?_
  refine xV rfl rfl rfl (v_assign rfl) ?_
  refine rl_nil (g_le (xK (Fr.le_refl _)) ?_)
  refine g_seq (g_seq ?_)
  refine g_region ?_
  refine xV rfl rfl rfl (v_move rfl) ?_
  refine xV rfl rfl rfl (v_lenSlice T.sl_61_3_1 rfl) ?_
  refine xV rfl rfl rfl (v_move rfl) ?_
  refine xV rfl rfl rfl (v_lenSlice T.sl_61_3_1 rfl) ?_
  refine xV rfl rfl rfl (v_neq rfl rfl) ?_
  refine rl_nil (g_le (xK (xS rfl (xS rfl (xS rfl (xS rfl (Fr.le_refl _)))))) ?_)
  refine g_cond rfl (fun h1 => ?_) (fun h1 => ?_)
  · try with_reducible exact ft_elim h1
    all_goals
      try replace h1 := of_decide_eq_true h1
      refine g_seq ?_
      refine g_region ?_
      refine xV rfl rfl rfl (v_assign rfl) ?_
      refine rl_nil (g_le (xK (Fr.le_refl _)) ?_)
      refine g_ret1 Try.func29 rfl rfl ?_
      rw [decide_eq_false (fun h => by rw [h] at h1; omega)]
      exact ⟨rfl, hw⟩
  · try with_reducible exact tf_elim h1
    all_goals
      try replace h1 := of_decide_eq_false h1
      refine g_skip (g_seq (g_seq ?_))
      refine g_region ?_
      refine xV rfl rfl rfl (v_assign rfl) ?_
      refine rl_nil (g_le (xK (Fr.le_refl _)) ?_)
      refine g_block ?_
      refine g_loopC (σ := Nat) (fun C x => (5, .int .i64 (x : Nat)) :: C) [(0, _), (1, _), (4, _)] (by repeat (first | exact Fr.le_nil _ | refine Fr.le_cons rfl ?_)) (fun z w => z ≤ xs.length ∧ xs.take z = ys.take z ∧ Sat E w (OwnSl 3 1 (.slice a1 xs.length c1) xs.length (xs.map (Value.int .i64)) :: OwnSl 3 1 (.slice a2 ys.length c2) ys.length (ys.map (Value.int .i64)) :: L)) (fun z => xs.length - z) ?_ 0 (by repeat (first | exact Fr.le_nil _ | refine Fr.le_cons rfl ?_)) ⟨by simp, by simp, hw⟩
      rintro i w ⟨hi, heq, hw⟩ ih
      refine g_seq (g_seq ?_)
      refine g_region ?_
      refine xV rfl rfl rfl (v_move rfl) ?_
      refine xV rfl rfl rfl (v_move rfl) ?_
      refine xV rfl rfl rfl (v_lenSlice T.sl_61_3_1 rfl) ?_
      refine xV rfl rfl rfl (v_lss rfl rfl) ?_
      refine rl_nil (g_le (xK (xK (xK (xK (Fr.le_refl _))))) ?_)
      refine g_cond rfl (fun h2 => ?_) (fun h2 => ?_)
      · try with_reducible exact ft_elim h2
        all_goals
          try replace h2 := of_decide_eq_true h2
          refine g_skip (g_seq (g_block (g_seq ?_)))
          have hlt : i < xs.length := by omega
          have hx : xs[i]? = some xs[i] := List.getElem?_eq_getElem hlt
          obtain ⟨y, hy⟩ : ∃ y, ys[i]? = some y := ⟨_, List.getElem?_eq_getElem (by omega)⟩
          generalize xs[i] = x at hx
          obtain ⟨g1, rfl⟩ := ha1 (by omega)
          obtain ⟨g2, rfl⟩ := ha2 (by omega)
          have hc1 : (xs.map (Value.int .i64))[0 + (i : Int).toNat * 1]? = some (.int .i64 x) := by rw [show 0 + (i : Int).toNat * 1 = i by omega, List.getElem?_map, hx]; rfl
          have hc2 : (ys.map (Value.int .i64))[0 + (i : Int).toNat * 1]? = some (.int .i64 y) := by rw [show 0 + (i : Int).toNat * 1 = i by omega, List.getElem?_map, hy]; rfl
          refine g_drawR ord_f29_r6_S14o (by kernel_rfl) T.mixed hw (fun w hw => ?_)
          refine rs_a 0 rfl rfl rfl rfl (v_move rfl) ?_
          refine rs_a 1 rfl rfl rfl rfl (v_move rfl) ?_
          refine rs_a 2 rfl rfl rfl rfl (v_indexAddr T.sl_61_3_1 rfl rfl (by omega) (by omega)) ?_
          refine rs_a 4 rfl rfl rfl rfl (v_move rfl) ?_
          refine rs_a 5 rfl rfl rfl rfl (v_move rfl) ?_
          refine rs_a 6 rfl rfl rfl rfl (v_indexAddr T.sl_61_3_1 rfl rfl (by omega) (by omega)) ?_
          refine rs_v 3 rfl rfl rfl rfl (OpV.mono (v_load T.scal_3 rfl) (fun w hw => by exact own_cell hw (by (repeat first | with_reducible exact xH | apply xT); first | done | fail) (by first | rfl | assumption))) (by exact hw) ?_
          refine rs_kv 7 rfl rfl rfl rfl (by exact own_cell hw (by (repeat first | with_reducible exact xH | apply xT); first | done | fail) (by first | rfl | assumption)) (v_load T.scal_3 rfl) ?_
          refine rs_kv 8 rfl rfl rfl rfl (S' := fun _ => True) trivial (v_neq rfl rfl) ?_
          refine rs_done (g_le (xK (xK (xK (xK (xK (xK (xK (xK (xK (Fr.le_refl _)))))))))) ?_)
          refine g_cond rfl (fun h3 => ?_) (fun h3 => ?_)
          · try with_reducible exact ft_elim h3
            all_goals
              try replace h3 := of_decide_eq_true h3
              refine g_seq ?_
              refine g_region ?_
              refine xV rfl rfl rfl (v_assign rfl) ?_
              refine rl_nil (g_le (xK (Fr.le_refl _)) ?_)
              refine g_ret1 Try.func29 rfl rfl ?_
              rw [decide_eq_false (fun h => by rw [h, hy] at hx; exact h3 (Option.some.inj hx).symm)]
              exact ⟨rfl, hw⟩
          · try with_reducible exact tf_elim h3
            all_goals
              try replace h3 := of_decide_eq_false h3
              refine g_skip (g_inBlock ?_)
              refine g_region ?_
              refine xV rfl rfl rfl (v_move rfl) ?_
              refine xV rfl rfl rfl (v_add rfl rfl (by omega)) ?_
              refine xV rfl rfl rfl (v_assign rfl) ?_
              refine rl_nil (g_le (xK (xK (xK (Fr.le_refl _)))) ?_)
              refine g_le (by repeat (first | exact Fr.le_nil _ | refine Fr.le_cons rfl ?_)) (ih (i + 1) w ⟨by omega, ?_, hw⟩ (by omega))
              rw [List.take_add_one, List.take_add_one, heq, hx, hy, Decidable.not_not.1 h3]
      · try with_reducible exact tf_elim h2
        all_goals
          try replace h2 := of_decide_eq_false h2
          refine g_exit rfl (g_seq ?_)
          refine g_region ?_
          refine xV rfl rfl rfl (v_assign rfl) ?_
          refine rl_nil (g_le (xK (Fr.le_refl _)) ?_)
          refine g_ret1 Try.func29 rfl rfl ?_
          rw [decide_eq_true (by rw [← List.take_length (l := xs), ← List.take_length (l := ys), show ys.length = xs.length by omega, show xs.length = i by omega]; exact heq)]
          exact ⟨rfl, hw⟩
end Go.Proofs.Ytipdklbedpkobaa
