/-
  CellShares: a medium and a cell that share one power.
-/
import Derived.Test.YtdebodbkggbjeaaC13L
import Derived.Test.YtdebodbkggbjeaaM12L
import Derived.Test.YtdebodbkggbjeaaRows
namespace Go.Proofs.Ytdebodbkggbjeaa
set_option linter.unusedSimpArgs false
set_option linter.unusedVariables false
open Go Xe Go.Lib Go.RowKit Go.ChangeShapes Go.WideShapes Go.ChangeAt

/-- A power that is cut after n writes, when k are done. -/
def Pk (n k : Int) : Pw := ⟨decide (n - k = 0), n - k, k⟩
theorem Pk_on {n k : Int} (h0 : 0 ≤ k) (h : k < n) (hn : n ≤ 60) : (Pk n k).spend = (0, Pk n (k + 1)) := by
  have w1 : IntKind.i64.wrap (k + 1) = k + 1 := i64_in (by omega)
  have h1 : ¬ (n - k = 0) := by omega
  have h2 : 0 < n - k := by omega
  have h3 : n - (k + 1) = n - k - 1 := by omega
  simp [Pw.spend, Pk, w1, h1, h2, h3]
  intro h4
  omega
theorem Pk_off {n k : Int} (h : k = n) : (Pk n k).spend = (110, Pk n k) := by
  have h1 : n - k = 0 := by omega
  simp [Pw.spend, Pk, h1]
theorem Pk_on_eq {n k : Int} (h : k ≤ n) : (!(Pk n k).off) = decide (k < n) := by
  simp only [Pk]
  by_cases hlt : k < n
  · rw [decide_eq_true hlt, decide_eq_false (by omega)]; rfl
  · rw [decide_eq_false hlt, decide_eq_true (by omega)]; rfl
theorem Pk_ok {n k : Int} (h0 : 0 ≤ k) (h : k ≤ n) (hn : n ≤ 60) : (Pk n k).ok := ⟨by simp only [Pk]; omega, by simp only [Pk]; omega, i64_in (by simp only [Pk]; omega)⟩
/-- What all three do. -/
theorem share_w {s : Md} {n k : Int} {v : ByteArray} (hs : s.size = 1000) (hl : s.segs.length = 1) (hv : v.size = 1) :
    (∀ h : (Pk n k).spend = (0, Pk n (k + 1)), ∃ s', s.write (Pk n k) 0 0 v = (0, s', Pk n (k + 1)) ∧ s'.size = 1000 ∧ s'.segs.length = 1 ∧ s'.past.length = s.past.length + 1) ∧
    (∀ h : (Pk n k).spend = (110, Pk n k), s.write (Pk n k) 0 0 v = (110, s, Pk n k)) := by
  have h0 : s.is 0 := ⟨by omega, by omega⟩
  refine ⟨fun h => ⟨s.put 0 0 v, ?_, hs, by simp [Md.put, hl], by simp [Md.put]⟩, fun h => ?_⟩
  · unfold Md.write
    rw [h, if_pos h0, if_neg (by omega), if_neg (by omega)]
    rfl
  · unfold Md.write
    rw [h, if_pos h0, if_neg (by omega), if_neg (by omega)]
    rfl
theorem share_set {c : Cs} {n k i : Int} {v : ByteArray} (hi : i = 0 ∨ i = 1) (h0 : c.get i = nil) (hv : ¬ v = nil) (hv2 : v.size = 1) (hn : 0 ≤ c.n ∧ c.n ≤ 60) :
    (∀ h : (Pk n k).spend = (0, Pk n (k + 1)), ∃ c', c.set (Pk n k) i v = (0, c', Pk n (k + 1)) ∧ c'.n = c.n + 1) ∧
    (∀ h : (Pk n k).spend = (110, Pk n k), c.set (Pk n k) i v = (110, c, Pk n k)) := by
  have w1 : IntKind.i64.wrap (c.n + 1) = c.n + 1 := i64_in (by omega)
  rw [Cs.set_lay hi h0 hv (by omega)]
  refine ⟨fun h => ⟨c.put i v, ?_, ?_⟩, fun h => ?_⟩
  · unfold Cs.lay; rw [h]; rfl
  · unfold Cs.put; split <;> exact w1
  · unfold Cs.lay; rw [h]; rfl
theorem share_erase {c : Cs} {n k i : Int} (hi : i = 0 ∨ i = 1) (h0 : ¬ c.get i = nil) (hn : 0 ≤ c.n ∧ c.n ≤ 60) :
    (∀ h : (Pk n k).spend = (0, Pk n (k + 1)), ∃ c', c.erase (Pk n k) i = (0, c', Pk n (k + 1)) ∧ c'.n = c.n + 1) ∧
    (∀ h : (Pk n k).spend = (110, Pk n k), c.erase (Pk n k) i = (110, c, Pk n k)) := by
  have w1 : IntKind.i64.wrap (c.n + 1) = c.n + 1 := i64_in (by omega)
  rw [Cs.erase_lay hi h0]
  refine ⟨fun h => ⟨c.put i nil, ?_, ?_⟩, fun h => ?_⟩
  · unfold Cs.lay; rw [h]; rfl
  · unfold Cs.put; split <;> exact w1
  · unfold Cs.lay; rw [h]; rfl
theorem set_eq {E : Env} {w : World} {L : List As} (c p : Nat) (s s' : Cs) (pw pw' : Pw) (i e : Int) (v : ByteArray) (hok : pw.ok) (h : s.set pw i v = (e, s', pw')) (hw : Sat E w (CellAt c p s :: PwAt p pw :: L)) :
    Calls Try.prog 38 #[.pointer (some ⟨c, 0, none⟩), .int .i64 i, .string v] w
      fun r w' => r = .returned (.int .i64 e) ∧ Sat E w' (CellAt c p s' :: PwAt p pw' :: L) := by
  have := set_calls c p s pw i v hok hw
  rwa [h] at this
theorem erase_eq {E : Env} {w : World} {L : List As} (c p : Nat) (s s' : Cs) (pw pw' : Pw) (i e : Int) (hok : pw.ok) (h : s.erase pw i = (e, s', pw')) (hw : Sat E w (CellAt c p s :: PwAt p pw :: L)) :
    Calls Try.prog 36 #[.pointer (some ⟨c, 0, none⟩), .int .i64 i] w
      fun r w' => r = .returned (.int .i64 e) ∧ Sat E w' (CellAt c p s' :: PwAt p pw' :: L) := by
  have := erase_calls c p s pw i hok hw
  rwa [h] at this

/-- What a spent write, or one refused for want of power, leaves. -/
def Goes (e k k' : Int) : Prop := (e = 0 ∧ k' = k + 1) ∨ (e = 110 ∧ k' = k)
theorem goes_w {s : Md} {n k k' e : Int} {v : ByteArray} (hg : Goes e k k') (hsp : (Pk n k).spend = (e, Pk n k')) (hs : s.size = 1000) (hl : s.segs.length = 1) (hv : v.size = 1) :
    ∃ s', s.write (Pk n k) 0 0 v = (e, s', Pk n k') ∧ s'.size = 1000 ∧ s'.segs.length = 1 ∧ (s'.past.length : Int) - s.past.length = k' - k := by
  rcases hg with ⟨rfl, rfl⟩ | ⟨rfl, rfl⟩
  · obtain ⟨s', h1, h2, h3, h4⟩ := (share_w (v := v) hs hl hv).1 hsp
    exact ⟨s', h1, h2, h3, by omega⟩
  · exact ⟨s, (share_w (v := v) hs hl hv).2 hsp, hs, hl, by omega⟩
theorem goes_set {c : Cs} {n k k' e i : Int} {v : ByteArray} (hg : Goes e k k') (hsp : (Pk n k).spend = (e, Pk n k')) (hi : i = 0 ∨ i = 1) (h0 : c.get i = nil) (hv : ¬ v = nil) (hv2 : v.size = 1) (hn : 0 ≤ c.n ∧ c.n ≤ 60) :
    ∃ c', c.set (Pk n k) i v = (e, c', Pk n k') ∧ c'.n - c.n = k' - k := by
  rcases hg with ⟨rfl, rfl⟩ | ⟨rfl, rfl⟩
  · obtain ⟨s', h1, h2⟩ := (share_set (v := v) hi h0 hv hv2 hn).1 hsp
    exact ⟨s', h1, by omega⟩
  · exact ⟨c, (share_set (v := v) hi h0 hv hv2 hn).2 hsp, by omega⟩
theorem goes_erase {c : Cs} {n k k' e i : Int} (hg : Goes e k k') (hsp : (Pk n k).spend = (e, Pk n k')) (hi : i = 0 ∨ i = 1) (h0 : ¬ c.get i = nil) (hn : 0 ≤ c.n ∧ c.n ≤ 60) :
    ∃ c', c.erase (Pk n k) i = (e, c', Pk n k') ∧ c'.n - c.n = k' - k := by
  rcases hg with ⟨rfl, rfl⟩ | ⟨rfl, rfl⟩
  · obtain ⟨s', h1, h2⟩ := (share_erase hi h0 hn).1 hsp
    exact ⟨s', h1, by omega⟩
  · exact ⟨c, (share_erase hi h0 hn).2 hsp, by omega⟩

/-- Element i of a row of ints. -/
theorem ints_at {w : World} {a : Option Addr} {len cap : Nat} {xs : List Int} (h : rdArg (rdSl 8 1 (rdInt .i64)) w (.slice a len cap) xs) (i : Int) (h0 : 0 ≤ i) (h1 : i < len) :
    ∃ b o x, a = some ⟨b, o, none⟩ ∧ w.cell? ⟨b, o + i.toNat * 1, none⟩ = some (.int .i64 x) := by
  obtain ⟨_, _, _, hat⟩ := rdSl_at h
  obtain ⟨b, o, x, ecs, rfl, _, h2, _, ⟨rfl, _⟩, _⟩ := hat i h0 h1
  exact ⟨b, o, x, rfl, h2.1⟩
theorem goes_set2 {c : Cs} {n k k' e i : Int} {v : ByteArray} (hg : Goes e k k') (hsp : (Pk n k).spend = (e, Pk n k')) (hi : i = 0 ∨ i = 1) (hv : ¬ v = nil) (hv2 : v.size = 1) (hn : 0 ≤ c.n ∧ c.n ≤ 60) :
    ∃ e1 c1 k1, c.set (Pk n k) i v = (e1, c1, Pk n k1) ∧ ((e1 = 131 ∧ c = c1 ∧ k = k1 ∧ ¬ c.get i = nil) ∨ (¬ e1 = 131 ∧ e = e1 ∧ k' = k1 ∧ c1.n - c.n = k' - k)) := by
  by_cases h0 : c.get i = nil
  · obtain ⟨c1, h1, h2⟩ := goes_set hg hsp hi h0 hv hv2 hn
    exact ⟨e, c1, k', h1, .inr ⟨by rcases hg with ⟨rfl, _⟩ | ⟨rfl, _⟩ <;> decide, rfl, rfl, h2⟩⟩
  · exact ⟨131, c, k, Cs.set_131 hi h0, .inl ⟨rfl, rfl, rfl, h0⟩⟩
theorem goes_ex {n k : Int} (h0 : 0 ≤ k) (h : k ≤ n) (hn : n ≤ 60) : ∃ e k', Goes e k k' ∧ (Pk n k).spend = (e, Pk n k') ∧ k' ≤ n ∧ k ≤ k' := by
  by_cases hlt : k < n
  · exact ⟨0, k + 1, .inl ⟨rfl, rfl⟩, Pk_on h0 hlt hn, by omega, by omega⟩
  · exact ⟨110, k, .inr ⟨rfl, rfl⟩, Pk_off (by omega), h, by omega⟩
set_option maxHeartbeats 4000000 in
theorem CellShares_law {w : World} {a : Option Addr} {len cap : Nat} {cut : Int} {xs : List Int} (hr : rdArg (rdSl 8 1 (rdInt .i64)) w (.slice a len cap) xs) (hcw : (Lit.int .i64 cut).wf = true) :
    Law Try.prog 9 [.slice a len cap, .int .i64 cut] w := by
  unfold Law
  have hw := Sat.old w
  generalize w = W at hr hw ⊢
  obtain ⟨_, hcap, hlc, _⟩ := rdSl_at hr
  have hmax : (len : Int) ≤ 140737488351232 := by unfold reachBytes at hcap; omega
  refine calls_of_g (n := 144) Try.func9 rfl rfl rfl ?_
  change G _ _ _ _ _ [(0, _), (1, _)] _
  refine g_seq ?_
  refine g_region ?_
  refine rl_v rfl rfl rfl (S := fun _ => True) trivial (v_assign rfl) ?_
  refine rl_nil (g_le (Fr.le_keep (Fr.le_refl _)) ?_)
  refine g_seq ?_
  refine g_region ?_
  refine rl_k rfl (k_callf Try.func12 rfl rfl rfl rfl ?_)
  refine Calls.mono (new_calls hw) ?_
  rintro _ w ⟨p, rfl, hw⟩
  refine ⟨_, rfl, ?_⟩
  refine rl_v rfl rfl rfl (S := fun _ => True) trivial (v_assign rfl) ?_
  refine rl_nil (g_le (Fr.le_keep (Fr.le_skip rfl (Fr.le_refl _))) ?_)
  refine g_seq ?_
  refine g_region ?_
  refine rl_v rfl rfl rfl (S := fun _ => True) trivial (v_move rfl) ?_
  refine rl_k rfl (k_callf Try.func25 rfl rfl rfl rfl ?_)
  refine Calls.mono (mnew_calls p 1 1000 (by omega) (by omega) (by omega) (by omega) hw) ?_
  rintro _ w ⟨m, rfl, hw⟩
  refine ⟨_, rfl, ?_⟩
  refine rl_v rfl rfl rfl (S := fun _ => True) trivial (v_move rfl) ?_
  refine rl_v rfl rfl rfl (S := fun _ => True) trivial (v_extract rfl rfl) ?_
  refine rl_v rfl rfl rfl (S := fun _ => True) trivial (v_extract rfl rfl) ?_
  refine rl_v rfl rfl rfl (S := fun _ => True) trivial (v_assign rfl) ?_
  refine rl_v rfl rfl rfl (S := fun _ => True) trivial (v_assign rfl) ?_
  refine rl_nil (g_le (Fr.le_keep (Fr.le_keep (Fr.le_skip rfl (Fr.le_skip rfl (Fr.le_skip rfl (Fr.le_skip rfl (Fr.le_skip rfl (Fr.le_refl _)))))))) ?_)
  refine g_seq ?_
  refine g_region ?_
  refine rl_v rfl rfl rfl (S := fun _ => True) trivial (v_move rfl) ?_
  refine rl_k rfl (k_callf Try.func33 rfl rfl rfl rfl ?_)
  refine Calls.mono (cnew_calls p hw) ?_
  rintro _ w ⟨c, rfl, hw⟩
  refine ⟨_, rfl, ?_⟩
  refine rl_v rfl rfl rfl (S := fun _ => True) trivial (v_assign rfl) ?_
  refine rl_nil (g_le (Fr.le_keep (Fr.le_skip rfl (Fr.le_skip rfl (Fr.le_refl _)))) ?_)
  refine g_seq (g_seq ?_)
  refine g_region ?_
  refine rl_v rfl rfl rfl (S := fun _ => True) trivial (v_move rfl) ?_
  first | (refine rl_v rfl rfl rfl (S := fun _ => True) trivial (v_neqT rfl rfl (by omega)) ?_) | (refine rl_v rfl rfl rfl (S := fun _ => True) trivial (v_neqF rfl rfl (by first | omega | rfl)) ?_) | (refine rl_v rfl rfl rfl (S := fun _ => True) trivial (v_neq rfl rfl) ?_)
  refine rl_v rfl rfl rfl (S := fun _ => True) trivial (v_move rfl) ?_
  first | (refine rl_vg (met_on rfl rfl rfl rfl) rfl rfl (S := fun _ => True) trivial (v_move rfl) ?_) | (refine rl_off (by first | exact met_off rfl rfl rfl rfl rfl | exact met_gone rfl rfl rfl rfl) rfl rfl ?_)
  first | (refine rl_vg (met_on rfl rfl rfl rfl) rfl rfl (S := fun _ => True) trivial (v_eqlNil T.ptr_42 rfl rfl) ?_) | (refine rl_off (by first | exact met_off rfl rfl rfl rfl rfl | exact met_gone rfl rfl rfl rfl) rfl rfl ?_)
  first | (refine rl_v rfl rfl rfl (S := fun _ => True) trivial (v_pick_true rfl rfl) ?_) | (refine rl_v rfl rfl rfl (S := fun _ => True) trivial (v_pick_false rfl rfl) ?_) | (refine rl_v rfl rfl rfl (S := fun _ => True) trivial (v_pick rfl rfl rfl) ?_)
  refine rl_v rfl rfl rfl (S := fun _ => True) trivial (v_move rfl) ?_
  first | (refine rl_vg (met_on rfl rfl rfl rfl) rfl rfl (S := fun _ => True) trivial (v_move rfl) ?_) | (refine rl_off (by first | exact met_off rfl rfl rfl rfl rfl | exact met_gone rfl rfl rfl rfl) rfl rfl ?_)
  first | (refine rl_vg (met_on rfl rfl rfl rfl) rfl rfl (S := fun _ => True) trivial (v_eqlNil T.ptr_63 rfl rfl) ?_) | (refine rl_off (by first | exact met_off rfl rfl rfl rfl rfl | exact met_gone rfl rfl rfl rfl) rfl rfl ?_)
  first | (refine rl_v rfl rfl rfl (S := fun _ => True) trivial (v_pick_true rfl rfl) ?_) | (refine rl_v rfl rfl rfl (S := fun _ => True) trivial (v_pick_false rfl rfl) ?_) | (refine rl_v rfl rfl rfl (S := fun _ => True) trivial (v_pick rfl rfl rfl) ?_)
  refine rl_nil (g_le (Fr.le_keep (Fr.le_skip rfl (Fr.le_skip rfl (Fr.le_skip rfl (Fr.le_skip rfl (Fr.le_skip rfl (Fr.le_skip rfl (Fr.le_skip rfl (Fr.le_skip rfl (Fr.le_skip rfl (Fr.le_refl _))))))))))) ?_)
  refine g_cond_false rfl ?_
  refine g_skip (g_seq (g_seq ?_))
  refine g_cutc2 (σ := Int) (fun C x => (1, .int .i64 x) :: C) [(0, _), (4, _), (5, _), (6, _), (8, _)] (by repeat (first | exact Fr.le_nil _ | refine Fr.le_cons rfl ?_)) (fun x w => 0 ≤ x ∧ x ≤ 60 ∧ Sat (envOf W) w [CellAt c p ⟨nil, nil, 0⟩, MdAt m p ⟨1000, List.replicate (1 : Int).toNat ByteArray.empty, [], 0⟩, PwAt p ⟨false, 0, 0⟩, Old W]) ?_ ?_
  · skip
    rintro n w ⟨hn0, hb, hw⟩
    all_goals
      refine g_seq ?_
      refine g_region ?_
      refine rl_v rfl rfl rfl (S := fun _ => True) trivial (v_move rfl) ?_
      refine rl_v rfl rfl rfl (S := fun _ => True) trivial (v_move rfl) ?_
      refine rl_k rfl (k_callf Try.func19 rfl rfl rfl rfl ?_)
      refine Calls.mono (cut_calls p _ _ (hw.pick (by (repeat (first | with_reducible exact Pick.here _ | apply Pick.there)); first | done | fail))) ?_
      rintro _ w ⟨rfl, hw⟩
      refine ⟨_, rfl, ?_⟩
      refine rl_nil (g_le (Fr.le_skip rfl (Fr.le_skip rfl (Fr.le_skip rfl (Fr.le_refl _)))) ?_)
      generalize hs0 : (⟨1000, List.replicate (1 : Int).toNat ByteArray.empty, [], 0⟩ : Md) = s0 at hw
      have hl0 : s0.segs.length = 1 := by rw [← hs0]; simp
      have hz0 : s0.size = 1000 := by rw [← hs0]
      have hk0 : s0.past.length = 0 := by rw [← hs0]; simp
      have e0 : Pw.cut ⟨false, 0, 0⟩ n = Pk n ((s0.past.length : Int) + 0) := by
        simp [Pw.cut, Pk, hk0]; omega
      rw [e0] at hw
      refine g_seq (g_seq ?_)
      refine g_region ?_
      refine rl_v rfl rfl rfl (S := fun _ => True) trivial (v_move rfl) ?_
      refine rl_v rfl rfl rfl (S := fun _ => True) trivial (v_lenSlice T.sl_74_3_1 rfl) ?_
      refine rl_v rfl rfl rfl (S := fun _ => True) trivial (v_move rfl) ?_
      refine rl_nil (g_le (Fr.le_keep (Fr.le_keep (Fr.le_keep (Fr.le_refl _)))) ?_)
      refine g_block ?_
      refine g_loop (σ := Int × Md × Cs) (fun x => [(43, .int .i64 x.1), (1, _), (4, _), (5, _), (6, _), (8, _), (41, _), (42, _)]) (fun x w => 0 ≤ x.1 ∧ x.1 ≤ len ∧ x.2.1.segs.length = 1 ∧ x.2.1.size = 1000 ∧ 0 ≤ x.2.2.n ∧ x.2.1.past.length + x.2.2.n ≤ n ∧ Sat (envOf W) w [MdAt m p x.2.1, CellAt c p x.2.2, PwAt p (Pk n (x.2.1.past.length + x.2.2.n)), Old W]) (fun x => (len - x.1).toNat) ?_ (0, s0, ⟨nil, nil, 0⟩) (by repeat (first | exact Fr.le_nil _ | refine Fr.le_cons rfl ?_)) ⟨by simp, by simp, hl0, hz0, by simp, by simp [hk0]; omega, by dsimp only; exact hw.sub (by (repeat (first | with_reducible exact Sub.refl _ | exact Sub.nil _ | (apply Sub.cons; focus ((repeat (first | with_reducible exact Pick.here _ | apply Pick.there)); (first | done | fail))) | with_reducible apply Sub.drop)); first | done | fail)⟩
      rintro ⟨i, s, t⟩ w ⟨hi0, hi1, hl, hz, ht, hk, hw⟩ ih
      dsimp only at hi0 hi1 hl hz ht hk hw ⊢
      generalize hkk : (s.past.length : Int) + t.n = k at hk hw
      have hk0 : 0 ≤ k := by omega
      have hkok := Pk_ok hk0 hk hb
      have htn : 0 ≤ t.n ∧ t.n ≤ 60 := ⟨ht, by omega⟩
      obtain ⟨e, k', hg, hsp, hkn, hkk'⟩ := goes_ex hk0 hk hb
      generalize hon : (!(Pk n k).off) = on
      refine g_seq ?_
      refine g_region ?_
      first | (refine rl_v rfl rfl rfl (S := fun _ => True) trivial (v_lssT rfl rfl (by omega)) ?_) | (refine rl_v rfl rfl rfl (S := fun _ => True) trivial (v_lssF rfl rfl (by omega)) ?_) | (refine rl_v rfl rfl rfl (S := fun _ => True) trivial (v_lss rfl rfl) ?_)
      refine rl_nil (g_le (Fr.le_keep (Fr.le_refl _)) ?_)
      refine g_seq ?_
      refine g_cond rfl (fun h3 => ?_) (fun h3 => ?_)
      · try with_reducible exact ft_elim h3
        all_goals
          try replace h3 := of_decide_eq_true h3
          refine g_skip (g_seq (g_block (g_seq ?_)))
          have hx := hw
          obtain ⟨b, o, x, rfl, hat⟩ := ints_at hr i hi0 h3
          have hw := hx
          refine g_region ?_
          refine rl_v rfl rfl rfl (S := fun _ => True) trivial (v_move rfl) ?_
          refine rl_v rfl rfl rfl (S := fun _ => True) trivial (v_indexAddr T.sl_74_3_1 rfl rfl (by omega) (by omega)) ?_
          refine rl_v rfl rfl rfl (by first | exact sat_cell hw (by (repeat (first | with_reducible exact Pick.here _ | apply Pick.there)); first | done | fail) rfl | exact own_cell hw (by (repeat (first | with_reducible exact Pick.here _ | apply Pick.there)); first | done | fail) (by first | rfl | assumption) | exact old_cell hw (by (repeat (first | with_reducible exact Pick.here _ | apply Pick.there)); first | done | fail) (by assumption) | assumption) (v_load T.scal_3 rfl) ?_
          refine rl_v rfl rfl rfl (S := fun _ => True) trivial (v_assign rfl) ?_
          refine rl_v rfl rfl rfl (S := fun _ => True) trivial (v_assign rfl) ?_
          refine rl_nil (g_le (Fr.le_keep (Fr.le_keep (Fr.le_keep (Fr.le_keep (Fr.le_keep (Fr.le_refl _)))))) ?_)
          refine g_seq (g_seq ?_)
          refine g_region ?_
          refine rl_v rfl rfl rfl (S := fun _ => True) trivial (v_move rfl) ?_
          first | (refine rl_v rfl rfl rfl (S := fun _ => True) trivial (v_geqT rfl rfl (by omega)) ?_) | (refine rl_v rfl rfl rfl (S := fun _ => True) trivial (v_geqF rfl rfl (by omega)) ?_) | (refine rl_v rfl rfl rfl (S := fun _ => True) trivial (v_geq rfl rfl) ?_)
          refine rl_nil (g_le (Fr.le_keep (Fr.le_keep (Fr.le_refl _))) ?_)
          refine g_cond rfl (fun h4 => ?_) (fun h4 => ?_)
          · try with_reducible exact ft_elim h4
            all_goals
              try replace h4 := of_decide_eq_true h4
              refine g_exit rfl (g_seq ?_)
              refine g_region ?_
              refine rl_v rfl rfl rfl (S := fun _ => True) trivial (v_assign rfl) ?_
              refine rl_nil (g_le (Fr.le_keep (Fr.le_refl _)) ?_)
              refine g_ret1 Try.func9 rfl rfl ?_
              exact ⟨rfl, hw.sub (by (repeat (first | with_reducible exact Sub.refl _ | exact Sub.nil _ | (apply Sub.cons; focus ((repeat (first | with_reducible exact Pick.here _ | apply Pick.there)); (first | done | fail))) | with_reducible apply Sub.drop)); first | done | fail)⟩
          · try with_reducible exact tf_elim h4
            all_goals
              try replace h4 := of_decide_eq_false h4
              refine g_skip (g_seq ?_)
              refine g_region ?_
              refine rl_v rfl rfl rfl (S := fun _ => True) trivial (v_move rfl) ?_
              refine rl_k rfl (k_callf Try.func20 rfl rfl rfl rfl ?_)
              refine Calls.mono (on_eq p (Pk n k) on hon (hw.pick (by (repeat (first | with_reducible exact Pick.here _ | apply Pick.there)); first | done | fail))) ?_
              rintro _ w ⟨rfl, hw⟩
              refine ⟨_, rfl, ?_⟩
              refine rl_v rfl rfl rfl (S := fun _ => True) trivial (v_assign rfl) ?_
              refine rl_nil (g_le (Fr.le_keep (Fr.le_keep (Fr.le_keep (Fr.le_refl _)))) ?_)
              refine g_seq ?_
              refine g_region ?_
              refine rl_v rfl rfl rfl (S := fun _ => True) trivial (v_move rfl) ?_
              refine rl_k rfl (k_callf Try.func17 rfl rfl rfl rfl ?_)
              refine Calls.mono (writes_eq p (Pk n k) k rfl (hw.pick (by (repeat (first | with_reducible exact Pick.here _ | apply Pick.there)); first | done | fail))) ?_
              rintro _ w ⟨rfl, hw⟩
              refine ⟨_, rfl, ?_⟩
              refine rl_v rfl rfl rfl (S := fun _ => True) trivial (v_assign rfl) ?_
              refine rl_nil (g_le (Fr.le_keep (Fr.le_keep (Fr.le_keep (Fr.le_refl _)))) ?_)
              refine g_seq ?_
              refine g_region ?_
              refine rl_v rfl rfl rfl (S := fun _ => True) trivial (v_assign rfl) ?_
              refine rl_nil (g_le (Fr.le_keep (Fr.le_refl _)) ?_)
              refine g_seq (g_seq ?_)
              refine g_region ?_
              refine rl_v rfl rfl rfl (S := fun _ => True) trivial (v_move rfl) ?_
              refine rl_v rfl rfl rfl (S := fun _ => True) trivial (v_rem rfl rfl (by omega)) ?_
              refine rl_nil (g_le (Fr.le_keep (Fr.le_keep (Fr.le_refl _))) ?_)
              refine g_cutc (σ := Md × Cs) (fun C x => (13, .int .i64 e) :: C) [(1, _), (4, _), (5, _), (6, _), (8, _), (9, _), (10, _), (11, _), (12, _), (41, _), (42, _), (43, _), (44, _), (45, _), (46, _), (47, _), (48, _), (49, _), (50, _), (51, _), (52, _), (53, _), (54, _), (55, _)] (by repeat (first | exact Fr.le_nil _ | refine Fr.le_cons rfl ?_)) (fun x w => x.1.segs.length = 1 ∧ x.1.size = 1000 ∧ 0 ≤ x.2.n ∧ x.1.past.length + x.2.n = k' ∧ Sat (envOf W) w [MdAt m p x.1, CellAt c p x.2, PwAt p (Pk n k'), Old W]) ?_ ?_
              · skip
                rintro ⟨s', t'⟩ w ⟨hl', hz', ht', hk2, hw⟩
                dsimp only at hl' hz' ht' hk2 hw ⊢
                have hcases : (e = 0 ∧ k' = k + 1 ∧ on = true ∧ ∃ on2 : Bool, (!(Pk n k').off) = on2 ∧ (on2 = true ∧ k' < n ∨ on2 = false ∧ k' = n)) ∨ (e = 110 ∧ k' = k ∧ on = false ∧ ∃ on2 : Bool, (!(Pk n k').off) = on2 ∧ (on2 = true ∧ k' < n ∨ on2 = false ∧ k' = n)) := by
                  have hon2 := Pk_on_eq hkn
                  rw [Pk_on_eq hk] at hon
                  rcases hg with ⟨rfl, rfl⟩ | ⟨rfl, rfl⟩
                  · refine .inl ⟨rfl, rfl, ?_, _, hon2, ?_⟩
                    · rw [← hon]; exact decide_eq_true (by omega)
                    · by_cases h9 : k + 1 < n
                      · exact .inl ⟨decide_eq_true h9, h9⟩
                      · exact .inr ⟨decide_eq_false h9, by omega⟩
                  · have hkn' : k' = n := by
                      by_cases h9 : k' < n
                      · have := Pk_on hk0 h9 hb
                        rw [this] at hsp; cases hsp
                      · omega
                    refine .inr ⟨rfl, rfl, ?_, _, hon2, .inr ⟨decide_eq_false (by omega), hkn'⟩⟩
                    rw [← hon]; exact decide_eq_false (by omega)
                clear hg hon
                obtain ⟨he, hke, hone, on2, hon2, h9⟩ | ⟨he, hke, hone, on2, hon2, h9⟩ := hcases
                all_goals (obtain ⟨h8, h9⟩ | ⟨h8, h9⟩ := h9)
                all_goals (subst e; subst on; subst h8)
                all_goals
                  refine g_seq (g_seq ?_)
                  refine g_region ?_
                  refine rl_v rfl rfl rfl (S := fun _ => True) trivial (v_move rfl) ?_
                  refine rl_v rfl rfl rfl (S := fun _ => True) trivial (v_move rfl) ?_
                  first | (refine rl_vg (met_on rfl rfl rfl rfl) rfl rfl (S := fun _ => True) trivial (v_move rfl) ?_) | (refine rl_off (by first | exact met_off rfl rfl rfl rfl rfl | exact met_gone rfl rfl rfl rfl) rfl rfl ?_)
                  first | (refine rl_vg (met_on rfl rfl rfl rfl) rfl rfl (S := fun _ => True) trivial (v_neqT rfl rfl (by omega)) ?_) | (refine rl_vg (met_on rfl rfl rfl rfl) rfl rfl (S := fun _ => True) trivial (v_neqF rfl rfl (by first | omega | rfl)) ?_) | (refine rl_vg (met_on rfl rfl rfl rfl) rfl rfl (S := fun _ => True) trivial (v_neq rfl rfl) ?_) | (refine rl_off (by first | exact met_off rfl rfl rfl rfl rfl | exact met_gone rfl rfl rfl rfl) rfl rfl ?_)
                  first | (refine rl_vg (met_on rfl rfl rfl rfl) rfl rfl (S := fun _ => True) trivial (v_move rfl) ?_) | (refine rl_off (by first | exact met_off rfl rfl rfl rfl rfl | exact met_gone rfl rfl rfl rfl) rfl rfl ?_)
                  first | (refine rl_vg (met_on rfl rfl rfl rfl) rfl rfl (S := fun _ => True) trivial (v_move rfl) ?_) | (refine rl_off (by first | exact met_off rfl rfl rfl rfl rfl | exact met_gone rfl rfl rfl rfl) rfl rfl ?_)
                  first | (refine rl_kg (met_on rfl rfl rfl rfl) (k_callf Try.func17 rfl rfl rfl rfl ?_); refine Calls.mono (writes_eq p (Pk n k') k' rfl (hw.pick (by (repeat (first | with_reducible exact Pick.here _ | apply Pick.there)); first | done | fail))) ?_; rintro _ w ⟨rfl, hw⟩; refine ⟨_, rfl, ?_⟩) | (refine rl_off (by first | exact met_off rfl rfl rfl rfl rfl | exact met_gone rfl rfl rfl rfl) rfl rfl ?_)
                  first | (refine rl_vg (met_on rfl rfl rfl rfl) rfl rfl (S := fun _ => True) trivial (v_move rfl) ?_) | (refine rl_off (by first | exact met_off rfl rfl rfl rfl rfl | exact met_gone rfl rfl rfl rfl) rfl rfl ?_)
                  first | (refine rl_vg (met_on rfl rfl rfl rfl) rfl rfl (S := fun _ => True) trivial (v_add rfl rfl (by omega)) ?_) | (refine rl_vg (met_on rfl rfl rfl rfl) rfl rfl (S := fun _ => True) trivial (v_addW rfl rfl) ?_) | (refine rl_off (by first | exact met_off rfl rfl rfl rfl rfl | exact met_gone rfl rfl rfl rfl) rfl rfl ?_)
                  first | (refine rl_vg (met_on rfl rfl rfl rfl) rfl rfl (S := fun _ => True) trivial (v_neqT rfl rfl (by omega)) ?_) | (refine rl_vg (met_on rfl rfl rfl rfl) rfl rfl (S := fun _ => True) trivial (v_neqF rfl rfl (by first | omega | rfl)) ?_) | (refine rl_vg (met_on rfl rfl rfl rfl) rfl rfl (S := fun _ => True) trivial (v_neq rfl rfl) ?_) | (refine rl_off (by first | exact met_off rfl rfl rfl rfl rfl | exact met_gone rfl rfl rfl rfl) rfl rfl ?_)
                  first | (refine rl_vg (met_on rfl rfl rfl rfl) rfl rfl (S := fun _ => True) trivial (v_pick_true rfl rfl) ?_) | (refine rl_vg (met_on rfl rfl rfl rfl) rfl rfl (S := fun _ => True) trivial (v_pick_false rfl rfl) ?_) | (refine rl_vg (met_on rfl rfl rfl rfl) rfl rfl (S := fun _ => True) trivial (v_pick rfl rfl rfl) ?_) | (refine rl_off (by first | exact met_off rfl rfl rfl rfl rfl | exact met_gone rfl rfl rfl rfl) rfl rfl ?_)
                  first | (refine rl_v rfl rfl rfl (S := fun _ => True) trivial (v_pick_true rfl rfl) ?_) | (refine rl_v rfl rfl rfl (S := fun _ => True) trivial (v_pick_false rfl rfl) ?_) | (refine rl_v rfl rfl rfl (S := fun _ => True) trivial (v_pick rfl rfl rfl) ?_)
                  refine rl_v rfl rfl rfl (S := fun _ => True) trivial (v_move rfl) ?_
                  first | (refine rl_vg (met_on rfl rfl rfl rfl) rfl rfl (S := fun _ => True) trivial (v_move rfl) ?_) | (refine rl_off (by first | exact met_off rfl rfl rfl rfl rfl | exact met_gone rfl rfl rfl rfl) rfl rfl ?_)
                  first | (refine rl_vg (met_on rfl rfl rfl rfl) rfl rfl (S := fun _ => True) trivial (v_not rfl) ?_) | (refine rl_off (by first | exact met_off rfl rfl rfl rfl rfl | exact met_gone rfl rfl rfl rfl) rfl rfl ?_)
                  first | (refine rl_vg (met_on rfl rfl rfl rfl) rfl rfl (S := fun _ => True) trivial (v_move rfl) ?_) | (refine rl_off (by first | exact met_off rfl rfl rfl rfl rfl | exact met_gone rfl rfl rfl rfl) rfl rfl ?_)
                  first | (refine rl_vg (met_on rfl rfl rfl rfl) rfl rfl (S := fun _ => True) trivial (v_move rfl) ?_) | (refine rl_off (by first | exact met_off rfl rfl rfl rfl rfl | exact met_gone rfl rfl rfl rfl) rfl rfl ?_)
                  first | (refine rl_vg (met_on rfl rfl rfl rfl) rfl rfl (S := fun _ => True) trivial (v_neqT rfl rfl (by omega)) ?_) | (refine rl_vg (met_on rfl rfl rfl rfl) rfl rfl (S := fun _ => True) trivial (v_neqF rfl rfl (by first | omega | rfl)) ?_) | (refine rl_vg (met_on rfl rfl rfl rfl) rfl rfl (S := fun _ => True) trivial (v_neq rfl rfl) ?_) | (refine rl_off (by first | exact met_off rfl rfl rfl rfl rfl | exact met_gone rfl rfl rfl rfl) rfl rfl ?_)
                  first | (refine rl_vg (met_on rfl rfl rfl rfl) rfl rfl (S := fun _ => True) trivial (v_move rfl) ?_) | (refine rl_off (by first | exact met_off rfl rfl rfl rfl rfl | exact met_gone rfl rfl rfl rfl) rfl rfl ?_)
                  first | (refine rl_vg (met_on rfl rfl rfl rfl) rfl rfl (S := fun _ => True) trivial (v_move rfl) ?_) | (refine rl_off (by first | exact met_off rfl rfl rfl rfl rfl | exact met_gone rfl rfl rfl rfl) rfl rfl ?_)
                  first | (refine rl_kg (met_on rfl rfl rfl rfl) (k_callf Try.func17 rfl rfl rfl rfl ?_); refine Calls.mono (writes_eq p (Pk n k') k' rfl (hw.pick (by (repeat (first | with_reducible exact Pick.here _ | apply Pick.there)); first | done | fail))) ?_; rintro _ w ⟨rfl, hw⟩; refine ⟨_, rfl, ?_⟩) | (refine rl_off (by first | exact met_off rfl rfl rfl rfl rfl | exact met_gone rfl rfl rfl rfl) rfl rfl ?_)
                  first | (refine rl_vg (met_on rfl rfl rfl rfl) rfl rfl (S := fun _ => True) trivial (v_move rfl) ?_) | (refine rl_off (by first | exact met_off rfl rfl rfl rfl rfl | exact met_gone rfl rfl rfl rfl) rfl rfl ?_)
                  first | (refine rl_vg (met_on rfl rfl rfl rfl) rfl rfl (S := fun _ => True) trivial (v_neqT rfl rfl (by omega)) ?_) | (refine rl_vg (met_on rfl rfl rfl rfl) rfl rfl (S := fun _ => True) trivial (v_neqF rfl rfl (by first | omega | rfl)) ?_) | (refine rl_vg (met_on rfl rfl rfl rfl) rfl rfl (S := fun _ => True) trivial (v_neq rfl rfl) ?_) | (refine rl_off (by first | exact met_off rfl rfl rfl rfl rfl | exact met_gone rfl rfl rfl rfl) rfl rfl ?_)
                  first | (refine rl_vg (met_on rfl rfl rfl rfl) rfl rfl (S := fun _ => True) trivial (v_pick_true rfl rfl) ?_) | (refine rl_vg (met_on rfl rfl rfl rfl) rfl rfl (S := fun _ => True) trivial (v_pick_false rfl rfl) ?_) | (refine rl_vg (met_on rfl rfl rfl rfl) rfl rfl (S := fun _ => True) trivial (v_pick rfl rfl rfl) ?_) | (refine rl_off (by first | exact met_off rfl rfl rfl rfl rfl | exact met_gone rfl rfl rfl rfl) rfl rfl ?_)
                  first | (refine rl_vg (met_on rfl rfl rfl rfl) rfl rfl (S := fun _ => True) trivial (v_pick_true rfl rfl) ?_) | (refine rl_vg (met_on rfl rfl rfl rfl) rfl rfl (S := fun _ => True) trivial (v_pick_false rfl rfl) ?_) | (refine rl_vg (met_on rfl rfl rfl rfl) rfl rfl (S := fun _ => True) trivial (v_pick rfl rfl rfl) ?_) | (refine rl_off (by first | exact met_off rfl rfl rfl rfl rfl | exact met_gone rfl rfl rfl rfl) rfl rfl ?_)
                  first | (refine rl_v rfl rfl rfl (S := fun _ => True) trivial (v_pick_true rfl rfl) ?_) | (refine rl_v rfl rfl rfl (S := fun _ => True) trivial (v_pick_false rfl rfl) ?_) | (refine rl_v rfl rfl rfl (S := fun _ => True) trivial (v_pick rfl rfl rfl) ?_)
                  refine rl_nil (g_le (Fr.le_keep (Fr.le_keep (Fr.le_keep (Fr.le_keep (Fr.le_keep (Fr.le_keep (Fr.le_keep (Fr.le_keep (Fr.le_keep (Fr.le_keep (Fr.le_keep (Fr.le_keep (Fr.le_keep (Fr.le_keep (Fr.le_keep (Fr.le_keep (Fr.le_keep (Fr.le_keep (Fr.le_keep (Fr.le_keep (Fr.le_keep (Fr.le_keep (Fr.le_keep (Fr.le_keep (Fr.le_keep (Fr.le_keep (Fr.le_refl _))))))))))))))))))))))))))) ?_)
                  refine g_cond_false rfl ?_
                  refine g_skip (g_seq ?_)
                  refine g_region ?_
                  refine rl_v rfl rfl rfl (S := fun _ => True) trivial (v_move rfl) ?_
                  refine rl_k rfl (k_callf Try.func17 rfl rfl rfl rfl ?_)
                  refine Calls.mono (writes_eq p (Pk n k') k' rfl (hw.pick (by (repeat (first | with_reducible exact Pick.here _ | apply Pick.there)); first | done | fail))) ?_
                  rintro _ w ⟨rfl, hw⟩
                  refine ⟨_, rfl, ?_⟩
                  refine rl_v rfl rfl rfl (S := fun _ => True) trivial (v_move rfl) ?_
                  refine rl_k rfl (k_callf Try.func28 rfl rfl rfl rfl ?_)
                  refine Calls.mono (mcount_calls m p _ (hw.pick (by (repeat (first | with_reducible exact Pick.here _ | apply Pick.there)); first | done | fail))) ?_
                  rintro _ w ⟨rfl, hw⟩
                  refine ⟨_, rfl, ?_⟩
                  refine rl_v rfl rfl rfl (S := fun _ => True) trivial (v_move rfl) ?_
                  refine rl_k rfl (k_callf Try.func42 rfl rfl rfl rfl ?_)
                  refine Calls.mono (count_calls c p _ (hw.pick (by (repeat (first | with_reducible exact Pick.here _ | apply Pick.there)); first | done | fail))) ?_
                  rintro _ w ⟨rfl, hw⟩
                  refine ⟨_, rfl, ?_⟩
                  first | (refine rl_v rfl rfl rfl (S := fun _ => True) trivial (v_add rfl rfl (by omega)) ?_) | (refine rl_v rfl rfl rfl (S := fun _ => True) trivial (v_addW rfl rfl) ?_)
                  first | (refine rl_v rfl rfl rfl (S := fun _ => True) trivial (v_neqT rfl rfl (by omega)) ?_) | (refine rl_v rfl rfl rfl (S := fun _ => True) trivial (v_neqF rfl rfl (by first | omega | rfl)) ?_) | (refine rl_v rfl rfl rfl (S := fun _ => True) trivial (v_neq rfl rfl) ?_)
                  refine rl_v rfl rfl rfl (S := fun _ => True) trivial (v_move rfl) ?_
                  first | (refine rl_vg (met_on rfl rfl rfl rfl) rfl rfl (S := fun _ => True) trivial (v_move rfl) ?_) | (refine rl_off (by first | exact met_off rfl rfl rfl rfl rfl | exact met_gone rfl rfl rfl rfl) rfl rfl ?_)
                  first | (refine rl_kg (met_on rfl rfl rfl rfl) (k_callf Try.func17 rfl rfl rfl rfl ?_); refine Calls.mono (writes_eq p (Pk n k') k' rfl (hw.pick (by (repeat (first | with_reducible exact Pick.here _ | apply Pick.there)); first | done | fail))) ?_; rintro _ w ⟨rfl, hw⟩; have hmp := md_power (m := m) (p := p) (hw.pick (by (repeat (first | with_reducible exact Pick.here _ | apply Pick.there)); first | done | fail)); refine ⟨_, rfl, ?_⟩) | (refine rl_off (by first | exact met_off rfl rfl rfl rfl rfl | exact met_gone rfl rfl rfl rfl) rfl rfl ?_)
                  first | (refine rl_vg (met_on rfl rfl rfl rfl) rfl rfl (S := fun _ => True) trivial (v_move rfl) ?_) | (refine rl_off (by first | exact met_off rfl rfl rfl rfl rfl | exact met_gone rfl rfl rfl rfl) rfl rfl ?_)
                  first | (refine rl_vg (met_on rfl rfl rfl rfl) rfl rfl (S := fun _ => True) trivial (v_gtrT rfl rfl (by omega)) ?_) | (refine rl_vg (met_on rfl rfl rfl rfl) rfl rfl (S := fun _ => True) trivial (v_gtrF rfl rfl (by omega)) ?_) | (refine rl_vg (met_on rfl rfl rfl rfl) rfl rfl (S := fun _ => True) trivial (v_gtr rfl rfl) ?_) | (refine rl_off (by first | exact met_off rfl rfl rfl rfl rfl | exact met_gone rfl rfl rfl rfl) rfl rfl ?_)
                  first | (refine rl_v rfl rfl rfl (S := fun _ => True) trivial (v_pick_true rfl rfl) ?_) | (refine rl_v rfl rfl rfl (S := fun _ => True) trivial (v_pick_false rfl rfl) ?_) | (refine rl_v rfl rfl rfl (S := fun _ => True) trivial (v_pick rfl rfl rfl) ?_)
                  refine rl_v rfl rfl rfl (S := fun _ => True) trivial (v_move rfl) ?_
                  first | (refine rl_vg (met_on rfl rfl rfl rfl) rfl rfl (S := fun _ => True) trivial (v_move rfl) ?_) | (refine rl_off (by first | exact met_off rfl rfl rfl rfl rfl | exact met_gone rfl rfl rfl rfl) rfl rfl ?_)
                  first | (refine rl_vg (met_on rfl rfl rfl rfl) rfl rfl (S := fun _ => True) trivial (v_nilCheck rfl) ?_) | (refine rl_off (by first | exact met_off rfl rfl rfl rfl rfl | exact met_gone rfl rfl rfl rfl) rfl rfl ?_)
                  first | (refine rl_vg (met_on rfl rfl rfl rfl) rfl rfl (S := fun _ => True) trivial (v_fieldAddr0 T.fld_48_0_0 rfl) ?_) | (refine rl_vg (met_on rfl rfl rfl rfl) rfl rfl (S := fun _ => True) trivial (v_fieldAddr T.fld_48_0_0 rfl) ?_) | (refine rl_off (by first | exact met_off rfl rfl rfl rfl rfl | exact met_gone rfl rfl rfl rfl) rfl rfl ?_)
                  first | (refine rl_vg (met_on rfl rfl rfl rfl) rfl rfl (by first | exact sat_cell hw (by (repeat (first | with_reducible exact Pick.here _ | apply Pick.there)); first | done | fail) rfl | exact own_cell hw (by (repeat (first | with_reducible exact Pick.here _ | apply Pick.there)); first | done | fail) (by first | rfl | assumption) | exact old_cell hw (by (repeat (first | with_reducible exact Pick.here _ | apply Pick.there)); first | done | fail) (by assumption) | assumption) (v_load T.scal_24 rfl) ?_) | (refine rl_off (by first | exact met_off rfl rfl rfl rfl rfl | exact met_gone rfl rfl rfl rfl) rfl rfl ?_)
                  first | (refine rl_kg (met_on rfl rfl rfl rfl) (k_callf Try.func20 rfl rfl rfl rfl ?_); refine Calls.mono (on_eq p (Pk n k') _ hon2 (hw.pick (by (repeat (first | with_reducible exact Pick.here _ | apply Pick.there)); first | done | fail))) ?_; rintro _ w ⟨rfl, hw⟩; refine ⟨_, rfl, ?_⟩) | (refine rl_off (by first | exact met_off rfl rfl rfl rfl rfl | exact met_gone rfl rfl rfl rfl) rfl rfl ?_)
                  first | (refine rl_vg (met_on rfl rfl rfl rfl) rfl rfl (S := fun _ => True) trivial (v_move rfl) ?_) | (refine rl_off (by first | exact met_off rfl rfl rfl rfl rfl | exact met_gone rfl rfl rfl rfl) rfl rfl ?_)
                  first | (refine rl_kg (met_on rfl rfl rfl rfl) (k_callf Try.func20 rfl rfl rfl rfl ?_); refine Calls.mono (on_eq p (Pk n k') _ hon2 (hw.pick (by (repeat (first | with_reducible exact Pick.here _ | apply Pick.there)); first | done | fail))) ?_; rintro _ w ⟨rfl, hw⟩; refine ⟨_, rfl, ?_⟩) | (refine rl_off (by first | exact met_off rfl rfl rfl rfl rfl | exact met_gone rfl rfl rfl rfl) rfl rfl ?_)
                  first | (refine rl_vg (met_on rfl rfl rfl rfl) rfl rfl (S := fun _ => True) trivial (v_neqBoolF T.bool_4 rfl rfl (by first | rfl | assumption)) ?_) | (refine rl_vg (met_on rfl rfl rfl rfl) rfl rfl (S := fun _ => True) trivial (v_neqBool T.bool_4 rfl rfl) ?_) | (refine rl_off (by first | exact met_off rfl rfl rfl rfl rfl | exact met_gone rfl rfl rfl rfl) rfl rfl ?_)
                  first | (refine rl_v rfl rfl rfl (S := fun _ => True) trivial (v_pick_true rfl rfl) ?_) | (refine rl_v rfl rfl rfl (S := fun _ => True) trivial (v_pick_false rfl rfl) ?_) | (refine rl_v rfl rfl rfl (S := fun _ => True) trivial (v_pick rfl rfl rfl) ?_)
                  refine rl_v rfl rfl rfl (S := fun _ => True) trivial (v_move rfl) ?_
                  first | (refine rl_vg (met_on rfl rfl rfl rfl) rfl rfl (S := fun _ => True) trivial (v_move rfl) ?_) | (refine rl_off (by first | exact met_off rfl rfl rfl rfl rfl | exact met_gone rfl rfl rfl rfl) rfl rfl ?_)
                  first | (refine rl_vg (met_on rfl rfl rfl rfl) rfl rfl (S := fun _ => True) trivial (v_nilCheck rfl) ?_) | (refine rl_off (by first | exact met_off rfl rfl rfl rfl rfl | exact met_gone rfl rfl rfl rfl) rfl rfl ?_)
                  first | (refine rl_vg (met_on rfl rfl rfl rfl) rfl rfl (S := fun _ => True) trivial (v_fieldAddr0 T.fld_72_0_0 rfl) ?_) | (refine rl_vg (met_on rfl rfl rfl rfl) rfl rfl (S := fun _ => True) trivial (v_fieldAddr T.fld_72_0_0 rfl) ?_) | (refine rl_off (by first | exact met_off rfl rfl rfl rfl rfl | exact met_gone rfl rfl rfl rfl) rfl rfl ?_)
                  first | (refine rl_vg (met_on rfl rfl rfl rfl) rfl rfl (by first | exact sat_cell hw (by (repeat (first | with_reducible exact Pick.here _ | apply Pick.there)); first | done | fail) rfl | exact own_cell hw (by (repeat (first | with_reducible exact Pick.here _ | apply Pick.there)); first | done | fail) (by first | rfl | assumption) | exact old_cell hw (by (repeat (first | with_reducible exact Pick.here _ | apply Pick.there)); first | done | fail) (by assumption) | assumption) (v_load T.scal_24 rfl) ?_) | (refine rl_off (by first | exact met_off rfl rfl rfl rfl rfl | exact met_gone rfl rfl rfl rfl) rfl rfl ?_)
                  first | (refine rl_kg (met_on rfl rfl rfl rfl) (k_callf Try.func20 rfl rfl rfl rfl ?_); refine Calls.mono (on_eq p (Pk n k') _ hon2 (hw.pick (by (repeat (first | with_reducible exact Pick.here _ | apply Pick.there)); first | done | fail))) ?_; rintro _ w ⟨rfl, hw⟩; refine ⟨_, rfl, ?_⟩) | (refine rl_off (by first | exact met_off rfl rfl rfl rfl rfl | exact met_gone rfl rfl rfl rfl) rfl rfl ?_)
                  first | (refine rl_vg (met_on rfl rfl rfl rfl) rfl rfl (S := fun _ => True) trivial (v_move rfl) ?_) | (refine rl_off (by first | exact met_off rfl rfl rfl rfl rfl | exact met_gone rfl rfl rfl rfl) rfl rfl ?_)
                  first | (refine rl_kg (met_on rfl rfl rfl rfl) (k_callf Try.func20 rfl rfl rfl rfl ?_); refine Calls.mono (on_eq p (Pk n k') _ hon2 (hw.pick (by (repeat (first | with_reducible exact Pick.here _ | apply Pick.there)); first | done | fail))) ?_; rintro _ w ⟨rfl, hw⟩; refine ⟨_, rfl, ?_⟩) | (refine rl_off (by first | exact met_off rfl rfl rfl rfl rfl | exact met_gone rfl rfl rfl rfl) rfl rfl ?_)
                  first | (refine rl_vg (met_on rfl rfl rfl rfl) rfl rfl (S := fun _ => True) trivial (v_neqBoolF T.bool_4 rfl rfl (by first | rfl | assumption)) ?_) | (refine rl_vg (met_on rfl rfl rfl rfl) rfl rfl (S := fun _ => True) trivial (v_neqBool T.bool_4 rfl rfl) ?_) | (refine rl_off (by first | exact met_off rfl rfl rfl rfl rfl | exact met_gone rfl rfl rfl rfl) rfl rfl ?_)
                  first | (refine rl_v rfl rfl rfl (S := fun _ => True) trivial (v_pick_true rfl rfl) ?_) | (refine rl_v rfl rfl rfl (S := fun _ => True) trivial (v_pick_false rfl rfl) ?_) | (refine rl_v rfl rfl rfl (S := fun _ => True) trivial (v_pick rfl rfl rfl) ?_)
                  refine rl_v rfl rfl rfl (S := fun _ => True) trivial (v_move rfl) ?_
                  first | (refine rl_vg (met_on rfl rfl rfl rfl) rfl rfl (S := fun _ => True) trivial (v_move rfl) ?_) | (refine rl_off (by first | exact met_off rfl rfl rfl rfl rfl | exact met_gone rfl rfl rfl rfl) rfl rfl ?_)
                  first | (refine rl_kg (met_on rfl rfl rfl rfl) (k_callf Try.func20 rfl rfl rfl rfl ?_); refine Calls.mono (on_eq p (Pk n k') _ hon2 (hw.pick (by (repeat (first | with_reducible exact Pick.here _ | apply Pick.there)); first | done | fail))) ?_; rintro _ w ⟨rfl, hw⟩; refine ⟨_, rfl, ?_⟩) | (refine rl_off (by first | exact met_off rfl rfl rfl rfl rfl | exact met_gone rfl rfl rfl rfl) rfl rfl ?_)
                  first | (refine rl_vg (met_on rfl rfl rfl rfl) rfl rfl (S := fun _ => True) trivial (v_move rfl) ?_) | (refine rl_off (by first | exact met_off rfl rfl rfl rfl rfl | exact met_gone rfl rfl rfl rfl) rfl rfl ?_)
                  first | (refine rl_kg (met_on rfl rfl rfl rfl) (k_callf Try.func17 rfl rfl rfl rfl ?_); refine Calls.mono (writes_eq p (Pk n k') k' rfl (hw.pick (by (repeat (first | with_reducible exact Pick.here _ | apply Pick.there)); first | done | fail))) ?_; rintro _ w ⟨rfl, hw⟩; refine ⟨_, rfl, ?_⟩) | (refine rl_off (by first | exact met_off rfl rfl rfl rfl rfl | exact met_gone rfl rfl rfl rfl) rfl rfl ?_)
                  first | (refine rl_vg (met_on rfl rfl rfl rfl) rfl rfl (S := fun _ => True) trivial (v_move rfl) ?_) | (refine rl_off (by first | exact met_off rfl rfl rfl rfl rfl | exact met_gone rfl rfl rfl rfl) rfl rfl ?_)
                  first | (refine rl_vg (met_on rfl rfl rfl rfl) rfl rfl (S := fun _ => True) trivial (v_lssT rfl rfl (by omega)) ?_) | (refine rl_vg (met_on rfl rfl rfl rfl) rfl rfl (S := fun _ => True) trivial (v_lssF rfl rfl (by omega)) ?_) | (refine rl_vg (met_on rfl rfl rfl rfl) rfl rfl (S := fun _ => True) trivial (v_lss rfl rfl) ?_) | (refine rl_off (by first | exact met_off rfl rfl rfl rfl rfl | exact met_gone rfl rfl rfl rfl) rfl rfl ?_)
                  first | (refine rl_vg (met_on rfl rfl rfl rfl) rfl rfl (S := fun _ => True) trivial (v_neqBoolF T.bool_4 rfl rfl (by first | rfl | assumption)) ?_) | (refine rl_vg (met_on rfl rfl rfl rfl) rfl rfl (S := fun _ => True) trivial (v_neqBool T.bool_4 rfl rfl) ?_) | (refine rl_off (by first | exact met_off rfl rfl rfl rfl rfl | exact met_gone rfl rfl rfl rfl) rfl rfl ?_)
                  first | (refine rl_v rfl rfl rfl (S := fun _ => True) trivial (v_pick_true rfl rfl) ?_) | (refine rl_v rfl rfl rfl (S := fun _ => True) trivial (v_pick_false rfl rfl) ?_) | (refine rl_v rfl rfl rfl (S := fun _ => True) trivial (v_pick rfl rfl rfl) ?_)
                  refine rl_nil (g_le (Fr.le_keep (Fr.le_keep (Fr.le_keep (Fr.le_keep (Fr.le_keep (Fr.le_keep (Fr.le_keep (Fr.le_keep (Fr.le_keep (Fr.le_keep (Fr.le_keep (Fr.le_keep (Fr.le_keep (Fr.le_keep (Fr.le_keep (Fr.le_keep (Fr.le_keep (Fr.le_keep (Fr.le_keep (Fr.le_keep (Fr.le_keep (Fr.le_keep (Fr.le_keep (Fr.le_keep (Fr.le_keep (Fr.le_keep (Fr.le_keep (Fr.le_keep (Fr.le_keep (Fr.le_keep (Fr.le_keep (Fr.le_keep (Fr.le_keep (Fr.le_keep (Fr.le_keep (Fr.le_keep (Fr.le_keep (Fr.le_keep (Fr.le_keep (Fr.le_keep (Fr.le_keep (Fr.le_keep (Fr.le_keep (Fr.le_refl _)))))))))))))))))))))))))))))))))))))))))))) ?_)
                  refine g_cond_false rfl ?_
                  refine g_skip (g_inBlock ?_)
                  refine g_region ?_
                  first | (refine rl_v rfl rfl rfl (S := fun _ => True) trivial (v_add rfl rfl (by omega)) ?_) | (refine rl_v rfl rfl rfl (S := fun _ => True) trivial (v_addW rfl rfl) ?_)
                  refine rl_v rfl rfl rfl (S := fun _ => True) trivial (v_move rfl) ?_
                  refine rl_nil (g_le (Fr.le_keep (Fr.le_keep (Fr.le_refl _))) ?_)
                  exact g_le (by repeat (first | exact Fr.le_nil _ | refine Fr.le_cons rfl ?_)) (ih (i + 1, s', t') w ⟨by simp only; omega, by simp only; omega, hl', hz', ht', by simp only; omega, by dsimp only; rw [hk2]; exact hw.sub (by (repeat (first | with_reducible exact Sub.refl _ | exact Sub.nil _ | (apply Sub.cons; focus ((repeat (first | with_reducible exact Pick.here _ | apply Pick.there)); (first | done | fail))) | with_reducible apply Sub.drop)); first | done | fail)⟩ (by simp only; omega))
              · intro joinb2
                refine g_block (g_seq ?_)
                refine g_region ?_
                first | (refine rl_v rfl rfl rfl (S := fun _ => True) trivial (v_eqlT rfl rfl (by first | omega | rfl)) ?_) | (refine rl_v rfl rfl rfl (S := fun _ => True) trivial (v_eqlF rfl rfl (by omega)) ?_) | (refine rl_v rfl rfl rfl (S := fun _ => True) trivial (v_eql rfl rfl) ?_)
                refine rl_v rfl rfl rfl (S := fun _ => True) trivial (v_assign rfl) ?_
                refine rl_nil (g_le (Fr.le_keep (Fr.le_keep (Fr.le_refl _))) ?_)
                refine g_cond rfl (fun h5 => ?_) (fun h5 => ?_)
                · try with_reducible exact ft_elim h5
                  all_goals
                    try replace h5 := of_decide_eq_true h5
                    obtain ⟨s', e1, e2, e3, e4⟩ := goes_w (v := ByteArray.mk #[109]) hg hsp hz hl rfl
                    refine g_region ?_
                    refine rl_v rfl rfl rfl (S := fun _ => True) trivial (v_move rfl) ?_
                    refine rl_k rfl (k_callf Try.func27 rfl rfl rfl rfl ?_)
                    refine Calls.mono (mwrite_eq m p s _ (Pk n k) (Pk n k') 0 0 e _ hkok (by omega) e1 (hw.sub (by (repeat (first | with_reducible exact Sub.refl _ | exact Sub.nil _ | (apply Sub.cons; focus ((repeat (first | with_reducible exact Pick.here _ | apply Pick.there)); (first | done | fail))) | with_reducible apply Sub.drop)); first | done | fail))) ?_
                    rintro _ w ⟨rfl, hw⟩
                    refine ⟨_, rfl, ?_⟩
                    refine rl_v rfl rfl rfl (S := fun _ => True) trivial (v_assign rfl) ?_
                    refine rl_nil (g_le (Fr.le_keep (Fr.le_keep (Fr.le_keep (Fr.le_refl _)))) ?_)
                    refine g_inBlock ?_
                    first | exact joinb2 (s', t) w _ (by repeat (first | exact Fr.le_nil _ | refine Fr.le_cons rfl ?_)) ⟨e3, e2, ht, by simp only; omega, hw.sub (by (repeat (first | with_reducible exact Sub.refl _ | exact Sub.nil _ | (apply Sub.cons; focus ((repeat (first | with_reducible exact Pick.here _ | apply Pick.there)); (first | done | fail))) | with_reducible apply Sub.drop)); first | done | fail)⟩ | exact joinb2 (s, t') w _ (by repeat (first | exact Fr.le_nil _ | refine Fr.le_cons rfl ?_)) ⟨hl, hz, by simp only; omega, by simp only; omega, hw.sub (by (repeat (first | with_reducible exact Sub.refl _ | exact Sub.nil _ | (apply Sub.cons; focus ((repeat (first | with_reducible exact Pick.here _ | apply Pick.there)); (first | done | fail))) | with_reducible apply Sub.drop)); first | done | fail)⟩ | exact joinb2 (s, t1) w _ (by repeat (first | exact Fr.le_nil _ | refine Fr.le_cons rfl ?_)) ⟨hl, hz, by simp only; omega, by simp only; omega, hw.sub (by (repeat (first | with_reducible exact Sub.refl _ | exact Sub.nil _ | (apply Sub.cons; focus ((repeat (first | with_reducible exact Pick.here _ | apply Pick.there)); (first | done | fail))) | with_reducible apply Sub.drop)); first | done | fail)⟩
                · try with_reducible exact tf_elim h5
                  all_goals
                    try replace h5 := of_decide_eq_false h5
                    refine g_seq ?_
                    refine g_region ?_
                    first | (refine rl_v rfl rfl rfl (S := fun _ => True) trivial (v_eqlT rfl rfl (by first | omega | rfl)) ?_) | (refine rl_v rfl rfl rfl (S := fun _ => True) trivial (v_eqlF rfl rfl (by omega)) ?_) | (refine rl_v rfl rfl rfl (S := fun _ => True) trivial (v_eql rfl rfl) ?_)
                    refine rl_v rfl rfl rfl (S := fun _ => True) trivial (v_assign rfl) ?_
                    refine rl_nil (g_le (Fr.le_keep (Fr.le_keep (Fr.le_refl _))) ?_)
                    refine g_cond rfl (fun h6 => ?_) (fun h6 => ?_)
                    · try with_reducible exact ft_elim h6
                      all_goals
                        try replace h6 := of_decide_eq_true h6
                        refine g_seq ?_
                        obtain ⟨e1, t1, k1, hset, hcase⟩ := goes_set2 (v := ByteArray.mk #[99]) hg hsp (.inl rfl) (by decide) rfl htn
                        refine g_region ?_
                        refine rl_v rfl rfl rfl (S := fun _ => True) trivial (v_move rfl) ?_
                        refine rl_k rfl (k_callf Try.func38 rfl rfl rfl rfl ?_)
                        refine Calls.mono (set_eq c p t t1 (Pk n k) (Pk n k1) 0 e1 _ hkok hset (hw.sub (by (repeat (first | with_reducible exact Sub.refl _ | exact Sub.nil _ | (apply Sub.cons; focus ((repeat (first | with_reducible exact Pick.here _ | apply Pick.there)); (first | done | fail))) | with_reducible apply Sub.drop)); first | done | fail))) ?_
                        rintro _ w ⟨rfl, hw⟩
                        refine ⟨_, rfl, ?_⟩
                        refine rl_v rfl rfl rfl (S := fun _ => True) trivial (v_assign rfl) ?_
                        refine rl_nil (g_le (Fr.le_keep (Fr.le_keep (Fr.le_keep (Fr.le_refl _)))) ?_)
                        refine g_seq ?_
                        refine g_region ?_
                        refine rl_v rfl rfl rfl (S := fun _ => True) trivial (v_move rfl) ?_
                        first | (refine rl_v rfl rfl rfl (S := fun _ => True) trivial (v_eqlT rfl rfl (by first | omega | rfl)) ?_) | (refine rl_v rfl rfl rfl (S := fun _ => True) trivial (v_eqlF rfl rfl (by omega)) ?_) | (refine rl_v rfl rfl rfl (S := fun _ => True) trivial (v_eql rfl rfl) ?_)
                        refine rl_nil (g_le (Fr.le_keep (Fr.le_keep (Fr.le_refl _))) ?_)
                        refine g_cond rfl (fun h7 => ?_) (fun h7 => ?_)
                        · try with_reducible exact ft_elim h7
                          all_goals
                            try replace h7 := of_decide_eq_true h7
                            obtain ⟨_, ht1, hk1, hnil⟩ := hcase.resolve_right (fun h => h.1 h7)
                            subst ht1
                            subst hk1
                            obtain ⟨t', e5, e2⟩ := goes_erase hg hsp (.inl rfl) hnil htn
                            refine g_region ?_
                            refine rl_v rfl rfl rfl (S := fun _ => True) trivial (v_move rfl) ?_
                            refine rl_k rfl (k_callf Try.func36 rfl rfl rfl rfl ?_)
                            refine Calls.mono (erase_eq c p t t' (Pk n k) (Pk n k') 0 e hkok e5 (hw.sub (by (repeat (first | with_reducible exact Sub.refl _ | exact Sub.nil _ | (apply Sub.cons; focus ((repeat (first | with_reducible exact Pick.here _ | apply Pick.there)); (first | done | fail))) | with_reducible apply Sub.drop)); first | done | fail))) ?_
                            rintro _ w ⟨rfl, hw⟩
                            refine ⟨_, rfl, ?_⟩
                            refine rl_v rfl rfl rfl (S := fun _ => True) trivial (v_assign rfl) ?_
                            refine rl_nil (g_le (Fr.le_keep (Fr.le_keep (Fr.le_keep (Fr.le_refl _)))) ?_)
                            refine g_inBlock ?_
                            first | exact joinb2 (s', t) w _ (by repeat (first | exact Fr.le_nil _ | refine Fr.le_cons rfl ?_)) ⟨e3, e2, ht, by simp only; omega, hw.sub (by (repeat (first | with_reducible exact Sub.refl _ | exact Sub.nil _ | (apply Sub.cons; focus ((repeat (first | with_reducible exact Pick.here _ | apply Pick.there)); (first | done | fail))) | with_reducible apply Sub.drop)); first | done | fail)⟩ | exact joinb2 (s, t') w _ (by repeat (first | exact Fr.le_nil _ | refine Fr.le_cons rfl ?_)) ⟨hl, hz, by simp only; omega, by simp only; omega, hw.sub (by (repeat (first | with_reducible exact Sub.refl _ | exact Sub.nil _ | (apply Sub.cons; focus ((repeat (first | with_reducible exact Pick.here _ | apply Pick.there)); (first | done | fail))) | with_reducible apply Sub.drop)); first | done | fail)⟩ | exact joinb2 (s, t1) w _ (by repeat (first | exact Fr.le_nil _ | refine Fr.le_cons rfl ?_)) ⟨hl, hz, by simp only; omega, by simp only; omega, hw.sub (by (repeat (first | with_reducible exact Sub.refl _ | exact Sub.nil _ | (apply Sub.cons; focus ((repeat (first | with_reducible exact Pick.here _ | apply Pick.there)); (first | done | fail))) | with_reducible apply Sub.drop)); first | done | fail)⟩
                        · try with_reducible exact tf_elim h7
                          all_goals
                            try replace h7 := of_decide_eq_false h7
                            obtain ⟨_, he1, hk1, e2⟩ := hcase.resolve_left (fun h => h7 h.1)
                            subst he1
                            subst hk1
                            refine g_skip (g_inBlock ?_)
                            first | exact joinb2 (s', t) w _ (by repeat (first | exact Fr.le_nil _ | refine Fr.le_cons rfl ?_)) ⟨e3, e2, ht, by simp only; omega, hw.sub (by (repeat (first | with_reducible exact Sub.refl _ | exact Sub.nil _ | (apply Sub.cons; focus ((repeat (first | with_reducible exact Pick.here _ | apply Pick.there)); (first | done | fail))) | with_reducible apply Sub.drop)); first | done | fail)⟩ | exact joinb2 (s, t') w _ (by repeat (first | exact Fr.le_nil _ | refine Fr.le_cons rfl ?_)) ⟨hl, hz, by simp only; omega, by simp only; omega, hw.sub (by (repeat (first | with_reducible exact Sub.refl _ | exact Sub.nil _ | (apply Sub.cons; focus ((repeat (first | with_reducible exact Pick.here _ | apply Pick.there)); (first | done | fail))) | with_reducible apply Sub.drop)); first | done | fail)⟩ | exact joinb2 (s, t1) w _ (by repeat (first | exact Fr.le_nil _ | refine Fr.le_cons rfl ?_)) ⟨hl, hz, by simp only; omega, by simp only; omega, hw.sub (by (repeat (first | with_reducible exact Sub.refl _ | exact Sub.nil _ | (apply Sub.cons; focus ((repeat (first | with_reducible exact Pick.here _ | apply Pick.there)); (first | done | fail))) | with_reducible apply Sub.drop)); first | done | fail)⟩
                    · try with_reducible exact tf_elim h6
                      all_goals
                        try replace h6 := of_decide_eq_false h6
                        refine g_seq ?_
                        obtain ⟨e1, t1, k1, hset, hcase⟩ := goes_set2 (v := ByteArray.mk #[100]) hg hsp (.inr rfl) (by decide) rfl htn
                        refine g_region ?_
                        refine rl_v rfl rfl rfl (S := fun _ => True) trivial (v_move rfl) ?_
                        refine rl_k rfl (k_callf Try.func38 rfl rfl rfl rfl ?_)
                        refine Calls.mono (set_eq c p t t1 (Pk n k) (Pk n k1) 1 e1 _ hkok hset (hw.sub (by (repeat (first | with_reducible exact Sub.refl _ | exact Sub.nil _ | (apply Sub.cons; focus ((repeat (first | with_reducible exact Pick.here _ | apply Pick.there)); (first | done | fail))) | with_reducible apply Sub.drop)); first | done | fail))) ?_
                        rintro _ w ⟨rfl, hw⟩
                        refine ⟨_, rfl, ?_⟩
                        refine rl_v rfl rfl rfl (S := fun _ => True) trivial (v_assign rfl) ?_
                        refine rl_nil (g_le (Fr.le_keep (Fr.le_keep (Fr.le_keep (Fr.le_refl _)))) ?_)
                        refine g_seq ?_
                        refine g_region ?_
                        refine rl_v rfl rfl rfl (S := fun _ => True) trivial (v_move rfl) ?_
                        first | (refine rl_v rfl rfl rfl (S := fun _ => True) trivial (v_eqlT rfl rfl (by first | omega | rfl)) ?_) | (refine rl_v rfl rfl rfl (S := fun _ => True) trivial (v_eqlF rfl rfl (by omega)) ?_) | (refine rl_v rfl rfl rfl (S := fun _ => True) trivial (v_eql rfl rfl) ?_)
                        refine rl_nil (g_le (Fr.le_keep (Fr.le_keep (Fr.le_refl _))) ?_)
                        refine g_cond rfl (fun h8 => ?_) (fun h8 => ?_)
                        · try with_reducible exact ft_elim h8
                          all_goals
                            try replace h8 := of_decide_eq_true h8
                            obtain ⟨_, ht1, hk1, hnil⟩ := hcase.resolve_right (fun h => h.1 h8)
                            subst ht1
                            subst hk1
                            obtain ⟨t', e5, e2⟩ := goes_erase hg hsp (.inr rfl) hnil htn
                            refine g_region ?_
                            refine rl_v rfl rfl rfl (S := fun _ => True) trivial (v_move rfl) ?_
                            refine rl_k rfl (k_callf Try.func36 rfl rfl rfl rfl ?_)
                            refine Calls.mono (erase_eq c p t t' (Pk n k) (Pk n k') 1 e hkok e5 (hw.sub (by (repeat (first | with_reducible exact Sub.refl _ | exact Sub.nil _ | (apply Sub.cons; focus ((repeat (first | with_reducible exact Pick.here _ | apply Pick.there)); (first | done | fail))) | with_reducible apply Sub.drop)); first | done | fail))) ?_
                            rintro _ w ⟨rfl, hw⟩
                            refine ⟨_, rfl, ?_⟩
                            refine rl_v rfl rfl rfl (S := fun _ => True) trivial (v_assign rfl) ?_
                            refine rl_nil (g_le (Fr.le_keep (Fr.le_keep (Fr.le_keep (Fr.le_refl _)))) ?_)
                            refine g_inBlock ?_
                            first | exact joinb2 (s', t) w _ (by repeat (first | exact Fr.le_nil _ | refine Fr.le_cons rfl ?_)) ⟨e3, e2, ht, by simp only; omega, hw.sub (by (repeat (first | with_reducible exact Sub.refl _ | exact Sub.nil _ | (apply Sub.cons; focus ((repeat (first | with_reducible exact Pick.here _ | apply Pick.there)); (first | done | fail))) | with_reducible apply Sub.drop)); first | done | fail)⟩ | exact joinb2 (s, t') w _ (by repeat (first | exact Fr.le_nil _ | refine Fr.le_cons rfl ?_)) ⟨hl, hz, by simp only; omega, by simp only; omega, hw.sub (by (repeat (first | with_reducible exact Sub.refl _ | exact Sub.nil _ | (apply Sub.cons; focus ((repeat (first | with_reducible exact Pick.here _ | apply Pick.there)); (first | done | fail))) | with_reducible apply Sub.drop)); first | done | fail)⟩ | exact joinb2 (s, t1) w _ (by repeat (first | exact Fr.le_nil _ | refine Fr.le_cons rfl ?_)) ⟨hl, hz, by simp only; omega, by simp only; omega, hw.sub (by (repeat (first | with_reducible exact Sub.refl _ | exact Sub.nil _ | (apply Sub.cons; focus ((repeat (first | with_reducible exact Pick.here _ | apply Pick.there)); (first | done | fail))) | with_reducible apply Sub.drop)); first | done | fail)⟩
                        · try with_reducible exact tf_elim h8
                          all_goals
                            try replace h8 := of_decide_eq_false h8
                            obtain ⟨_, he1, hk1, e2⟩ := hcase.resolve_left (fun h => h8 h.1)
                            subst he1
                            subst hk1
                            refine g_skip (g_inBlock ?_)
                            first | exact joinb2 (s', t) w _ (by repeat (first | exact Fr.le_nil _ | refine Fr.le_cons rfl ?_)) ⟨e3, e2, ht, by simp only; omega, hw.sub (by (repeat (first | with_reducible exact Sub.refl _ | exact Sub.nil _ | (apply Sub.cons; focus ((repeat (first | with_reducible exact Pick.here _ | apply Pick.there)); (first | done | fail))) | with_reducible apply Sub.drop)); first | done | fail)⟩ | exact joinb2 (s, t') w _ (by repeat (first | exact Fr.le_nil _ | refine Fr.le_cons rfl ?_)) ⟨hl, hz, by simp only; omega, by simp only; omega, hw.sub (by (repeat (first | with_reducible exact Sub.refl _ | exact Sub.nil _ | (apply Sub.cons; focus ((repeat (first | with_reducible exact Pick.here _ | apply Pick.there)); (first | done | fail))) | with_reducible apply Sub.drop)); first | done | fail)⟩ | exact joinb2 (s, t1) w _ (by repeat (first | exact Fr.le_nil _ | refine Fr.le_cons rfl ?_)) ⟨hl, hz, by simp only; omega, by simp only; omega, hw.sub (by (repeat (first | with_reducible exact Sub.refl _ | exact Sub.nil _ | (apply Sub.cons; focus ((repeat (first | with_reducible exact Pick.here _ | apply Pick.there)); (first | done | fail))) | with_reducible apply Sub.drop)); first | done | fail)⟩
      · try with_reducible exact tf_elim h3
        all_goals
          try replace h3 := of_decide_eq_false h3
          refine g_exit rfl (g_seq ?_)
          refine g_region ?_
          refine rl_v rfl rfl rfl (S := fun _ => True) trivial (v_assign rfl) ?_
          refine rl_nil (g_le (Fr.le_keep (Fr.le_refl _)) ?_)
          refine g_ret1 Try.func9 rfl rfl ?_
          exact ⟨rfl, hw.sub (by (repeat (first | with_reducible exact Sub.refl _ | exact Sub.nil _ | (apply Sub.cons; focus ((repeat (first | with_reducible exact Pick.here _ | apply Pick.there)); (first | done | fail))) | with_reducible apply Sub.drop)); first | done | fail)⟩
  · intro joinr6
    refine g_region ?_
    refine rl_v rfl rfl rfl (S := fun _ => True) trivial (v_move rfl) ?_
    first | (refine rl_v rfl rfl rfl (S := fun _ => True) trivial (v_lssT rfl rfl (by omega)) ?_) | (refine rl_v rfl rfl rfl (S := fun _ => True) trivial (v_lssF rfl rfl (by omega)) ?_) | (refine rl_v rfl rfl rfl (S := fun _ => True) trivial (v_lss rfl rfl) ?_)
    refine rl_v rfl rfl rfl (S := fun _ => True) trivial (v_move rfl) ?_
    refine rl_split (s := 34) rfl (fun g6_2 => ?_) (fun g6_2 => ?_)
    · try with_reducible exact ft_elim g6_2
      all_goals
        try replace g6_2 := of_decide_eq_true g6_2
        refine rl_off (met_off rfl rfl rfl rfl rfl) rfl rfl ?_
        refine rl_off (met_off rfl rfl rfl rfl rfl) rfl rfl ?_
        first | (refine rl_v rfl rfl rfl (S := fun _ => True) trivial (v_pick_true rfl rfl) ?_) | (refine rl_v rfl rfl rfl (S := fun _ => True) trivial (v_pick_false rfl rfl) ?_) | (refine rl_v rfl rfl rfl (S := fun _ => True) trivial (v_pick rfl rfl rfl) ?_)
        refine rl_nil (g_le (Fr.le_keep (Fr.le_skip rfl (Fr.le_skip rfl (Fr.le_skip rfl (Fr.le_skip rfl (Fr.le_skip rfl (Fr.le_refl _))))))) ?_)
        refine g_cond rfl (fun h2 => ?_) (fun h2 => ?_)
        · try with_reducible exact ft_elim h2
          all_goals
            try replace h2 := of_decide_eq_true h2
            refine g_region ?_
            refine rl_v rfl rfl rfl (S := fun _ => True) trivial (v_assign rfl) ?_
            refine rl_nil (g_le (Fr.le_keep (Fr.le_refl _)) ?_)
            exact joinr6 _ w _ (by repeat (first | exact Fr.le_nil _ | refine Fr.le_cons rfl ?_)) ⟨by omega, by omega, hw.sub (by (repeat (first | with_reducible exact Sub.refl _ | exact Sub.nil _ | (apply Sub.cons; focus ((repeat (first | with_reducible exact Pick.here _ | apply Pick.there)); (first | done | fail))) | with_reducible apply Sub.drop)); first | done | fail)⟩
        · try with_reducible exact tf_elim h2
          all_goals
            try replace h2 := of_decide_eq_false h2
            refine g_skip ?_
            exact joinr6 _ w _ (by repeat (first | exact Fr.le_nil _ | refine Fr.le_cons rfl ?_)) ⟨by omega, by omega, hw.sub (by (repeat (first | with_reducible exact Sub.refl _ | exact Sub.nil _ | (apply Sub.cons; focus ((repeat (first | with_reducible exact Pick.here _ | apply Pick.there)); (first | done | fail))) | with_reducible apply Sub.drop)); first | done | fail)⟩
    · try with_reducible exact tf_elim g6_2
      all_goals
        try replace g6_2 := of_decide_eq_false g6_2
        refine rl_vg (met_on rfl rfl rfl rfl) rfl rfl (S := fun _ => True) trivial (v_move rfl) ?_
        first | (refine rl_vg (met_on rfl rfl rfl rfl) rfl rfl (S := fun _ => True) trivial (v_gtrT rfl rfl (by omega)) ?_) | (refine rl_vg (met_on rfl rfl rfl rfl) rfl rfl (S := fun _ => True) trivial (v_gtrF rfl rfl (by omega)) ?_) | (refine rl_vg (met_on rfl rfl rfl rfl) rfl rfl (S := fun _ => True) trivial (v_gtr rfl rfl) ?_)
        first | (refine rl_v rfl rfl rfl (S := fun _ => True) trivial (v_pick_true rfl rfl) ?_) | (refine rl_v rfl rfl rfl (S := fun _ => True) trivial (v_pick_false rfl rfl) ?_) | (refine rl_v rfl rfl rfl (S := fun _ => True) trivial (v_pick rfl rfl rfl) ?_)
        refine rl_nil (g_le (Fr.le_keep (Fr.le_skip rfl (Fr.le_skip rfl (Fr.le_skip rfl (Fr.le_skip rfl (Fr.le_skip rfl (Fr.le_refl _))))))) ?_)
        refine g_cond rfl (fun h2 => ?_) (fun h2 => ?_)
        · try with_reducible exact ft_elim h2
          all_goals
            try replace h2 := of_decide_eq_true h2
            refine g_region ?_
            refine rl_v rfl rfl rfl (S := fun _ => True) trivial (v_assign rfl) ?_
            refine rl_nil (g_le (Fr.le_keep (Fr.le_refl _)) ?_)
            exact joinr6 _ w _ (by repeat (first | exact Fr.le_nil _ | refine Fr.le_cons rfl ?_)) ⟨by omega, by omega, hw.sub (by (repeat (first | with_reducible exact Sub.refl _ | exact Sub.nil _ | (apply Sub.cons; focus ((repeat (first | with_reducible exact Pick.here _ | apply Pick.there)); (first | done | fail))) | with_reducible apply Sub.drop)); first | done | fail)⟩
        · try with_reducible exact tf_elim h2
          all_goals
            try replace h2 := of_decide_eq_false h2
            refine g_skip ?_
            exact joinr6 _ w _ (by repeat (first | exact Fr.le_nil _ | refine Fr.le_cons rfl ?_)) ⟨by omega, by omega, hw.sub (by (repeat (first | with_reducible exact Sub.refl _ | exact Sub.nil _ | (apply Sub.cons; focus ((repeat (first | with_reducible exact Pick.here _ | apply Pick.there)); (first | done | fail))) | with_reducible apply Sub.drop)); first | done | fail)⟩

set_option maxRecDepth 100000 in
theorem CellShares_lifted (os : Os) (started : os.Started) (H : Type) (enc : TypeId × Value → H) :
    ReturnsInHanded {} Try.checked os 9 .any (Rows.cellSharesSpec.pre6 enc Try.prog Try.f9 Rows.cellSharesRow.domain false) (Rows.cellSharesSpec.post enc Try.prog Try.f9 false true false false) := by
  refine returnsInHanded_of_change_sized (C := Try.checked) T.own started (by kernel_rfl) Try.func9
    (ChangeSpec.witness6 (enc := enc) (C := Try.checked) false ⟨#[], #[(.slice none 0 0), (.int .i64 0)], []⟩ 8 (by kernel_rfl) (by kernel_rfl) (by kernel_rfl) (by kernel_rfl)) ?_
  intro W base args ds gs before hval0 hW hcnd hsz0 _
  have hval : ∀ (j : Nat) t v, Try.f9.params[j]? = some t → args[j]? = some v → Value.okWide Try.prog W .any base t v := hval0
  have hW' := hW
  obtain ⟨p, q, hA0, hV, rfl, hfz, hnd⟩ := hW
  have hA : DataW.TrodAll enc Try.prog W 0 (fun _ => true) true Try.f9.params.toList args.toList ds p := hA0
  obtain ⟨rfl, rfl⟩ := trodVars_none hV
  have hsz : (DataW.weightsEach Try.prog (Try.f9.params.toList ++ []) (ds ++ [])).all (· ≤ reachBytes) = true := hsz0
  rw [List.append_nil, List.append_nil] at hsz
  rw [Try.params9] at hA hval hsz
  obtain ⟨v0, vs0, d0, ds0, p0, q0, hargs, rfl, rfl, h0, r0⟩ := trodAll_cons hA
  obtain ⟨v1, vs1, d1, ds1, p1, q1, rfl, rfl, rfl, h1, r1⟩ := trodAll_cons r0
  obtain ⟨rfl, rfl, rfl⟩ := trodAll_nil r1
  obtain rfl : args = #[v0, v1] := by cases args; simp_all
  have lt0 : ∀ x ∈ p0, x.block < W.heap.size := by obtain ⟨m, hm⟩ := h0; exact DataW.trod_lt m _ _ _ hm
  obtain ⟨x0, w0⟩ := arg_of (j := 0) (reads_sl T.sl_74_3_1 T.bytes_3_8 (by decide) (reads_int T.int_3_i64)) h0 hsz rfl rfl
  have lt1 : ∀ x ∈ p1, x.block < W.heap.size := by obtain ⟨m, hm⟩ := h1; exact DataW.trod_lt m _ _ _ hm
  obtain ⟨x1, w1⟩ := arg_of (j := 1) (reads_int T.int_3_i64) h1 hsz rfl rfl
  obtain ⟨a0, l0, c0, rfl⟩ := okWide_slice Try.underlying74 (hval 0 74 v0 rfl rfl)
  obtain ⟨n1, rfl⟩ := okWide_int Try.underlying3 (hval 1 3 v1 rfl rfl)
  obtain ⟨hc1, hr1⟩ := w1
  cases hc1
  refine (CellShares_law w0 hr1).mono fun e W' ⟨he, hb⟩ => ?_
  have bel := hb.below
  subst he
  exact ⟨_, rfl, _, _, _, [], _, [], hW', trodAll_mk1 (shut_bool Try.underlying4 _), (trodAll_cons_mk (Below.trod T.laidOut (by kernel_rfl) (of_decide_eq_true (by kernel_rfl)) h0 bel lt0) (trodAll_cons_mk (Below.trod T.laidOut (by kernel_rfl) (of_decide_eq_true (by kernel_rfl)) h1 bel lt1) trodAll_mk0)), rfl, bel.frame _, fun h => by cases h⟩
theorem CellShares_holds : Rows.CellSharesSaid :=
  OpenClaim.holds_of_wide 9 Try.f9 rfl rfl rfl rfl rfl rfl rfl ⟨rfl, rfl, rfl, rfl, rfl⟩ rfl rfl rfl rfl rfl (by kernel_rfl) Try.func9 (by kernel_rfl)
    (of_decide_eq_true (by kernel_rfl)) (by unfold Func.isWrapper; rw [if_neg (of_decide_eq_false (by kernel_rfl))]; exact ⟨rfl, rfl⟩)
    (fun os started H enc _ => CellShares_lifted os started H enc)
#print axioms CellShares_holds

end Go.Proofs.Ytdebodbkggbjeaa
