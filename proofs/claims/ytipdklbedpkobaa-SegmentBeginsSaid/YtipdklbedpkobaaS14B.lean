/-
  SegmentBegins: a log that is begun as another one stands, with what is live there, tells the same, and goes on alike.
-/
import Derived.Test.YtipdklbedpkobaaS14q
import Derived.Test.YtipdklbedpkobaaRows
namespace Go.Proofs.Ytipdklbedpkobaa
set_option maxRecDepth 8000
set_option linter.unusedSimpArgs false
set_option linter.unusedVariables false
open Go Xe Go.Lib Go.RowKit Go.ChangeShapes Go.WideShapes Go.ChangeAt
structure Begun14 where
  segments : Int
  size : Int
  script : (List Op14)
  more : (List ByteArray)
instance : DecidableEq Begun14 := fun a b => decidable_of_iff (a.segments = b.segments ∧ a.size = b.size ∧ a.script = b.script ∧ a.more = b.more) (by cases a; cases b; simp)
def rdBegun14 : Rd Begun14 := fun w cs x => ∃ c0 c1 c2 c3, cs = [c0, c1, c2, c3] ∧ (rdInt .i64) w [c0] x.segments ∧ (rdInt .i64) w [c1] x.size ∧ (rdSl 64 5 rdOp14) w [c2] x.script ∧ (rdSl 16 1 rdStr) w [c3] x.more
theorem mono_Begun14 : Rd.Mono rdBegun14 := fun l cs x h => by
  obtain ⟨c0, c1, c2, c3, rfl, h0, h1, h2, h3⟩ := h
  exact ⟨_, _, _, _, rfl, mono_int l h0, mono_int l h1, (mono_sl @mono_Op14) l h2, (mono_sl mono_str) l h3⟩
theorem one_Begun14 : Rd.One rdBegun14 := fun h => by
  obtain ⟨c0, c1, c2, c3, rfl, h0, h1, h2, h3⟩ := h
  intro u hu
  simp only [List.mem_cons, List.not_mem_nil, or_false] at hu
  rcases hu with rfl | rfl | rfl | rfl
  · exact one_int h0 _ (by simp)
  · exact one_int h1 _ (by simp)
  · exact one_sl h2 _ (by simp)
  · exact one_sl h3 _ (by simp)
theorem reads_Begun14 {H : Type} {enc : TypeId × Value → H} : Reads enc Try.prog 78 rdBegun14 := fun w fuel cs d ps h hz => by
  have hl := reads_length T.agg_78_4 (by kernel_rfl) h hz
  obtain ⟨c0, c1, c2, c3, rfl⟩ : ∃ c0 c1 c2 c3, cs = [c0, c1, c2, c3] := by
    match cs, hl with
    | [c0, c1, c2, c3], _ => exact ⟨_, _, _, _, rfl⟩
  obtain ⟨x0, h0⟩ := reads_field (i := 0) (off := 0) (k := 1) (ft := 3) (by kernel_rfl) h hz (reads_int T.int_3_i64)
  obtain ⟨x1, h1⟩ := reads_field (i := 1) (off := 1) (k := 1) (ft := 3) (by kernel_rfl) h hz (reads_int T.int_3_i64)
  obtain ⟨x2, h2⟩ := reads_field (i := 2) (off := 2) (k := 1) (ft := 69) (by kernel_rfl) h hz (reads_sl T.sl_69_72_5 T.bytes_72_64 (by decide) reads_Op14)
  obtain ⟨x3, h3⟩ := reads_field (i := 3) (off := 3) (k := 1) (ft := 54) (by kernel_rfl) h hz (reads_sl T.sl_54_9_1 T.bytes_9_16 (by decide) (reads_str T.str_9))
  exact ⟨⟨x0, x1, x2, x3⟩, _, _, _, _, rfl, h0, h1, h2, h3⟩
theorem own_len' {E : Env} {w : World} {L : List As} {e sz n : Nat} {v : Value} {xs : List Value} (h : Sat E w (OwnSl e sz v n xs :: L)) : xs.length = n * sz := by
  obtain ⟨_, _, ⟨h1, _, _, _, hA, _⟩, _⟩ := h
  rcases hA with ⟨a, _, rfl, rfl, _⟩ | ⟨hl, _⟩
  · simp
  · exact hl
theorem md_used {md : Md} {i : Int} (h0 : 0 ≤ i) (h1 : i < md.segs.length) : md.used i = (md.seg i).size := by unfold Md.used; rw [if_pos ⟨h0, h1⟩]
/-- What fits the log that stood fits the one that is begun. -/
theorem begin_fits {size o : Int} {ss : List Sg} {md : Md} {pw : Pw} {ps : List Pl} (K : LgK size o ss md pw) (hf : fitsP (usedS ss) ss.length ps) : fitsP (bgU o (sgAt ss o).used md) ss.length ps := by
  refine ⟨fun p hp => ?_, hf.2⟩
  have h := hf.1 p hp
  unfold within at h ⊢
  have hx := sgAt_some h.1 h.2.1
  have hl := K.I.len
  have hk1 : (sgAt ss p.seg).kind ≠ 1 := fun hk => by
    have h5 := h.2.2.2.2
    unfold usedS at h5
    rw [if_pos hk] at h5
    omega
  have hu1 : usedS ss p.seg = (sgAt ss p.seg).used := by unfold usedS; rw [if_neg hk1]
  have hfu := K.fu _ _ hx hk1
  rw [show ((p.seg.toNat : Nat) : Int) = p.seg by omega] at hfu
  have : usedS ss p.seg ≤ bgU o (sgAt ss o).used md p.seg := by
    rw [hu1]
    unfold bgU
    split
    · rename_i he; rw [he]; exact Int.le_refl _
    · rw [md_used h.1 (by omega)]; exact hfu
  omega
theorem begun_get (u : Int → Int) (op : Int) (ss : List Sg) (ps : List Pl) (i : Nat) : (begun u op ss ps)[i]? = ss[i]?.map fun _ => ⟨if (i : Int) = op then 3 else if liveOf ps i > 0 then 2 else 1, u i, liveOf ps i⟩ := by
  unfold begun; rw [List.getElem?_mapIdx]
/-- A log that is begun stands as the other. -/
theorem begun_k {size o : Int} {ss s0 : List Sg} {md : Md} {pw : Pw} {ps : List Pl} (K : LgK size o ss md pw) (hl0 : s0.length = ss.length) (hf : fitsP (usedS ss) ss.length ps) : LgK size o (begun (bgU o (sgAt ss o).used md) o s0 ps) md pw := by
  have I := K.I
  have hlen := I.len
  have hbl := begun_len (bgU o (sgAt ss o).used md) o s0 ps
  have hox := sgAt_some I.o0 I.o1
  have hou := I.us _ (List.mem_of_getElem? hox)
  have hoy := sgAt_some (ss := begun (bgU o (sgAt ss o).used md) o s0 ps) I.o0 (by rw [hbl, hl0]; exact I.o1)
  have hoo : sgAt (begun (bgU o (sgAt ss o).used md) o s0 ps) o = ⟨3, (sgAt ss o).used, liveOf ps o⟩ := by
    rw [begun_get] at hoy
    obtain ⟨z, _, hz⟩ := Option.map_eq_some_iff.1 hoy
    rw [← hz, show ((o.toNat : Nat) : Int) = o by have := I.o0; omega, if_pos rfl]
    unfold bgU; rw [if_pos rfl]
  have hub : ∀ i : Nat, (i : Int) < ss.length → 0 ≤ bgU o (sgAt ss o).used md i ∧ bgU o (sgAt ss o).used md i ≤ (md.seg i).size ∧ bgU o (sgAt ss o).used md i ≤ md.size := fun i hi => by
    unfold bgU
    split
    · rename_i he
      have := I.ou
      rw [he]
      omega
    · have h2 := Md.seg_le I.ok (i := (i : Int)) ⟨by omega, by omega⟩
      rw [md_used (by omega) (by omega)]
      omega
  refine ⟨⟨I.ok, I.size, by rw [hbl, hl0]; exact hlen, I.o0, by rw [hbl, hl0]; exact I.o1, by rw [hoo], by rw [hoo]; exact I.ou, ?_, I.pok, I.on⟩, ?_, ?_, ?_⟩
  · intro y hy
    obtain ⟨i, hi⟩ := List.getElem?_of_mem hy
    rw [begun_get] at hi
    obtain ⟨z, hz, rfl⟩ := Option.map_eq_some_iff.1 hi
    have := hub i (by have := (List.getElem?_eq_some_iff.1 hz).1; omega)
    dsimp only
    omega
  · intro i y hi
    rw [begun_get] at hi
    obtain ⟨z, hz, rfl⟩ := Option.map_eq_some_iff.1 hi
    dsimp only
    by_cases he : (i : Int) = o
    · rw [if_pos he]; exact ⟨⟨fun _ => he, fun _ => rfl⟩, by omega⟩
    · rw [if_neg he]
      split
      · exact ⟨⟨fun h => absurd h (by omega), fun h => absurd h he⟩, by omega⟩
      · exact ⟨⟨fun h => absurd h (by omega), fun h => absurd h he⟩, by omega⟩
  · intro i y hi hk
    rw [begun_get] at hi
    obtain ⟨z, hz, rfl⟩ := Option.map_eq_some_iff.1 hi
    exact (hub i (by have := (List.getElem?_eq_some_iff.1 hz).1; omega)).2.1
  · intro y hy hk
    obtain ⟨i, hi⟩ := List.getElem?_of_mem hy
    rw [begun_get] at hi
    obtain ⟨z, hz, rfl⟩ := Option.map_eq_some_iff.1 hi
    dsimp only at hk ⊢
    have h0 := liveOf_nonneg (s := (i : Int)) (fun p hp => (hf.1 p hp).2.2.1)
    split at hk
    · omega
    · split at hk
      · omega
      · omega
/-- Kinds and live bytes are the same. -/
theorem begun_same {size o : Int} {ss s0 : List Sg} {md : Md} {pw : Pw} {ps : List Pl} (K : LgK size o ss md pw) (hl0 : s0.length = ss.length) (hf : fitsP (usedS ss) ss.length ps) (u : Int → Int) (i : Nat) (x y : Sg) (hx : (settled ss ps)[i]? = some x) (hy : (begun u o s0 ps)[i]? = some y) : x.kind = y.kind ∧ x.live = y.live := by
  obtain ⟨z, hz, _, hlv, hk⟩ := settled_sg ps hx
  rw [begun_get] at hy
  obtain ⟨z2, _, rfl⟩ := Option.map_eq_some_iff.1 hy
  have hkd := K.kd i z hz
  have hl := K.lv z (List.mem_of_getElem? hz)
  have h0 := liveOf_nonneg (s := (i : Int)) (fun p hp => (hf.1 p hp).2.2.1)
  have hfree : z.kind = 1 → liveOf ps i = 0 := fun hk1 => by
    refine liveOf_zero fun p hp e => ?_
    have := hf.1 p hp
    unfold within usedS at this
    rw [e, sgAt_get hz, if_pos hk1] at this
    omega
  refine ⟨?_, hlv⟩
  dsimp only
  split
  · omega
  · split
    · omega
    · omega
theorem ofS_same (k : Int) : ∀ (xs ys : List Sg) (i : Int), xs.length = ys.length → (∀ (j : Nat) (x y : Sg), xs[j]? = some x → ys[j]? = some y → x.kind = y.kind) → ofS k xs i = ofS k ys i
  | [], [], _, _, _ => rfl
  | [], _ :: _, _, h, _ => by simp at h
  | _ :: _, [], _, h, _ => by simp at h
  | x :: xs, y :: ys, i, hl, h => by
    have h0 := h 0 x y rfl rfl
    have ih := ofS_same k xs ys (i + 1) (by simpa using hl) (fun j a b ha hb => h (j + 1) a b (by rw [List.getElem?_cons_succ]; exact ha) (by rw [List.getElem?_cons_succ]; exact hb))
    simp only [ofS, h0, ih]
theorem app_frees {size o : Int} {ss : List Sg} {md : Md} {pw : Pw} {v : ByteArray} {r : Ap} {at_ : Int} (K : LgK size o ss md pw) (A : AppK size o ss md v r at_) : frees r.ss + (if r.o = o then 0 else 1) = frees ss := by
  have hu := A.K.I.us _ (List.mem_of_getElem? (sgAt_some A.K.I.o0 A.K.I.o1))
  have hs := A.K.I.size
  have hus := A.us
  have ha := A.a0
  have hl := A.len
  have hou := K.I.ou
  have h1 := A.K.I.o1
  rw [A.hs]
  refine (put_step K.I v r.o at_ A.K.I.o0 (by omega) ha ?_ (by omega) (A.way.elim (fun h => .inl h.1) (fun h => .inr h.2.2.2.1))).2.2.1
  rcases A.way with ⟨h1, h2⟩ | ⟨_, h2, _⟩
  · rw [h1, h2]; exact hou
  · rw [h2]; omega
set_option maxHeartbeats 8000000 in
theorem SegmentBegins_law {w : World} {cs : Array Value} {x : Begun14} (hr : rdArg rdBegun14 w (.agg cs) x) : Law Try.prog 7 [.agg cs] w := by
  obtain ⟨cs⟩ := cs
  obtain ⟨d0, d1, d2, d3, hcs, ⟨h0, _⟩, ⟨h1, _⟩, hsl, hsl2⟩ := hr
  simp only [List.cons.injEq, and_true] at h0 h1
  subst h0; subst h1
  obtain ⟨a1, n1, c1, rfl⟩ : ∃ a len cap, d2 = .slice a len cap := by
    rcases hsl with ⟨a, h, _⟩ | ⟨b, o, cap, h, _⟩ <;> simp only [List.cons.injEq, and_true] at h <;> exact ⟨_, _, _, h⟩
  obtain ⟨a2, n2, c2, rfl⟩ : ∃ a len cap, d3 = .slice a len cap := by
    rcases hsl2 with ⟨a, h, _⟩ | ⟨b, o, cap, h, _⟩ <;> simp only [List.cons.injEq, and_true] at h <;> exact ⟨_, _, _, h⟩
  obtain ⟨sg, sz, xs, ys⟩ := x
  have hcs : cs = [.int .i64 sg, .int .i64 sz, .slice a1 n1 c1, .slice a2 n2 c2] := hcs
  subst hcs
  unfold Law
  have hw := Sat.old w
  generalize w = W at hsl hsl2 hw ⊢
  have hr : (rdSl 64 5 rdOp14) (hpOf W) [.slice a1 n1 c1] xs := hsl
  have hr2 : (rdSl 16 1 rdStr) (hpOf W) [.slice a2 n2 c2] ys := hsl2
  clear hsl hsl2
  obtain ⟨rfl, hxb, _, hxm, _⟩ := rdSl_get hr
  obtain ⟨rfl, hyb, _, hym, gy⟩ := rdSl_get hr2
  simp only [maxLen] at hxm hym
  simp only [reachBytes] at hxb hyb
  have hw : Sat (envOf W) W [RO (hpOf W)] := hw
  refine calls_of_g (n := 230) Try.func7 rfl rfl rfl ?_
  change G _ _ _ _ _ [(0, _)] _
  refine g_seq ?_
  refine g_region ?_
  refine rl_k rfl (k_box hw rfl rfl rfl (fun bk0_0 w hw => ?_))
  refine xV rfl rfl rfl (v_assign rfl) ?_
  refine rl_nil (g_le (xK (xK (Fr.le_refl _))) ?_)
  refine g_seq ?_
  refine g_region ?_
  refine rl_k rfl (k_callf Try.func19 rfl rfl rfl rfl ?_)
  refine Calls.mono (awake_calls (hw.xQ)) ?_
  rintro _ w ⟨rfl, hw⟩
  refine ⟨_, rfl, ?_⟩
  refine xV rfl rfl rfl (v_assign rfl) ?_
  refine rl_nil (g_le (xK (xS rfl (Fr.le_refl _))) ?_)
  refine g_seq ?_
  refine g_region ?_
  refine xV rfl rfl rfl (v_fieldAddr0 T.fld_78_0_0 rfl) ?_
  refine rl_v rfl rfl rfl (by exact sat_cell hw (by (repeat first | with_reducible exact xH | apply xT); first | done | fail) rfl) (v_load T.scal_3 rfl) ?_
  refine rl_k rfl (k_callf Try.func20 rfl rfl rfl rfl ?_)
  have hpb := pickV_bound sg 12 (by omega)
  refine Calls.mono (pickV_calls sg 12 (by omega) (by omega) hw) ?_
  generalize pickV sg 12 = n0 at hpb ⊢
  rintro _ w ⟨rfl, hw⟩
  refine ⟨_, rfl, ?_⟩
  refine xV rfl rfl rfl (v_add rfl rfl (by omega)) ?_
  refine xV rfl rfl rfl (v_assign rfl) ?_
  refine rl_nil (g_le (xK (xS rfl (xS rfl (xS rfl (xS rfl (Fr.le_refl _)))))) ?_)
  refine g_seq ?_
  refine g_region ?_
  refine xV rfl rfl rfl (v_fieldAddr0 T.fld_78_1_1 rfl) ?_
  refine rl_v rfl rfl rfl (by exact sat_cell hw (by (repeat first | with_reducible exact xH | apply xT); first | done | fail) rfl) (v_load T.scal_3 rfl) ?_
  refine rl_k rfl (k_callf Try.func20 rfl rfl rfl rfl ?_)
  have hpc := pickV_bound sz 100 (by omega)
  refine Calls.mono (pickV_calls sz 100 (by omega) (by omega) hw) ?_
  generalize pickV sz 100 = z0 at hpc ⊢
  rintro _ w ⟨rfl, hw⟩
  refine ⟨_, rfl, ?_⟩
  refine xV rfl rfl rfl (v_add rfl rfl (by omega)) ?_
  refine xV rfl rfl rfl (v_assign rfl) ?_
  refine rl_nil (g_le (xK (xS rfl (xS rfl (xS rfl (xS rfl (Fr.le_refl _)))))) ?_)
  refine g_seq ?_
  refine g_region ?_
  refine xV rfl rfl rfl (v_fieldAddr0 T.fld_78_2_2 rfl) ?_
  refine rl_v rfl rfl rfl (by exact sat_cell hw (by (repeat first | with_reducible exact xH | apply xT); first | done | fail) rfl) (v_load T.scal_69 rfl) ?_
  refine xV rfl rfl rfl (v_assign rfl) ?_
  refine rl_nil (g_le (xK (xS rfl (xS rfl (Fr.le_refl _)))) ?_)
  refine g_seq ?_
  refine g_region ?_
  refine xV rfl rfl rfl (v_fieldAddr0 T.fld_78_3_3 rfl) ?_
  refine rl_v rfl rfl rfl (by exact sat_cell hw (by (repeat first | with_reducible exact xH | apply xT); first | done | fail) rfl) (v_load T.scal_54 rfl) ?_
  refine xV rfl rfl rfl (v_assign rfl) ?_
  refine rl_nil (g_le (xK (xS rfl (xS rfl (Fr.le_refl _)))) ?_)
  refine g_seq ?_
  obtain ⟨n, hnn⟩ : ∃ n : Nat, 1 + n0 = (n : Int) := ⟨(1 + n0).toNat, by omega⟩
  obtain ⟨size, hsz⟩ : ∃ size, 1 + z0 = size := ⟨_, rfl⟩
  rw [hnn, hsz]
  refine g_region ?_
  refine rl_k rfl (k_callf Try.func10 rfl rfl rfl rfl ?_)
  refine Calls.mono (new_calls (hw.xQ)) ?_
  rintro _ w ⟨p, rfl, hw⟩
  refine ⟨_, rfl, ?_⟩
  refine xV rfl rfl rfl (v_move rfl) ?_
  refine xV rfl rfl rfl (v_move rfl) ?_
  refine rl_k rfl (k_callf Try.func9 rfl rfl rfl rfl ?_)
  refine Calls.mono (mnew_calls p (n : Int) size (by omega) (by omega) (by omega) (by omega) hw) ?_
  rw [Int.toNat_natCast]
  rintro _ w ⟨m, rfl, hw⟩
  refine ⟨_, rfl, ?_⟩
  refine xV rfl rfl rfl (v_move rfl) ?_
  refine xV rfl rfl rfl (v_extract rfl rfl) ?_
  refine xV rfl rfl rfl (v_extract rfl rfl) ?_
  refine xV rfl rfl rfl (v_assign rfl) ?_
  refine xV rfl rfl rfl (v_assign rfl) ?_
  refine rl_nil (g_le (xK (xK (xS rfl (xS rfl (xS rfl (xS rfl (xS rfl (xS rfl (xS rfl (Fr.le_refl _)))))))))) ?_)
  refine g_seq (g_seq ?_)
  refine g_region ?_
  refine xV rfl rfl rfl (v_move rfl) ?_
  refine xV rfl rfl rfl (v_not rfl) ?_
  refine xV rfl rfl rfl (v_move rfl) ?_
  refine rl_split (s := 50) rfl (fun g7_2 => ?_) (fun g7_2 => ?_)
  · try with_reducible exact ft_elim g7_2
    all_goals
      try replace g7_2 := of_decide_eq_true g7_2
      simp at g7_2
  · try with_reducible exact tf_elim g7_2
    all_goals
      try replace g7_2 := of_decide_eq_false g7_2
      refine rl_vg (met_on rfl rfl rfl rfl) rfl rfl (S := fun _ => True) trivial (v_move rfl) ?_
      refine rl_vg (met_on rfl rfl rfl rfl) rfl rfl (S := fun _ => True) trivial (v_eqlNil T.ptr_24 rfl rfl) ?_
      refine xV rfl rfl rfl (v_pick_false rfl rfl) ?_
      refine xV rfl rfl rfl (v_move rfl) ?_
      refine rl_split (s := 54) rfl (fun g7_6 => ?_) (fun g7_6 => ?_)
      · try with_reducible exact ft_elim g7_6
        all_goals
          try replace g7_6 := of_decide_eq_true g7_6
          simp at g7_6
      · try with_reducible exact tf_elim g7_6
        all_goals
          try replace g7_6 := of_decide_eq_false g7_6
          refine rl_vg (met_on rfl rfl rfl rfl) rfl rfl (S := fun _ => True) trivial (v_move rfl) ?_
          refine rl_vg (met_on rfl rfl rfl rfl) rfl rfl (S := fun _ => True) trivial (v_neqF rfl rfl (by omega)) ?_
          refine xV rfl rfl rfl (v_pick_false rfl rfl) ?_
          refine rl_nil (g_le (xK (xS rfl (xS rfl (xS rfl (xS rfl (xS rfl (xS rfl (xS rfl (xS rfl (xS rfl (xS rfl (xS rfl (Fr.le_refl _))))))))))))) ?_)
          refine g_cond_false rfl ?_
          refine g_skip (g_seq ?_)
          refine g_region ?_
          refine xV rfl rfl rfl (v_move rfl) ?_
          refine rl_k rfl (k_callf Try.func13 rfl rfl rfl rfl ?_)
          refine Calls.mono (snew_calls m p (newMd size n) hw) ?_
          rintro _ w ⟨l, b, c, rfl, hw⟩
          refine ⟨_, rfl, ?_⟩
          refine xV rfl rfl rfl (v_assign rfl) ?_
          refine rl_nil (g_le (xK (xS rfl (xS rfl (Fr.le_refl _)))) ?_)
          refine g_seq (g_seq ?_)
          refine g_region ?_
          refine xV rfl rfl rfl (v_move rfl) ?_
          refine xV rfl rfl rfl (v_eqlNil T.ptr_36 rfl rfl) ?_
          refine rl_nil (g_le (xK (xS rfl (Fr.le_refl _))) ?_)
          refine g_cond_false rfl ?_
          refine g_skip (g_seq ?_)
          have hnm : (newMd size n).segs.length = n := by simp [newMd]
          rw [hnm] at hw
          have K0 := new_LgK (size := size) (n := n) (by omega) (by omega) (by omega) (by omega)
          have hl0 := newSegs_len (n := n) (by omega)
          have hw : Sat (envOf W) w (pt l (.cells [Value.pointer (some ⟨m, 0, none⟩), .int .i64 0, .slice (some ⟨b, 0, none⟩) ((newSegs n) : List Sg).length c].toArray 47 (0, 0)) :: OwnSl 104 3 (.slice (some ⟨b, 0, none⟩) ((newSegs n)).length c) ((newSegs n)).length (((newSegs n)).flatMap Sg.cells) :: MdAt m p (newMd size n) :: PwAt p ⟨false, 0, 0⟩ :: [RO (hpOf W)]) := hw.xQ
          refine g_region ?_
          refine xV rfl rfl rfl (v_assign rfl) ?_
          refine rl_nil (g_le (xK (Fr.le_refl _)) ?_)
          refine g_seq (g_seq ?_)
          refine g_region ?_
          refine xV rfl rfl rfl (v_assign rfl) ?_
          refine rl_nil (g_le (xK (Fr.le_refl _)) ?_)
          refine g_block ?_
          refine g_loopC (σ := Nat × Int × List Sg × Md × Pw × Value × List Row14) (fun C x => (12, .int .i64 (x.1 : Nat)) :: (11, x.2.2.2.2.2.1) :: C) [(2, _), (4, _), (6, _), (7, _), (8, _), (10, _)] (by repeat (first | exact Fr.le_nil _ | refine Fr.le_cons rfl ?_)) (fun z w => z.1 ≤ xs.length ∧ LgK size z.2.1 z.2.2.1 z.2.2.2.1 z.2.2.2.2.1 ∧ z.2.2.1.length = n ∧ z.2.2.2.1.past.length ≤ z.1 ∧ PlI z.2.2.1 z.2.2.2.1 z.2.2.2.2.2.2 ∧ z.2.2.2.2.2.2.length ≤ z.1 ∧ Sat (envOf W) w (pt l (.cells [Value.pointer (some ⟨m, 0, none⟩), .int .i64 (z.2.1), .slice (some ⟨b, 0, none⟩) ((z.2.2.1) : List Sg).length c].toArray 47 (0, 0)) :: OwnSl 104 3 (.slice (some ⟨b, 0, none⟩) ((z.2.2.1)).length c) ((z.2.2.1)).length (((z.2.2.1)).flatMap Sg.cells) :: MdAt m p z.2.2.2.1 :: PwAt p z.2.2.2.2.1 :: OwnSl 58 3 ((z.2.2.2.2.2.1)) ((z.2.2.2.2.2.2) : List Row14).length ((((z.2.2.2.2.2.2) : List Row14).map Prod.fst).flatMap Pl.cells) :: [RO (hpOf W)])) (fun z => xs.length - z.1) ?_ (0, 0, newSegs n, newMd size n, ⟨false, 0, 0⟩, .slice none 0 0, []) (by repeat (first | exact Fr.le_nil _ | refine Fr.le_cons rfl ?_)) ⟨by simp, K0, hl0, by simp [newMd], PlI.nil _ _, by simp, by dsimp only; simp only [List.map_nil, List.flatMap_nil, List.length_nil]; exact (hw.own_nil 58 3).xQ⟩
          clear K0 hl0 hnm
          rintro ⟨i, o, ss, md, pw, pv, qs⟩ w ⟨hi1, K, hsl, hpl, P, hql, hw⟩ ih
          dsimp only at hi1 K hsl hpl P hql hw ih ⊢
          refine g_seq (g_seq ?_)
          refine g_region ?_
          refine xV rfl rfl rfl (v_move rfl) ?_
          refine xV rfl rfl rfl (v_move rfl) ?_
          refine xV rfl rfl rfl (v_lenSlice T.sl_69_72_5 rfl) ?_
          refine xV rfl rfl rfl (v_lss rfl rfl) ?_
          refine rl_nil (g_le (xK (xK (xK (xK (Fr.le_refl _))))) ?_)
          refine g_cond rfl (fun h3 => ?_) (fun h3 => ?_)
          · try with_reducible exact ft_elim h3
            all_goals
              try replace h3 := of_decide_eq_true h3
              refine g_skip (g_seq (g_block (g_seq (g_seq ?_))))
              have hlt : i < xs.length := by omega
              have hz := hw
              clear hw
              obtain ⟨b4, o4, x, pa, pn, pc, rfl, hx, hat1, hxs, hxp, hxa, hxb2⟩ := op14_at hr i hlt
              have hw := hz
              simp only [reachBytes] at hxs
              obtain ⟨pa2, pc2, hpv, _, _, _⟩ := (hw.xP (A := OwnSl 58 3 pv qs.length ((qs.map Prod.fst).flatMap Pl.cells))).own_shape
              subst hpv
              refine g_region ?_
              refine xV rfl rfl rfl (v_move rfl) ?_
              refine xV rfl rfl rfl (v_move rfl) ?_
              refine xV rfl rfl rfl (v_indexAddr T.sl_69_72_5 rfl rfl (by omega) (by omega)) ?_
              refine xV rfl rfl rfl (v_fieldAddr T.fld_72_0_0 rfl) ?_
              refine rl_v rfl rfl rfl (by exact ro_at0 hw (by (repeat first | with_reducible exact xH | apply xT); first | done | fail) (by assumption) rfl) (v_load T.scal_3 rfl) ?_
              refine xV rfl rfl rfl (v_eql rfl rfl) ?_
              refine rl_nil (g_le (xK (xK (xK (xK (xK (xK (Fr.le_refl _))))))) ?_)
              refine g_cond rfl (fun h4 => ?_) (fun h4 => ?_)
              · try with_reducible exact ft_elim h4
                all_goals
                  try replace h4 := of_decide_eq_true h4
                  refine g_seq ?_
                  refine g_region ?_
                  refine xV rfl rfl rfl (v_move rfl) ?_
                  refine xV rfl rfl rfl (v_move rfl) ?_
                  refine xV rfl rfl rfl (v_move rfl) ?_
                  refine xV rfl rfl rfl (v_indexAddr T.sl_69_72_5 rfl rfl (by omega) (by omega)) ?_
                  refine xV rfl rfl rfl (v_fieldAddr T.fld_72_1_1 rfl) ?_
                  refine rl_v rfl rfl rfl (by exact ro_at hw (by (repeat first | with_reducible exact xH | apply xT); first | done | fail) (by assumption) rfl) (v_load T.scal_9 rfl) ?_
                  refine rl_k rfl (k_callf Try.func22 rfl rfl rfl rfl ?_)
                  refine Calls.mono (append_calls (l := l) (m := m) (p := p) (b := b) (c := c) (o := o) (ss := ss) (md := md) (pw := pw) x.bytes K.I.len ⟨K.I.o0, K.I.o1⟩ K.I.us K.I.pok (by omega) (hw.xQ)) ?_
                  have hap := app_k K x.bytes
                  generalize appL o ss md pw x.bytes = r at hap ⊢
                  rintro _ w ⟨rfl, hw⟩
                  refine ⟨_, rfl, ?_⟩
                  refine xV rfl rfl rfl (v_move rfl) ?_
                  refine xV rfl rfl rfl (v_extract rfl rfl) ?_
                  refine xV rfl rfl rfl (v_extract rfl rfl) ?_
                  refine rl_k rfl (k_alloc hw T.zero_58 rfl rfl (fun bk17_10 w hw => ?_))
                  refine rl_k rfl (k_storeWhole hw T.agg_58_3 rfl rfl (by simp [Value.oneCell']) rfl (by (repeat first | with_reducible exact xH | apply xT); first | done | fail) rfl (fun w hw => ?_))
                  refine xV rfl rfl rfl (v_assign rfl) ?_
                  refine rl_nil (g_le (xK (xK (xK (xK (xK (xK (xK (xK (xK (xK (xK (xK (Fr.le_refl _))))))))))))) ?_)
                  refine g_seq (g_seq ?_)
                  refine g_region ?_
                  refine xV rfl rfl rfl (v_move rfl) ?_
                  refine xV rfl rfl rfl (v_eql rfl rfl) ?_
                  refine rl_nil (g_le (xK (xK (Fr.le_refl _))) ?_)
                  refine g_cond rfl (fun h5 => ?_) (fun h5 => ?_)
                  · try with_reducible exact ft_elim h5
                    all_goals
                      try replace h5 := of_decide_eq_true h5
                      have hz := hw
                      clear hw
                      rcases hap with ⟨e, he, rfl, _⟩ | ⟨at_, hA⟩
                      · exact absurd h5 he
                      have P2 := P.app K hA
                      obtain ⟨ra, rb, o2, ss2, md2, pw2⟩ := r
                      obtain ⟨hb0, K2, hp2, hl2, hv2, hat2, _, _, _, _, _⟩ := hA
                      dsimp only at hb0 K2 hp2 hl2 hv2 hat2 P2 hz ⊢
                      subst hb0
                      subst hat2
                      dsimp only at hz ⊢
                      have hw := hz
                      have hlq : ((qs.map Prod.fst).flatMap Pl.cells).length = qs.length * 3 := own_len' (hw.xP (A := OwnSl 58 3 (.slice pa2 qs.length pc2) qs.length ((qs.map Prod.fst).flatMap Pl.cells)))
                      refine g_region ?_
                      refine xV rfl rfl rfl (v_move rfl) ?_
                      refine rl_v rfl rfl rfl (by exact sat_cells hw (by (repeat first | with_reducible exact xH | apply xT); first | done | fail) ⟨rfl, rfl, rfl, trivial⟩) (v_loadAgg (vs := [_, _, _]) T.agg_58_3 rfl rfl) ?_
                      refine rl_k rfl (k_buildSlice (cells := [_, _, _]) hw T.sl_70_58_3 T.zero_58 rfl rfl rfl rfl rfl rfl (fun bk19_2 w hw => ?_))
                      refine rl_k rfl (k_append (news := [_, _, _]) hw T.sl_70_58_3 T.zero_58 T.bytes_58_24 rfl (by decide) rfl rfl (by (repeat first | with_reducible exact xH | apply xT); first | done | fail) rfl (by exact sat_cells hw (by (repeat first | with_reducible exact xH | apply xT); first | done | fail) ⟨rfl, rfl, rfl, trivial⟩) (by simp [Value.oneCell']) (by omega) (by simp only [maxLen]; omega) rfl (fun vv19_3 w hw hnil => ?_))
                      refine xV rfl rfl rfl (v_assign rfl) ?_
                      refine rl_nil (g_le (xK (xK (xK (xK (xK (Fr.le_refl _)))))) ?_)
                      refine g_exit rfl ?_
                      refine g_region ?_
                      refine xV rfl rfl rfl (v_move rfl) ?_
                      refine xV rfl rfl rfl (v_add rfl rfl (by omega)) ?_
                      refine xV rfl rfl rfl (v_assign rfl) ?_
                      refine rl_nil (g_le (xK (xK (xK (Fr.le_refl _)))) ?_)
                      refine g_le (by repeat (first | exact Fr.le_nil _ | refine Fr.le_cons rfl ?_)) (ih (i + 1, o2, ss2, md2, pw2, vv19_3, qs ++ [(⟨o2, at_, x.bytes.size⟩, x.bytes)]) w ⟨by simp only; omega, K2, by simp only; omega, by simp only; omega, P2, by simp only [List.length_append, List.length_singleton]; omega, ?_⟩ (by simp only; omega))
                      dsimp only
                      simp only [List.map_append, List.flatMap_append, List.length_append, List.map_cons, List.map_nil, List.flatMap_cons, List.flatMap_nil, List.append_nil, List.length_cons, List.length_nil, Nat.zero_add]
                      exact hw.xQ
                  · try with_reducible exact tf_elim h5
                    all_goals
                      try replace h5 := of_decide_eq_false h5
                      have hz := hw
                      clear hw
                      rcases hap with ⟨e, he, rfl, _⟩ | ⟨at_, hA⟩
                      rotate_left
                      · exact absurd hA.bad h5
                      dsimp only at hz ⊢
                      have hw := hz
                      refine g_skip (g_exit rfl ?_)
                      refine g_region ?_
                      refine xV rfl rfl rfl (v_move rfl) ?_
                      refine xV rfl rfl rfl (v_add rfl rfl (by omega)) ?_
                      refine xV rfl rfl rfl (v_assign rfl) ?_
                      refine rl_nil (g_le (xK (xK (xK (Fr.le_refl _)))) ?_)
                      exact g_le (by repeat (first | exact Fr.le_nil _ | refine Fr.le_cons rfl ?_)) (ih (i + 1, o, ss, md, pw, .slice pa2 qs.length pc2, qs) w ⟨by simp only; omega, K, hsl, by simp only; omega, P, by simp only; omega, hw.xQ⟩ (by simp only; omega))
              · try with_reducible exact tf_elim h4
                all_goals
                  try replace h4 := of_decide_eq_false h4
                  refine g_skip (g_seq ?_)
                  refine g_region ?_
                  refine xV rfl rfl rfl (v_assign rfl) ?_
                  refine rl_nil (g_le (xK (Fr.le_refl _)) ?_)
                  refine g_seq (g_seq ?_)
                  refine g_region ?_
                  refine xV rfl rfl rfl (v_assign rfl) ?_
                  refine rl_nil (g_le (xK (Fr.le_refl _)) ?_)
                  refine g_block ?_
                  refine g_loopC (σ := Nat × Value) (fun C z => (16, .int .i64 (z.1 : Nat)) :: (15, z.2) :: C) [(2, _), (4, _), (6, _), (7, _), (8, _), (10, _), (11, _), (12, _), (62, _), (63, _), (64, _), (65, _), (68, _), (69, _), (70, _), (71, _), (72, _), (73, _)] (by repeat (first | exact Fr.le_nil _ | refine Fr.le_cons rfl ?_)) (fun z w => z.1 ≤ qs.length ∧ Sat (envOf W) w (OwnSl 58 3 ((z.2)) ((thin (pickV x.a 3) (qs.take z.1) 0) : List Row14).length ((((thin (pickV x.a 3) (qs.take z.1) 0) : List Row14).map Prod.fst).flatMap Pl.cells) :: pt l (.cells [Value.pointer (some ⟨m, 0, none⟩), .int .i64 o, .slice (some ⟨b, 0, none⟩) (ss : List Sg).length c].toArray 47 (0, 0)) :: OwnSl 104 3 (.slice (some ⟨b, 0, none⟩) (ss).length c) (ss).length ((ss).flatMap Sg.cells) :: MdAt m p md :: PwAt p pw :: OwnSl 58 3 ((.slice pa2 qs.length pc2)) (qs : List Row14).length (((qs : List Row14).map Prod.fst).flatMap Pl.cells) :: [RO (hpOf W)])) (fun z => qs.length - z.1) ?_ (0, .slice none 0 0) (by repeat (first | exact Fr.le_nil _ | refine Fr.le_cons rfl ?_)) ⟨by simp, by dsimp only; simp only [List.take_zero, thin, List.map_nil, List.flatMap_nil, List.length_nil]; exact (hw.own_nil 58 3).xQ⟩
                  rintro ⟨k, kv⟩ w ⟨hk, hw⟩ ih2
                  dsimp only at hk hw ih2 ⊢
                  refine g_seq (g_seq ?_)
                  refine g_region ?_
                  refine xV rfl rfl rfl (v_move rfl) ?_
                  refine xV rfl rfl rfl (v_move rfl) ?_
                  refine xV rfl rfl rfl (v_lenSlice T.sl_70_58_3 rfl) ?_
                  refine xV rfl rfl rfl (v_lss rfl rfl) ?_
                  refine rl_nil (g_le (xK (xK (xK (xK (Fr.le_refl _))))) ?_)
                  refine g_cond rfl (fun h6 => ?_) (fun h6 => ?_)
                  · try with_reducible exact ft_elim h6
                    all_goals
                      try replace h6 := of_decide_eq_true h6
                      refine g_skip (g_seq (g_block (g_seq ?_)))
                      have hkl : k < qs.length := by omega
                      obtain ⟨q, hq⟩ : ∃ q, qs[k]? = some q := ⟨_, List.getElem?_eq_getElem hkl⟩
                      have htk : qs.take (k + 1) = qs.take k ++ [q] := by rw [List.take_add_one, hq]; rfl
                      have hthn := thin_snoc (pickV x.a 3) q (qs.take k) 0
                      rw [← htk, List.length_take, Nat.min_eq_left (by omega), Int.zero_add] at hthn
                      have hthl : (thin (pickV x.a 3) (qs.take k) 0).length ≤ k := by have h9 := (thin_sub (pickV x.a 3) (qs.take k) 0).length_le; rw [List.length_take] at h9; omega
                      generalize thin (pickV x.a 3) (qs.take k) 0 = kp at hw hthn hthl
                      obtain ⟨ka, kc, rfl, _, _, _⟩ := (hw.xP (A := OwnSl 58 3 kv kp.length ((kp.map Prod.fst).flatMap Pl.cells))).own_shape
                      obtain ⟨_, _, hpe, _, _, hpa⟩ := (hw.xP (A := OwnSl 58 3 (.slice pa2 qs.length pc2) qs.length ((qs.map Prod.fst).flatMap Pl.cells))).own_shape
                      cases hpe
                      obtain ⟨pg, rfl⟩ := hpa (by omega)
                      have hsub := subAt_flat (f := Pl.cells) (sz := 3) (fun _ => rfl) (show (qs.map Prod.fst)[k]? = some q.1 by rw [List.getElem?_map, hq]; rfl)
                      rw [show 0 + k * 3 = 0 + (k : Int).toNat * 3 by omega] at hsub
                      dsimp only [Pl.cells] at hsub
                      have hlk : ((kp.map Prod.fst).flatMap Pl.cells).length = kp.length * 3 := own_len' (hw.xP (A := OwnSl 58 3 (.slice ka kp.length kc) kp.length ((kp.map Prod.fst).flatMap Pl.cells)))
                      refine g_region ?_
                      refine xV rfl rfl rfl (v_move rfl) ?_
                      refine xV rfl rfl rfl (v_remP rfl rfl (by omega) (by omega)) ?_
                      refine xV rfl rfl rfl (v_move rfl) ?_
                      refine xV rfl rfl rfl (v_move rfl) ?_
                      refine xV rfl rfl rfl (v_indexAddr T.sl_69_72_5 rfl rfl (by omega) (by omega)) ?_
                      refine xV rfl rfl rfl (v_fieldAddr T.fld_72_2_2 rfl) ?_
                      refine rl_v rfl rfl rfl (by exact ro_at hw (by (repeat first | with_reducible exact xH | apply xT); first | done | fail) (by assumption) rfl) (v_load T.scal_3 rfl) ?_
                      refine rl_k rfl (k_callf Try.func20 rfl rfl rfl rfl ?_)
                      refine Calls.mono (pickV_calls x.a 3 (by omega) (by omega) hw) ?_
                      rintro _ w ⟨rfl, hw⟩
                      refine ⟨_, rfl, ?_⟩
                      refine xV rfl rfl rfl (v_neq rfl rfl) ?_
                      refine rl_nil (g_le (xK (xK (xK (xK (xK (xK (xK (xK (xK (Fr.le_refl _)))))))))) ?_)
                      refine g_cond rfl (fun h7 => ?_) (fun h7 => ?_)
                      · try with_reducible exact ft_elim h7
                        all_goals
                          try replace h7 := of_decide_eq_true h7
                          refine g_region ?_
                          refine xV rfl rfl rfl (v_move rfl) ?_
                          refine xV rfl rfl rfl (v_move rfl) ?_
                          refine xV rfl rfl rfl (v_move rfl) ?_
                          refine xV rfl rfl rfl (v_indexAddr T.sl_70_58_3 rfl rfl (by omega) (by omega)) ?_
                          refine rl_v rfl rfl rfl (by exact own_cells hw (by (repeat first | with_reducible exact xH | apply xT); first | done | fail) (by assumption)) (v_loadAgg (vs := [_, _, _]) T.agg_58_3 rfl rfl) ?_
                          refine rl_k rfl (k_buildSlice (cells := [_, _, _]) hw T.sl_70_58_3 T.zero_58 rfl rfl rfl rfl rfl rfl (fun bk25_5 w hw => ?_))
                          refine rl_k rfl (k_append (news := [_, _, _]) hw T.sl_70_58_3 T.zero_58 T.bytes_58_24 rfl (by decide) rfl rfl (by (repeat first | with_reducible exact xH | apply xT); first | done | fail) rfl (by exact sat_cells hw (by (repeat first | with_reducible exact xH | apply xT); first | done | fail) ⟨rfl, rfl, rfl, trivial⟩) (by simp [Value.oneCell']) (by omega) (by simp only [maxLen]; omega) rfl (fun vv25_6 w hw hnil => ?_))
                          refine xV rfl rfl rfl (v_assign rfl) ?_
                          refine rl_nil (g_le (xK (xK (xK (xK (xK (xK (xK (xK (Fr.le_refl _))))))))) ?_)
                          refine g_inBlock ?_
                          refine g_region ?_
                          refine xV rfl rfl rfl (v_move rfl) ?_
                          refine xV rfl rfl rfl (v_add rfl rfl (by omega)) ?_
                          refine xV rfl rfl rfl (v_assign rfl) ?_
                          refine rl_nil (g_le (xK (xK (xK (Fr.le_refl _)))) ?_)
                          refine g_le (by repeat (first | exact Fr.le_nil _ | refine Fr.le_cons rfl ?_)) (ih2 (k + 1, vv25_6) w ⟨by simp only; omega, ?_⟩ (by simp only; omega))
                          rw [if_pos h7] at hthn
                          dsimp only
                          rw [hthn]
                          simp only [List.map_append, List.flatMap_append, List.length_append, List.map_cons, List.map_nil, List.flatMap_cons, List.flatMap_nil, List.append_nil, List.length_cons, List.length_nil, Nat.zero_add]
                          exact hw.xQ
                      · try with_reducible exact tf_elim h7
                        all_goals
                          try replace h7 := of_decide_eq_false h7
                          refine g_skip (g_inBlock ?_)
                          refine g_region ?_
                          refine xV rfl rfl rfl (v_move rfl) ?_
                          refine xV rfl rfl rfl (v_add rfl rfl (by omega)) ?_
                          refine xV rfl rfl rfl (v_assign rfl) ?_
                          refine rl_nil (g_le (xK (xK (xK (Fr.le_refl _)))) ?_)
                          refine g_le (by repeat (first | exact Fr.le_nil _ | refine Fr.le_cons rfl ?_)) (ih2 (k + 1, .slice ka kp.length kc) w ⟨by simp only; omega, ?_⟩ (by simp only; omega))
                          rw [if_neg (by simpa using h7), List.append_nil] at hthn
                          dsimp only
                          rw [hthn]
                          exact hw.xQ
                  · try with_reducible exact tf_elim h6
                    all_goals
                      try replace h6 := of_decide_eq_false h6
                      refine g_exit rfl (g_seq (g_seq ?_))
                      obtain rfl : k = qs.length := by omega
                      rw [List.take_length] at hw
                      have hsub := thin_sub (pickV x.a 3) qs 0
                      obtain ⟨hfit, P2⟩ := P.settle hsub
                      have hkl := hsub.length_le
                      generalize thin (pickV x.a 3) qs 0 = kp at hw hsub hfit P2 hkl
                      have K2 := settle_k K hfit
                      have hsS := srcA_own (ps := kp.map Prod.fst) (by simp) (by omega) (hw.xP (A := OwnSl 58 3 kv kp.length ((kp.map Prod.fst).flatMap Pl.cells)))
                      refine g_region ?_
                      refine xV rfl rfl rfl (v_move rfl) ?_
                      refine xV rfl rfl rfl (v_move rfl) ?_
                      refine rl_k rfl (k_callf Try.func26 rfl rfl rfl rfl ?_)
                      refine Calls.mono (settle_fit (l := l) (m := m) (b := b) (c := c) (o := o) (ss := ss) (by omega) K.us' hsS (fun q hq => by have h8 := hfit.1 q hq; unfold within at h8; have h9 := usedS_bound K.us' q.seg h8.1 h8.2.1; omega) hfit (hw.xQ)) ?_
                      rintro _ w ⟨rfl, hw⟩
                      refine ⟨_, rfl, ?_⟩
                      refine xV rfl rfl rfl (v_neqF rfl rfl (by omega)) ?_
                      refine rl_nil (g_le (xK (xK (xK (xK (Fr.le_refl _))))) ?_)
                      refine g_cond_false rfl ?_
                      refine g_skip ?_
                      refine g_region ?_
                      refine xV rfl rfl rfl (v_move rfl) ?_
                      refine xV rfl rfl rfl (v_assign rfl) ?_
                      refine rl_nil (g_le (xK (xK (Fr.le_refl _))) ?_)
                      refine g_inBlock ?_
                      refine g_region ?_
                      refine xV rfl rfl rfl (v_move rfl) ?_
                      refine xV rfl rfl rfl (v_add rfl rfl (by omega)) ?_
                      refine xV rfl rfl rfl (v_assign rfl) ?_
                      refine rl_nil (g_le (xK (xK (xK (Fr.le_refl _)))) ?_)
                      refine g_le (by repeat (first | exact Fr.le_nil _ | refine Fr.le_cons rfl ?_)) (ih (i + 1, o, settled ss (kp.map Prod.fst), md, pw, kv, kp) w ⟨by simp only; omega, K2, by simp only; rw [settled_len]; omega, by simp only; omega, P2, by simp only; omega, hw.xQ⟩ (by simp only; omega))
          · try with_reducible exact tf_elim h3
            all_goals
              try replace h3 := of_decide_eq_false h3
              refine g_exit rfl (g_seq (g_seq ?_))
              clear ih
              have hfit := P.fit
              have hsS := srcA_own (ps := qs.map Prod.fst) (by simp) (by omega) (hw.xP (A := OwnSl 58 3 pv qs.length ((qs.map Prod.fst).flatMap Pl.cells)))
              have hKs := settle_k K hfit
              have hsl2 := settled_len ss (qs.map Prod.fst)
              have hok9 : ∀ q ∈ qs.map Prod.fst, q.len ≤ 9223372036854775807 := fun q hq => by have h8 := hfit.1 q hq; unfold within at h8; have h9 := usedS_bound K.us' q.seg h8.1 h8.2.1; omega
              refine g_region ?_
              refine xV rfl rfl rfl (v_move rfl) ?_
              refine xV rfl rfl rfl (v_move rfl) ?_
              refine rl_k rfl (k_callf Try.func26 rfl rfl rfl rfl ?_)
              refine Calls.mono (settle_fit (l := l) (m := m) (b := b) (c := c) (o := o) (ss := ss) (by omega) K.us' hsS hok9 hfit (hw.xQ)) ?_
              rintro _ w ⟨rfl, hw⟩
              refine ⟨_, rfl, ?_⟩
              refine xV rfl rfl rfl (v_neqF rfl rfl (by omega)) ?_
              refine rl_nil (g_le (xK (xS rfl (xS rfl (xS rfl (Fr.le_refl _))))) ?_)
              refine g_cond_false rfl ?_
              refine g_skip (g_seq ?_)
              refine g_region ?_
              refine xV rfl rfl rfl (v_move rfl) ?_
              refine rl_k rfl (k_callf Try.func13 rfl rfl rfl rfl ?_)
              refine Calls.mono (snew_calls m p md (hw.xQ)) ?_
              rintro _ w ⟨l2, b2, c2, rfl, hw⟩
              refine ⟨_, rfl, ?_⟩
              refine xV rfl rfl rfl (v_assign rfl) ?_
              refine rl_nil (g_le (xK (xS rfl (xS rfl (Fr.le_refl _)))) ?_)
              refine g_seq (g_seq ?_)
              refine g_region ?_
              refine xV rfl rfl rfl (v_move rfl) ?_
              refine xV rfl rfl rfl (v_eqlNil T.ptr_36 rfl rfl) ?_
              refine rl_nil (g_le (xK (xS rfl (Fr.le_refl _))) ?_)
              refine g_cond_false rfl ?_
              refine g_skip (g_seq ?_)
              have hmn : md.segs.length = n := by have := K.I.len; omega
              rw [hmn] at hw
              have hnl := newSegs_len (n := n) (by omega)
              have hus : (sgAt (settled ss (qs.map Prod.fst)) o).used = (sgAt ss o).used := by
                obtain ⟨x9, hx9, hu9, _⟩ := settled_sg (qs.map Prod.fst) (sgAt_some hKs.I.o0 hKs.I.o1)
                rw [sgAt_some K.I.o0 K.I.o1] at hx9
                rw [hu9, ← Option.some.inj hx9]
              have hou := K.I.us _ (List.mem_of_getElem? (sgAt_some K.I.o0 K.I.o1))
              have hou2 := K.I.ou
              refine g_region ?_
              refine xV rfl rfl rfl (v_move rfl) ?_
              refine rl_k rfl (k_callf Try.func24 rfl rfl rfl rfl ?_)
              refine Calls.mono (open_calls (l := l) (m := m) (b := b) (c := c) (o := o) (ss := settled ss (qs.map Prod.fst)) ⟨hKs.I.o0, hKs.I.o1⟩ (by omega) (hw.xQ)) ?_
              rw [hus]
              rintro _ w ⟨rfl, hw⟩
              refine ⟨_, rfl, ?_⟩
              refine xV rfl rfl rfl (v_move rfl) ?_
              refine xV rfl rfl rfl (v_extract rfl rfl) ?_
              refine xV rfl rfl rfl (v_extract rfl rfl) ?_
              refine xV rfl rfl rfl (v_assign rfl) ?_
              refine xV rfl rfl rfl (v_assign rfl) ?_
              refine rl_nil (g_le (xK (xK (xS rfl (xS rfl (xS rfl (xS rfl (xS rfl (Fr.le_refl _)))))))) ?_)
              refine g_seq (g_seq ?_)
              have hfb := begin_fits K hfit
              rw [hsl, ← hnl] at hfb
              have hbk := begun_k (s0 := newSegs n) K (by omega) hfit
              have hbl := begun_len (bgU o (sgAt ss o).used md) o (newSegs n) (qs.map Prod.fst)
              have hsame := begun_same (s0 := newSegs n) K (by omega) hfit (bgU o (sgAt ss o).used md)
              have hbo : (sgAt (begun (bgU o (sgAt ss o).used md) o (newSegs n) (qs.map Prod.fst)) o).used = (sgAt ss o).used := by
                have h9 := sgAt_some hbk.I.o0 hbk.I.o1
                rw [begun_get] at h9
                obtain ⟨z9, _, hz9⟩ := Option.map_eq_some_iff.1 h9
                rw [← hz9]
                dsimp only
                unfold bgU
                rw [if_pos (by have := K.I.o0; omega)]
              refine g_region ?_
              refine xV rfl rfl rfl (v_move rfl) ?_
              refine xV rfl rfl rfl (v_move rfl) ?_
              refine xV rfl rfl rfl (v_move rfl) ?_
              refine xV rfl rfl rfl (v_move rfl) ?_
              refine rl_k rfl (k_callf Try.func32 rfl rfl rfl rfl ?_)
              refine Calls.mono (begin_in (l := l2) (m := m) (p := p) (b := b2) (c := c2) (o := 0) (ss := newSegs n) (md := md) (us := (sgAt ss o).used) (by omega) hsS hok9 K.I.o0 (by have := K.I.o1; omega) (hw.xQ)) ?_
              rintro _ w ⟨r, rfl, hr9, hw⟩
              obtain rfl := hr9.2 ⟨hou.1, by rw [md_used K.I.o0 (by have := K.I.o1; omega)]; exact hou2, hfb⟩
              simp only [if_true] at hw ⊢
              refine ⟨_, rfl, ?_⟩
              refine xV rfl rfl rfl (v_neqF rfl rfl (by omega)) ?_
              refine rl_nil (g_le (xK (xS rfl (xS rfl (xS rfl (xS rfl (xS rfl (Fr.le_refl _))))))) ?_)
              refine g_cond_false rfl ?_
              refine g_skip (g_seq (g_seq ?_))
              generalize hsb : begun (bgU o (sgAt ss o).used md) o (newSegs n) (qs.map Prod.fst) = sb at hw hbk hbl hsame hbo
              generalize hsa : settled ss (qs.map Prod.fst) = sa at hw hKs hsl2 hsame hus
              refine g_region ?_
              refine xV rfl rfl rfl (v_assign rfl) ?_
              refine rl_nil (g_le (xK (Fr.le_refl _)) ?_)
              refine g_block ?_
              refine g_loopC (σ := Nat) (fun C z => (20, .int .i64 (z : Nat)) :: C) [(2, _), (4, _), (7, _), (10, _), (17, _)] (by repeat (first | exact Fr.le_nil _ | refine Fr.le_cons rfl ?_)) (fun z w => z ≤ n ∧ Sat (envOf W) w (pt l (.cells [Value.pointer (some ⟨m, 0, none⟩), .int .i64 o, .slice (some ⟨b, 0, none⟩) (sa : List Sg).length c].toArray 47 (0, 0)) :: OwnSl 104 3 (.slice (some ⟨b, 0, none⟩) (sa).length c) (sa).length ((sa).flatMap Sg.cells) :: pt l2 (.cells [Value.pointer (some ⟨m, 0, none⟩), .int .i64 o, .slice (some ⟨b2, 0, none⟩) (sb : List Sg).length c2].toArray 47 (0, 0)) :: OwnSl 104 3 (.slice (some ⟨b2, 0, none⟩) (sb).length c2) (sb).length ((sb).flatMap Sg.cells) :: MdAt m p md :: PwAt p pw :: [RO (hpOf W)])) (fun z => n - z) ?_ 0 (by repeat (first | exact Fr.le_nil _ | refine Fr.le_cons rfl ?_)) ⟨by simp, hw.xQ⟩
              rintro k w ⟨hk, hw⟩ ih
              refine g_seq (g_seq ?_)
              refine g_region ?_
              refine xV rfl rfl rfl (v_move rfl) ?_
              refine xV rfl rfl rfl (v_move rfl) ?_
              refine xV rfl rfl rfl (v_lss rfl rfl) ?_
              refine rl_nil (g_le (xK (xK (xK (Fr.le_refl _)))) ?_)
              refine g_cond rfl (fun h12 => ?_) (fun h12 => ?_)
              · try with_reducible exact ft_elim h12
                all_goals
                  try replace h12 := of_decide_eq_true h12
                  refine g_skip (g_seq (g_block (g_seq ?_)))
                  obtain ⟨u, hu⟩ : ∃ u, sa[k]? = some u := ⟨_, List.getElem?_eq_getElem (by omega)⟩
                  obtain ⟨v, hv⟩ : ∃ v, sb[k]? = some v := ⟨_, List.getElem?_eq_getElem (by omega)⟩
                  have hsm := hsame k u v hu hv
                  have hka : kindS sa (k : Int) = v.kind := by unfold kindS; rw [if_pos (by omega), sgAt_get hu]; exact hsm.1
                  have hkb : kindS sb (k : Int) = v.kind := by unfold kindS; rw [if_pos (by omega), sgAt_get hv]
                  have hva : liveS sa (k : Int) = v.live := by unfold liveS; rw [if_pos (by omega), sgAt_get hu]; exact hsm.2
                  have hvb : liveS sb (k : Int) = v.live := by unfold liveS; rw [if_pos (by omega), sgAt_get hv]
                  refine g_region ?_
                  refine xV rfl rfl rfl (v_move rfl) ?_
                  refine xV rfl rfl rfl (v_move rfl) ?_
                  refine rl_k rfl (k_callf Try.func28 rfl rfl rfl rfl ?_)
                  refine Calls.mono (kindS_calls (l := l) (m := m) (b := b) (c := c) (o := o) (ss := sa) (k : Int) (by omega) (hw.xQ)) ?_
                  rw [hka]
                  rintro _ w ⟨rfl, hw⟩
                  refine ⟨_, rfl, ?_⟩
                  refine xV rfl rfl rfl (v_move rfl) ?_
                  refine xV rfl rfl rfl (v_move rfl) ?_
                  refine rl_k rfl (k_callf Try.func28 rfl rfl rfl rfl ?_)
                  refine Calls.mono (kindS_calls (l := l2) (m := m) (b := b2) (c := c2) (o := o) (ss := sb) (k : Int) (by omega) (hw.xQ)) ?_
                  rw [hkb]
                  rintro _ w ⟨rfl, hw⟩
                  refine ⟨_, rfl, ?_⟩
                  refine xV rfl rfl rfl (v_neqF rfl rfl (by omega)) ?_
                  refine xV rfl rfl rfl (v_move rfl) ?_
                  refine rl_split (s := 148) rfl (fun g40_7 => ?_) (fun g40_7 => ?_)
                  · try with_reducible exact ft_elim g40_7
                    all_goals
                      try replace g40_7 := of_decide_eq_true g40_7
                      simp at g40_7
                  · try with_reducible exact tf_elim g40_7
                    all_goals
                      try replace g40_7 := of_decide_eq_false g40_7
                      refine rl_vg (met_on rfl rfl rfl rfl) rfl rfl (S := fun _ => True) trivial (v_move rfl) ?_
                      refine rl_vg (met_on rfl rfl rfl rfl) rfl rfl (S := fun _ => True) trivial (v_move rfl) ?_
                      refine rl_kg (met_on rfl rfl rfl rfl) (k_callf Try.func30 rfl rfl rfl rfl ?_)
                      refine Calls.mono (liveS_calls (l := l) (m := m) (b := b) (c := c) (o := o) (ss := sa) (k : Int) (by omega) (hw.xQ)) ?_
                      rw [hva]
                      rintro _ w ⟨rfl, hw⟩
                      refine ⟨_, rfl, ?_⟩
                      refine rl_vg (met_on rfl rfl rfl rfl) rfl rfl (S := fun _ => True) trivial (v_move rfl) ?_
                      refine rl_vg (met_on rfl rfl rfl rfl) rfl rfl (S := fun _ => True) trivial (v_move rfl) ?_
                      refine rl_kg (met_on rfl rfl rfl rfl) (k_callf Try.func30 rfl rfl rfl rfl ?_)
                      refine Calls.mono (liveS_calls (l := l2) (m := m) (b := b2) (c := c2) (o := o) (ss := sb) (k : Int) (by omega) (hw.xQ)) ?_
                      rw [hvb]
                      rintro _ w ⟨rfl, hw⟩
                      refine ⟨_, rfl, ?_⟩
                      refine rl_vg (met_on rfl rfl rfl rfl) rfl rfl (S := fun _ => True) trivial (v_neqF rfl rfl (by omega)) ?_
                      refine xV rfl rfl rfl (v_pick_false rfl rfl) ?_
                      refine rl_nil (g_le (xK (xK (xK (xK (xK (xK (xK (xK (xK (xK (xK (xK (xK (xK (xK (xK (xK (Fr.le_refl _)))))))))))))))))) ?_)
                      refine g_cond_false rfl ?_
                      refine g_skip (g_inBlock ?_)
                      refine g_region ?_
                      refine xV rfl rfl rfl (v_move rfl) ?_
                      refine xV rfl rfl rfl (v_add rfl rfl (by omega)) ?_
                      refine xV rfl rfl rfl (v_assign rfl) ?_
                      refine rl_nil (g_le (xK (xK (xK (Fr.le_refl _)))) ?_)
                      exact g_le (by repeat (first | exact Fr.le_nil _ | refine Fr.le_cons rfl ?_)) (ih (k + 1) w ⟨by omega, hw.xQ⟩ (by omega))
              · try with_reducible exact tf_elim h12
                all_goals
                  try replace h12 := of_decide_eq_false h12
                  refine g_exit rfl (g_seq (g_seq ?_))
                  have hfs : ofS 1 sa 0 = ofS 1 sb 0 := ofS_same 1 sa sb 0 (by omega) (fun j x y hx hy => (hsame j x y hx hy).1)
                  clear ih
                  have hfr0 : frees sb ≤ sb.length := List.countP_le_length
                  have hub0 := hbk.I.us _ (List.mem_of_getElem? (sgAt_some hbk.I.o0 hbk.I.o1))
                  refine g_region ?_
                  refine xV rfl rfl rfl (v_assign rfl) ?_
                  refine rl_nil (g_le (xK (Fr.le_refl _)) ?_)
                  refine g_block ?_
                  refine g_loopC (σ := Nat × Int × List Sg × Md × Pw) (fun C x => (21, .int .i64 (x.1 : Nat)) :: C) [(2, _), (4, _), (7, _), (10, _), (17, _)] (by repeat (first | exact Fr.le_nil _ | refine Fr.le_cons rfl ?_)) (fun z w => z.1 ≤ ys.length ∧ LgK size z.2.1 z.2.2.1 z.2.2.2.1 z.2.2.2.2 ∧ z.2.2.1.length = n ∧ (z.2.2.2.1.past.length : Int) + 100 * frees z.2.2.1 + (100 - (sgAt z.2.2.1 z.2.1).used) ≤ xs.length + 1300 ∧ (z.1 = 0 → z.2.1 = o ∧ z.2.2.1 = sb) ∧ Sat (envOf W) w (pt l2 (.cells [Value.pointer (some ⟨m, 0, none⟩), .int .i64 (z.2.1), .slice (some ⟨b2, 0, none⟩) ((z.2.2.1) : List Sg).length c2].toArray 47 (0, 0)) :: OwnSl 104 3 (.slice (some ⟨b2, 0, none⟩) ((z.2.2.1)).length c2) ((z.2.2.1)).length (((z.2.2.1)).flatMap Sg.cells) :: MdAt m p z.2.2.2.1 :: PwAt p z.2.2.2.2 :: pt l (.cells [Value.pointer (some ⟨m, 0, none⟩), .int .i64 o, .slice (some ⟨b, 0, none⟩) (sa : List Sg).length c].toArray 47 (0, 0)) :: OwnSl 104 3 (.slice (some ⟨b, 0, none⟩) (sa).length c) (sa).length ((sa).flatMap Sg.cells) :: [RO (hpOf W)])) (fun z => ys.length - z.1) ?_ (0, o, sb, md, pw) (by repeat (first | exact Fr.le_nil _ | refine Fr.le_cons rfl ?_)) ⟨by simp, hbk, by simp only; omega, by simp only; omega, fun _ => ⟨rfl, rfl⟩, hw.xQ⟩
                  rintro ⟨k, o2, s2, md2, pw2⟩ w ⟨hk, K2, hl2, hp2, hz2, hw⟩ ih
                  dsimp only at hk K2 hl2 hp2 hz2 hw ih ⊢
                  refine g_seq (g_seq ?_)
                  refine g_region ?_
                  refine xV rfl rfl rfl (v_move rfl) ?_
                  refine xV rfl rfl rfl (v_move rfl) ?_
                  refine xV rfl rfl rfl (v_lenSlice T.sl_54_9_1 rfl) ?_
                  refine xV rfl rfl rfl (v_lss rfl rfl) ?_
                  refine rl_nil (g_le (xK (xK (xK (xK (Fr.le_refl _))))) ?_)
                  refine g_cond rfl (fun h14 => ?_) (fun h14 => ?_)
                  · try with_reducible exact ft_elim h14
                    all_goals
                      try replace h14 := of_decide_eq_true h14
                      refine g_skip (g_seq (g_block (g_seq ?_)))
                      refine g_region ?_
                      refine xV rfl rfl rfl (v_move rfl) ?_
                      refine rl_k rfl (k_callf Try.func24 rfl rfl rfl rfl ?_)
                      refine Calls.mono (open_calls (l := l2) (m := m) (b := b2) (c := c2) (o := o2) (ss := s2) ⟨K2.I.o0, K2.I.o1⟩ (by omega) (hw.xQ)) ?_
                      rintro _ w ⟨rfl, hw⟩
                      refine ⟨_, rfl, ?_⟩
                      refine xV rfl rfl rfl (v_move rfl) ?_
                      refine xV rfl rfl rfl (v_extract rfl rfl) ?_
                      refine xV rfl rfl rfl (v_extract rfl rfl) ?_
                      refine xV rfl rfl rfl (v_assign rfl) ?_
                      refine xV rfl rfl rfl (v_assign rfl) ?_
                      refine rl_nil (g_le (xK (xK (xK (xK (xK (xK (xK (Fr.le_refl _)))))))) ?_)
                      refine g_seq ?_
                      refine g_region ?_
                      refine xV rfl rfl rfl (v_move rfl) ?_
                      refine rl_k rfl (k_callf Try.func24 rfl rfl rfl rfl ?_)
                      refine Calls.mono (open_calls (l := l) (m := m) (b := b) (c := c) (o := o) (ss := sa) ⟨hKs.I.o0, hKs.I.o1⟩ (by omega) (hw.xQ)) ?_
                      rw [hus]
                      rintro _ w ⟨rfl, hw⟩
                      refine ⟨_, rfl, ?_⟩
                      refine xV rfl rfl rfl (v_move rfl) ?_
                      refine xV rfl rfl rfl (v_extract rfl rfl) ?_
                      refine xV rfl rfl rfl (v_extract rfl rfl) ?_
                      refine xV rfl rfl rfl (v_assign rfl) ?_
                      refine xV rfl rfl rfl (v_assign rfl) ?_
                      refine rl_nil (g_le (xK (xK (xK (xK (xK (xK (xK (Fr.le_refl _)))))))) ?_)
                      refine g_seq (g_seq ?_)
                      refine g_region ?_
                      refine xV rfl rfl rfl (v_move rfl) ?_
                      refine xV rfl rfl rfl (v_eql rfl rfl) ?_
                      refine xV rfl rfl rfl (v_move rfl) ?_
                      refine rl_split (s := 175) rfl (fun g47_2 => ?_) (fun g47_2 => ?_)
                      · try with_reducible exact ft_elim g47_2
                        all_goals
                          try replace g47_2 := of_decide_eq_true g47_2
                          obtain ⟨hzo, hzs⟩ := hz2 (by omega)
                          have hu9 : (sgAt s2 o2).used = (sgAt ss o).used := by rw [hzo, hzs]; exact hbo
                          refine rl_vg (met_on rfl rfl rfl rfl) rfl rfl (S := fun _ => True) trivial (v_move rfl) ?_
                          refine rl_vg (met_on rfl rfl rfl rfl) rfl rfl (S := fun _ => True) trivial (v_move rfl) ?_
                          refine rl_vg (met_on rfl rfl rfl rfl) rfl rfl (S := fun _ => True) trivial (v_neqF rfl rfl (by omega)) ?_
                          refine rl_vg (met_on rfl rfl rfl rfl) rfl rfl (S := fun _ => True) trivial (v_move rfl) ?_
                          refine rl_split (s := 179) rfl (fun g47_6 => ?_) (fun g47_6 => ?_)
                          · try with_reducible exact ft_elim g47_6
                            all_goals
                              try replace g47_6 := of_decide_eq_true g47_6
                              simp at g47_6
                              omega
                          · try with_reducible exact tf_elim g47_6
                            all_goals
                              try replace g47_6 := of_decide_eq_false g47_6
                              refine rl_vg (met_on rfl rfl rfl rfl) rfl rfl (S := fun _ => True) trivial (v_move rfl) ?_
                              refine rl_vg (met_on rfl rfl rfl rfl) rfl rfl (S := fun _ => True) trivial (v_move rfl) ?_
                              refine rl_vg (met_on rfl rfl rfl rfl) rfl rfl (S := fun _ => True) trivial (v_neqF rfl rfl (by omega)) ?_
                              refine rl_vg (met_on rfl rfl rfl rfl) rfl rfl (S := fun _ => True) trivial (v_pick_false rfl rfl) ?_
                              refine xV rfl rfl rfl (v_pick_true rfl rfl) ?_
                              refine xV rfl rfl rfl (v_move rfl) ?_
                              refine rl_split (s := 185) rfl (fun g47_12 => ?_) (fun g47_12 => ?_)
                              · try with_reducible exact ft_elim g47_12
                                all_goals
                                  try replace g47_12 := of_decide_eq_true g47_12
                                  simp at g47_12
                                  omega
                              · try with_reducible exact tf_elim g47_12
                                all_goals
                                  try replace g47_12 := of_decide_eq_false g47_12
                                  refine rl_vg (met_on rfl rfl rfl rfl) rfl rfl (S := fun _ => True) trivial (v_move rfl) ?_
                                  refine rl_kg (met_on rfl rfl rfl rfl) (k_callf Try.func23 rfl rfl rfl rfl ?_)
                                  refine Calls.mono (free_calls (l := l) (m := m) (b := b) (c := c) (o := o) (ss := sa) (by omega) (hw.xQ)) ?_
                                  rintro _ w ⟨fv1, rfl, hw⟩
                                  refine ⟨_, rfl, ?_⟩
                                  refine rl_vg (met_on rfl rfl rfl rfl) rfl rfl (S := fun _ => True) trivial (v_move rfl) ?_
                                  refine rl_kg (met_on rfl rfl rfl rfl) (k_callf Try.func23 rfl rfl rfl rfl ?_)
                                  refine Calls.mono (free_calls (l := l2) (m := m) (b := b2) (c := c2) (o := o2) (ss := s2) (by omega) (hw.xQ)) ?_
                                  rintro _ w ⟨fv2, rfl, hw⟩
                                  refine ⟨_, rfl, ?_⟩
                                  refine rl_kg (met_on rfl rfl rfl rfl) (k_callf Try.func29 rfl rfl rfl rfl ?_)
                                  refine Calls.mono (same_calls (xs := ofS 1 sa 0) (ys := ofS 1 s2 0) (hw.xQ)) ?_
                                  rintro _ w ⟨rfl, hw⟩
                                  refine ⟨_, rfl, ?_⟩
                                  refine rl_vg (met_on rfl rfl rfl rfl) rfl rfl (S := fun _ => True) trivial (v_not rfl) ?_
                                  refine rl_vg (met_on rfl rfl rfl rfl) rfl rfl (S := fun _ => True) trivial (v_move rfl) ?_
                                  refine rl_split (s := 192) rfl (fun g47_19 => ?_) (fun g47_19 => ?_)
                                  · try with_reducible exact ft_elim g47_19
                                    all_goals
                                      try replace g47_19 := of_decide_eq_true g47_19
                                      have hne : ofS 1 sa 0 ≠ ofS 1 s2 0 := by simpa using g47_19
                                      exact absurd (by rw [hzs]; exact hfs) hne
                                  · try with_reducible exact tf_elim g47_19
                                    all_goals
                                      try replace g47_19 := of_decide_eq_false g47_19
                                      refine rl_off (met_off rfl rfl rfl rfl rfl) rfl rfl ?_
                                      refine rl_off (met_off rfl rfl rfl rfl rfl) rfl rfl ?_
                                      refine rl_vg (met_on rfl rfl rfl rfl) rfl rfl (S := fun _ => True) trivial (v_pick_false rfl rfl) ?_
                                      refine xV rfl rfl rfl (v_pick_false rfl rfl) ?_
                                      refine rl_nil (g_le (xK (xK (xK (xK (xK (xK (xK (xK (xK (xK (xK (xK (xK (xK (xK (xK (xK (xK (xK (xK (xK (xK (xK (xK (xK (xK (xK (xK (Fr.le_refl _))))))))))))))))))))))))))))) ?_)
                                      refine g_cond_false rfl ?_
                                      refine g_skip (g_seq ?_)
                                      have hub2 := K2.I.us _ (List.mem_of_getElem? (sgAt_some K2.I.o0 K2.I.o1))
                                      have hsz2 := K2.I.size
                                      have hz := hw
                                      clear hw
                                      obtain ⟨b5, o5, v, ecs, rfl, hy, hat5, hl5, hq5, hyr⟩ := gy (k : Nat) (by omega) (by omega)
                                      subst hq5
                                      rw [Int.toNat_natCast] at hy hat5
                                      have hw := hz
                                      refine g_region ?_
                                      refine xV rfl rfl rfl (v_move rfl) ?_
                                      refine xV rfl rfl rfl (v_move rfl) ?_
                                      refine xV rfl rfl rfl (v_move rfl) ?_
                                      refine xV rfl rfl rfl (v_indexAddr T.sl_54_9_1 rfl rfl (by omega) (by omega)) ?_
                                      refine rl_v rfl rfl rfl (by exact ro_at0 hw (by (repeat first | with_reducible exact xH | apply xT); first | done | fail) (by assumption) rfl) (v_load T.scal_9 rfl) ?_
                                      refine rl_k rfl (k_callf Try.func22 rfl rfl rfl rfl ?_)
                                      refine Calls.mono (append_calls (l := l2) (m := m) (p := p) (b := b2) (c := c2) (o := o2) (ss := s2) (md := md2) (pw := pw2) v K2.I.len ⟨K2.I.o0, K2.I.o1⟩ K2.I.us K2.I.pok (by omega) (hw.xQ)) ?_
                                      have hap := app_k K2 v
                                      generalize appL o2 s2 md2 pw2 v = r at hap ⊢
                                      rintro _ w ⟨rfl, hw⟩
                                      refine ⟨_, rfl, ?_⟩
                                      refine xV rfl rfl rfl (v_move rfl) ?_
                                      refine xV rfl rfl rfl (v_extract rfl rfl) ?_
                                      refine xV rfl rfl rfl (v_extract rfl rfl) ?_
                                      refine rl_k rfl (k_alloc hw T.zero_58 rfl rfl (fun bk49_9 w hw => ?_))
                                      refine rl_k rfl (k_storeWhole hw T.agg_58_3 rfl rfl (by simp [Value.oneCell']) rfl (by (repeat first | with_reducible exact xH | apply xT); first | done | fail) rfl (fun w hw => ?_))
                                      refine xV rfl rfl rfl (v_assign rfl) ?_
                                      refine rl_nil (g_le (xK (xK (xK (xK (xK (xK (xK (xK (xK (xK (xK (Fr.le_refl _)))))))))))) ?_)
                                      refine g_seq ?_
                                      have hr3 : (r.bad = 0 → r.at_.1 = o2 → r.at_.2.1 = (sgAt s2 o2).used) ∧ LgK size r.o r.ss r.md r.pw ∧ r.ss.length = n ∧ (r.md.past.length : Int) + 100 * frees r.ss + (100 - (sgAt r.ss r.o).used) ≤ xs.length + 1300 := by
                                        rcases hap with ⟨e, he, rfl, _⟩ | ⟨at_, hA⟩
                                        · exact ⟨fun h => absurd h he, K2, hl2, hp2⟩
                                        · refine ⟨fun _ h => ?_, hA.K, by rw [hA.len, hl2], ?_⟩
                                          rotate_left
                                          · have h7 := app_frees K2 hA
                                            have h8 := hA.past
                                            have h9 := hA.us
                                            have h10 := hA.vs
                                            rcases hA.way with ⟨h11, h12⟩ | ⟨h11, h12, _⟩
                                            · rw [if_pos h11] at h7; omega
                                            · rw [if_neg h11] at h7; omega
                                          rw [hA.at0] at h ⊢
                                          rcases hA.way with h9 | h9
                                          · exact h9.2
                                          · exact absurd h h9.1
                                      obtain ⟨hr4, K3, hl3, hp3⟩ := hr3
                                      refine g_region ?_
                                      refine xV rfl rfl rfl (v_move rfl) ?_
                                      refine xV rfl rfl rfl (v_eql rfl rfl) ?_
                                      refine xV rfl rfl rfl (v_move rfl) ?_
                                      refine rl_split (s := 208) rfl (fun g50_2 => ?_) (fun g50_2 => ?_)
                                      · try with_reducible exact ft_elim g50_2
                                        all_goals
                                          try replace g50_2 := of_decide_eq_true g50_2
                                          refine rl_vg (met_on rfl rfl rfl rfl) rfl rfl (S := fun _ => True) trivial (v_fieldAddr0 T.fld_58_0_0 rfl) ?_
                                          refine rl_vg (met_on rfl rfl rfl rfl) rfl rfl (by exact sat_cell hw (by (repeat first | with_reducible exact xH | apply xT); first | done | fail) rfl) (v_load T.scal_3 rfl) ?_
                                          refine rl_vg (met_on rfl rfl rfl rfl) rfl rfl (S := fun _ => True) trivial (v_move rfl) ?_
                                          refine rl_vg (met_on rfl rfl rfl rfl) rfl rfl (S := fun _ => True) trivial (v_eql rfl rfl) ?_
                                          refine xV rfl rfl rfl (v_pick_true rfl rfl) ?_
                                          refine xV rfl rfl rfl (v_move rfl) ?_
                                          refine rl_split (s := 214) rfl (fun g50_8 => ?_) (fun g50_8 => ?_)
                                          · try with_reducible exact ft_elim g50_8
                                            all_goals
                                              try replace g50_8 := of_decide_eq_true g50_8
                                              refine rl_vg (met_on rfl rfl rfl rfl) rfl rfl (S := fun _ => True) trivial (v_fieldAddr0 T.fld_58_1_1 rfl) ?_
                                              refine rl_vg (met_on rfl rfl rfl rfl) rfl rfl (by exact sat_cell hw (by (repeat first | with_reducible exact xH | apply xT); first | done | fail) rfl) (v_load T.scal_3 rfl) ?_
                                              refine rl_vg (met_on rfl rfl rfl rfl) rfl rfl (S := fun _ => True) trivial (v_move rfl) ?_
                                              refine rl_vg (met_on rfl rfl rfl rfl) rfl rfl (S := fun _ => True) trivial (v_neqF rfl rfl (by omega)) ?_
                                              refine xV rfl rfl rfl (v_pick_true rfl rfl) ?_
                                              refine rl_nil (g_le (xK (xK (xK (xK (xK (xK (xK (xK (xK (xK (xK (xK (xK (xK (xK (xK (Fr.le_refl _))))))))))))))))) ?_)
                                              refine g_cond_false rfl ?_
                                              refine g_skip (g_inBlock ?_)
                                              refine g_region ?_
                                              refine xV rfl rfl rfl (v_move rfl) ?_
                                              refine xV rfl rfl rfl (v_add rfl rfl (by omega)) ?_
                                              refine xV rfl rfl rfl (v_assign rfl) ?_
                                              refine rl_nil (g_le (xK (xK (xK (Fr.le_refl _)))) ?_)
                                              exact g_le (by repeat (first | exact Fr.le_nil _ | refine Fr.le_cons rfl ?_)) (ih (k + 1, r.o, r.ss, r.md, r.pw) w ⟨by simp only; omega, K3, hl3, by simp only; omega, fun h => absurd h (by simp), hw.xQ⟩ (by simp only; omega))
                                          · try with_reducible exact tf_elim g50_8
                                            all_goals
                                              try replace g50_8 := of_decide_eq_false g50_8
                                              refine rl_off (met_off rfl rfl rfl rfl rfl) rfl rfl ?_
                                              refine rl_off (met_off rfl rfl rfl rfl rfl) rfl rfl ?_
                                              refine rl_off (met_off rfl rfl rfl rfl rfl) rfl rfl ?_
                                              refine rl_off (met_off rfl rfl rfl rfl rfl) rfl rfl ?_
                                              refine xV rfl rfl rfl (v_pick_false rfl rfl) ?_
                                              refine rl_nil (g_le (xK (xK (xK (xK (xK (xK (xK (xK (xK (xK (xK (xK (xK (xK (xK (xK (Fr.le_refl _))))))))))))))))) ?_)
                                              refine g_cond_false rfl ?_
                                              refine g_skip (g_inBlock ?_)
                                              refine g_region ?_
                                              refine xV rfl rfl rfl (v_move rfl) ?_
                                              refine xV rfl rfl rfl (v_add rfl rfl (by omega)) ?_
                                              refine xV rfl rfl rfl (v_assign rfl) ?_
                                              refine rl_nil (g_le (xK (xK (xK (Fr.le_refl _)))) ?_)
                                              exact g_le (by repeat (first | exact Fr.le_nil _ | refine Fr.le_cons rfl ?_)) (ih (k + 1, r.o, r.ss, r.md, r.pw) w ⟨by simp only; omega, K3, hl3, by simp only; omega, fun h => absurd h (by simp), hw.xQ⟩ (by simp only; omega))
                                      · try with_reducible exact tf_elim g50_2
                                        all_goals
                                          try replace g50_2 := of_decide_eq_false g50_2
                                          refine rl_off (met_off rfl rfl rfl rfl rfl) rfl rfl ?_
                                          refine rl_off (met_off rfl rfl rfl rfl rfl) rfl rfl ?_
                                          refine rl_off (met_off rfl rfl rfl rfl rfl) rfl rfl ?_
                                          refine rl_off (met_off rfl rfl rfl rfl rfl) rfl rfl ?_
                                          refine xV rfl rfl rfl (v_pick_false rfl rfl) ?_
                                          refine xV rfl rfl rfl (v_move rfl) ?_
                                          refine rl_off (met_off rfl rfl rfl rfl rfl) rfl rfl ?_
                                          refine rl_off (met_off rfl rfl rfl rfl rfl) rfl rfl ?_
                                          refine rl_off (met_off rfl rfl rfl rfl rfl) rfl rfl ?_
                                          refine rl_off (met_off rfl rfl rfl rfl rfl) rfl rfl ?_
                                          refine xV rfl rfl rfl (v_pick_false rfl rfl) ?_
                                          refine rl_nil (g_le (xK (xK (xK (xK (xK (xK (xK (xK (xK (xK (xK (xK (xK (xK (xK (Fr.le_refl _)))))))))))))))) ?_)
                                          refine g_cond_false rfl ?_
                                          refine g_skip (g_inBlock ?_)
                                          refine g_region ?_
                                          refine xV rfl rfl rfl (v_move rfl) ?_
                                          refine xV rfl rfl rfl (v_add rfl rfl (by omega)) ?_
                                          refine xV rfl rfl rfl (v_assign rfl) ?_
                                          refine rl_nil (g_le (xK (xK (xK (Fr.le_refl _)))) ?_)
                                          exact g_le (by repeat (first | exact Fr.le_nil _ | refine Fr.le_cons rfl ?_)) (ih (k + 1, r.o, r.ss, r.md, r.pw) w ⟨by simp only; omega, K3, hl3, by simp only; omega, fun h => absurd h (by simp), hw.xQ⟩ (by simp only; omega))
                      · try with_reducible exact tf_elim g47_2
                        all_goals
                          try replace g47_2 := of_decide_eq_false g47_2
                          refine rl_off (met_off rfl rfl rfl rfl rfl) rfl rfl ?_
                          refine rl_off (met_off rfl rfl rfl rfl rfl) rfl rfl ?_
                          refine rl_off (met_off rfl rfl rfl rfl rfl) rfl rfl ?_
                          refine rl_off (met_off rfl rfl rfl rfl rfl) rfl rfl ?_
                          refine rl_off (met_gone rfl rfl rfl rfl) rfl rfl ?_
                          refine rl_off (met_gone rfl rfl rfl rfl) rfl rfl ?_
                          refine rl_off (met_gone rfl rfl rfl rfl) rfl rfl ?_
                          refine rl_off (met_off rfl rfl rfl rfl rfl) rfl rfl ?_
                          refine xV rfl rfl rfl (v_pick_false rfl rfl) ?_
                          refine xV rfl rfl rfl (v_move rfl) ?_
                          refine rl_vg (met_on rfl rfl rfl rfl) rfl rfl (S := fun _ => True) trivial (v_move rfl) ?_
                          refine rl_kg (met_on rfl rfl rfl rfl) (k_callf Try.func23 rfl rfl rfl rfl ?_)
                          refine Calls.mono (free_calls (l := l) (m := m) (b := b) (c := c) (o := o) (ss := sa) (by omega) (hw.xQ)) ?_
                          rintro _ w ⟨fv1, rfl, hw⟩
                          refine ⟨_, rfl, ?_⟩
                          refine rl_vg (met_on rfl rfl rfl rfl) rfl rfl (S := fun _ => True) trivial (v_move rfl) ?_
                          refine rl_kg (met_on rfl rfl rfl rfl) (k_callf Try.func23 rfl rfl rfl rfl ?_)
                          refine Calls.mono (free_calls (l := l2) (m := m) (b := b2) (c := c2) (o := o2) (ss := s2) (by omega) (hw.xQ)) ?_
                          rintro _ w ⟨fv2, rfl, hw⟩
                          refine ⟨_, rfl, ?_⟩
                          refine rl_kg (met_on rfl rfl rfl rfl) (k_callf Try.func29 rfl rfl rfl rfl ?_)
                          refine Calls.mono (same_calls (xs := ofS 1 sa 0) (ys := ofS 1 s2 0) (hw.xQ)) ?_
                          rintro _ w ⟨rfl, hw⟩
                          refine ⟨_, rfl, ?_⟩
                          refine rl_vg (met_on rfl rfl rfl rfl) rfl rfl (S := fun _ => True) trivial (v_not rfl) ?_
                          refine rl_vg (met_on rfl rfl rfl rfl) rfl rfl (S := fun _ => True) trivial (v_move rfl) ?_
                          refine rl_split (s := 192) rfl (fun g47_19 => ?_) (fun g47_19 => ?_)
                          · try with_reducible exact ft_elim g47_19
                            all_goals
                              try replace g47_19 := of_decide_eq_true g47_19
                              have hne : ofS 1 sa 0 ≠ ofS 1 s2 0 := by simpa using g47_19
                              have hk0 : k ≠ 0 := fun h => hne (by rw [(hz2 h).2]; exact hfs)
                              refine rl_vg (met_on rfl rfl rfl rfl) rfl rfl (S := fun _ => True) trivial (v_move rfl) ?_
                              refine rl_vg (met_on rfl rfl rfl rfl) rfl rfl (S := fun _ => True) trivial (v_eqlF rfl rfl (by omega)) ?_
                              refine rl_vg (met_on rfl rfl rfl rfl) rfl rfl (S := fun _ => True) trivial (v_pick_true rfl rfl) ?_
                              refine xV rfl rfl rfl (v_pick_false rfl rfl) ?_
                              refine rl_nil (g_le (xK (xK (xK (xK (xK (xK (xK (xK (xK (xK (xK (xK (xK (xK (xK (xK (xK (xK (xK (xK (xK (xK (xK (xK (xK (xK (Fr.le_refl _))))))))))))))))))))))))))) ?_)
                              refine g_cond_false rfl ?_
                              refine g_skip (g_seq ?_)
                              have hub2 := K2.I.us _ (List.mem_of_getElem? (sgAt_some K2.I.o0 K2.I.o1))
                              have hsz2 := K2.I.size
                              have hz := hw
                              clear hw
                              obtain ⟨b5, o5, v, ecs, rfl, hy, hat5, hl5, hq5, hyr⟩ := gy (k : Nat) (by omega) (by omega)
                              subst hq5
                              rw [Int.toNat_natCast] at hy hat5
                              have hw := hz
                              refine g_region ?_
                              refine xV rfl rfl rfl (v_move rfl) ?_
                              refine xV rfl rfl rfl (v_move rfl) ?_
                              refine xV rfl rfl rfl (v_move rfl) ?_
                              refine xV rfl rfl rfl (v_indexAddr T.sl_54_9_1 rfl rfl (by omega) (by omega)) ?_
                              refine rl_v rfl rfl rfl (by exact ro_at0 hw (by (repeat first | with_reducible exact xH | apply xT); first | done | fail) (by assumption) rfl) (v_load T.scal_9 rfl) ?_
                              refine rl_k rfl (k_callf Try.func22 rfl rfl rfl rfl ?_)
                              refine Calls.mono (append_calls (l := l2) (m := m) (p := p) (b := b2) (c := c2) (o := o2) (ss := s2) (md := md2) (pw := pw2) v K2.I.len ⟨K2.I.o0, K2.I.o1⟩ K2.I.us K2.I.pok (by omega) (hw.xQ)) ?_
                              have hap := app_k K2 v
                              generalize appL o2 s2 md2 pw2 v = r at hap ⊢
                              rintro _ w ⟨rfl, hw⟩
                              refine ⟨_, rfl, ?_⟩
                              refine xV rfl rfl rfl (v_move rfl) ?_
                              refine xV rfl rfl rfl (v_extract rfl rfl) ?_
                              refine xV rfl rfl rfl (v_extract rfl rfl) ?_
                              refine rl_k rfl (k_alloc hw T.zero_58 rfl rfl (fun bk49_9 w hw => ?_))
                              refine rl_k rfl (k_storeWhole hw T.agg_58_3 rfl rfl (by simp [Value.oneCell']) rfl (by (repeat first | with_reducible exact xH | apply xT); first | done | fail) rfl (fun w hw => ?_))
                              refine xV rfl rfl rfl (v_assign rfl) ?_
                              refine rl_nil (g_le (xK (xK (xK (xK (xK (xK (xK (xK (xK (xK (xK (Fr.le_refl _)))))))))))) ?_)
                              refine g_seq ?_
                              have hr3 : (r.bad = 0 → r.at_.1 = o2 → r.at_.2.1 = (sgAt s2 o2).used) ∧ LgK size r.o r.ss r.md r.pw ∧ r.ss.length = n ∧ (r.md.past.length : Int) + 100 * frees r.ss + (100 - (sgAt r.ss r.o).used) ≤ xs.length + 1300 := by
                                rcases hap with ⟨e, he, rfl, _⟩ | ⟨at_, hA⟩
                                · exact ⟨fun h => absurd h he, K2, hl2, hp2⟩
                                · refine ⟨fun _ h => ?_, hA.K, by rw [hA.len, hl2], ?_⟩
                                  rotate_left
                                  · have h7 := app_frees K2 hA
                                    have h8 := hA.past
                                    have h9 := hA.us
                                    have h10 := hA.vs
                                    rcases hA.way with ⟨h11, h12⟩ | ⟨h11, h12, _⟩
                                    · rw [if_pos h11] at h7; omega
                                    · rw [if_neg h11] at h7; omega
                                  rw [hA.at0] at h ⊢
                                  rcases hA.way with h9 | h9
                                  · exact h9.2
                                  · exact absurd h h9.1
                              obtain ⟨hr4, K3, hl3, hp3⟩ := hr3
                              refine g_region ?_
                              refine xV rfl rfl rfl (v_move rfl) ?_
                              refine xV rfl rfl rfl (v_eql rfl rfl) ?_
                              refine xV rfl rfl rfl (v_move rfl) ?_
                              refine rl_split (s := 208) rfl (fun g50_2 => ?_) (fun g50_2 => ?_)
                              · try with_reducible exact ft_elim g50_2
                                all_goals
                                  try replace g50_2 := of_decide_eq_true g50_2
                                  refine rl_vg (met_on rfl rfl rfl rfl) rfl rfl (S := fun _ => True) trivial (v_fieldAddr0 T.fld_58_0_0 rfl) ?_
                                  refine rl_vg (met_on rfl rfl rfl rfl) rfl rfl (by exact sat_cell hw (by (repeat first | with_reducible exact xH | apply xT); first | done | fail) rfl) (v_load T.scal_3 rfl) ?_
                                  refine rl_vg (met_on rfl rfl rfl rfl) rfl rfl (S := fun _ => True) trivial (v_move rfl) ?_
                                  refine rl_vg (met_on rfl rfl rfl rfl) rfl rfl (S := fun _ => True) trivial (v_eql rfl rfl) ?_
                                  refine xV rfl rfl rfl (v_pick_true rfl rfl) ?_
                                  refine xV rfl rfl rfl (v_move rfl) ?_
                                  refine rl_split (s := 214) rfl (fun g50_8 => ?_) (fun g50_8 => ?_)
                                  · try with_reducible exact ft_elim g50_8
                                    all_goals
                                      try replace g50_8 := of_decide_eq_true g50_8
                                      refine rl_vg (met_on rfl rfl rfl rfl) rfl rfl (S := fun _ => True) trivial (v_fieldAddr0 T.fld_58_1_1 rfl) ?_
                                      refine rl_vg (met_on rfl rfl rfl rfl) rfl rfl (by exact sat_cell hw (by (repeat first | with_reducible exact xH | apply xT); first | done | fail) rfl) (v_load T.scal_3 rfl) ?_
                                      refine rl_vg (met_on rfl rfl rfl rfl) rfl rfl (S := fun _ => True) trivial (v_move rfl) ?_
                                      refine rl_vg (met_on rfl rfl rfl rfl) rfl rfl (S := fun _ => True) trivial (v_neqF rfl rfl (by omega)) ?_
                                      refine xV rfl rfl rfl (v_pick_true rfl rfl) ?_
                                      refine rl_nil (g_le (xK (xK (xK (xK (xK (xK (xK (xK (xK (xK (xK (xK (xK (xK (xK (xK (Fr.le_refl _))))))))))))))))) ?_)
                                      refine g_cond_false rfl ?_
                                      refine g_skip (g_inBlock ?_)
                                      refine g_region ?_
                                      refine xV rfl rfl rfl (v_move rfl) ?_
                                      refine xV rfl rfl rfl (v_add rfl rfl (by omega)) ?_
                                      refine xV rfl rfl rfl (v_assign rfl) ?_
                                      refine rl_nil (g_le (xK (xK (xK (Fr.le_refl _)))) ?_)
                                      exact g_le (by repeat (first | exact Fr.le_nil _ | refine Fr.le_cons rfl ?_)) (ih (k + 1, r.o, r.ss, r.md, r.pw) w ⟨by simp only; omega, K3, hl3, by simp only; omega, fun h => absurd h (by simp), hw.xQ⟩ (by simp only; omega))
                                  · try with_reducible exact tf_elim g50_8
                                    all_goals
                                      try replace g50_8 := of_decide_eq_false g50_8
                                      refine rl_off (met_off rfl rfl rfl rfl rfl) rfl rfl ?_
                                      refine rl_off (met_off rfl rfl rfl rfl rfl) rfl rfl ?_
                                      refine rl_off (met_off rfl rfl rfl rfl rfl) rfl rfl ?_
                                      refine rl_off (met_off rfl rfl rfl rfl rfl) rfl rfl ?_
                                      refine xV rfl rfl rfl (v_pick_false rfl rfl) ?_
                                      refine rl_nil (g_le (xK (xK (xK (xK (xK (xK (xK (xK (xK (xK (xK (xK (xK (xK (xK (xK (Fr.le_refl _))))))))))))))))) ?_)
                                      refine g_cond_false rfl ?_
                                      refine g_skip (g_inBlock ?_)
                                      refine g_region ?_
                                      refine xV rfl rfl rfl (v_move rfl) ?_
                                      refine xV rfl rfl rfl (v_add rfl rfl (by omega)) ?_
                                      refine xV rfl rfl rfl (v_assign rfl) ?_
                                      refine rl_nil (g_le (xK (xK (xK (Fr.le_refl _)))) ?_)
                                      exact g_le (by repeat (first | exact Fr.le_nil _ | refine Fr.le_cons rfl ?_)) (ih (k + 1, r.o, r.ss, r.md, r.pw) w ⟨by simp only; omega, K3, hl3, by simp only; omega, fun h => absurd h (by simp), hw.xQ⟩ (by simp only; omega))
                              · try with_reducible exact tf_elim g50_2
                                all_goals
                                  try replace g50_2 := of_decide_eq_false g50_2
                                  refine rl_off (met_off rfl rfl rfl rfl rfl) rfl rfl ?_
                                  refine rl_off (met_off rfl rfl rfl rfl rfl) rfl rfl ?_
                                  refine rl_off (met_off rfl rfl rfl rfl rfl) rfl rfl ?_
                                  refine rl_off (met_off rfl rfl rfl rfl rfl) rfl rfl ?_
                                  refine xV rfl rfl rfl (v_pick_false rfl rfl) ?_
                                  refine xV rfl rfl rfl (v_move rfl) ?_
                                  refine rl_off (met_off rfl rfl rfl rfl rfl) rfl rfl ?_
                                  refine rl_off (met_off rfl rfl rfl rfl rfl) rfl rfl ?_
                                  refine rl_off (met_off rfl rfl rfl rfl rfl) rfl rfl ?_
                                  refine rl_off (met_off rfl rfl rfl rfl rfl) rfl rfl ?_
                                  refine xV rfl rfl rfl (v_pick_false rfl rfl) ?_
                                  refine rl_nil (g_le (xK (xK (xK (xK (xK (xK (xK (xK (xK (xK (xK (xK (xK (xK (xK (Fr.le_refl _)))))))))))))))) ?_)
                                  refine g_cond_false rfl ?_
                                  refine g_skip (g_inBlock ?_)
                                  refine g_region ?_
                                  refine xV rfl rfl rfl (v_move rfl) ?_
                                  refine xV rfl rfl rfl (v_add rfl rfl (by omega)) ?_
                                  refine xV rfl rfl rfl (v_assign rfl) ?_
                                  refine rl_nil (g_le (xK (xK (xK (Fr.le_refl _)))) ?_)
                                  exact g_le (by repeat (first | exact Fr.le_nil _ | refine Fr.le_cons rfl ?_)) (ih (k + 1, r.o, r.ss, r.md, r.pw) w ⟨by simp only; omega, K3, hl3, by simp only; omega, fun h => absurd h (by simp), hw.xQ⟩ (by simp only; omega))
                          · try with_reducible exact tf_elim g47_19
                            all_goals
                              try replace g47_19 := of_decide_eq_false g47_19
                              refine rl_off (met_off rfl rfl rfl rfl rfl) rfl rfl ?_
                              refine rl_off (met_off rfl rfl rfl rfl rfl) rfl rfl ?_
                              refine rl_vg (met_on rfl rfl rfl rfl) rfl rfl (S := fun _ => True) trivial (v_pick_false rfl rfl) ?_
                              refine xV rfl rfl rfl (v_pick_false rfl rfl) ?_
                              refine rl_nil (g_le (xK (xK (xK (xK (xK (xK (xK (xK (xK (xK (xK (xK (xK (xK (xK (xK (xK (xK (xK (xK (xK (xK (xK (xK (xK (xK (Fr.le_refl _))))))))))))))))))))))))))) ?_)
                              refine g_cond_false rfl ?_
                              refine g_skip (g_seq ?_)
                              have hub2 := K2.I.us _ (List.mem_of_getElem? (sgAt_some K2.I.o0 K2.I.o1))
                              have hsz2 := K2.I.size
                              have hz := hw
                              clear hw
                              obtain ⟨b5, o5, v, ecs, rfl, hy, hat5, hl5, hq5, hyr⟩ := gy (k : Nat) (by omega) (by omega)
                              subst hq5
                              rw [Int.toNat_natCast] at hy hat5
                              have hw := hz
                              refine g_region ?_
                              refine xV rfl rfl rfl (v_move rfl) ?_
                              refine xV rfl rfl rfl (v_move rfl) ?_
                              refine xV rfl rfl rfl (v_move rfl) ?_
                              refine xV rfl rfl rfl (v_indexAddr T.sl_54_9_1 rfl rfl (by omega) (by omega)) ?_
                              refine rl_v rfl rfl rfl (by exact ro_at0 hw (by (repeat first | with_reducible exact xH | apply xT); first | done | fail) (by assumption) rfl) (v_load T.scal_9 rfl) ?_
                              refine rl_k rfl (k_callf Try.func22 rfl rfl rfl rfl ?_)
                              refine Calls.mono (append_calls (l := l2) (m := m) (p := p) (b := b2) (c := c2) (o := o2) (ss := s2) (md := md2) (pw := pw2) v K2.I.len ⟨K2.I.o0, K2.I.o1⟩ K2.I.us K2.I.pok (by omega) (hw.xQ)) ?_
                              have hap := app_k K2 v
                              generalize appL o2 s2 md2 pw2 v = r at hap ⊢
                              rintro _ w ⟨rfl, hw⟩
                              refine ⟨_, rfl, ?_⟩
                              refine xV rfl rfl rfl (v_move rfl) ?_
                              refine xV rfl rfl rfl (v_extract rfl rfl) ?_
                              refine xV rfl rfl rfl (v_extract rfl rfl) ?_
                              refine rl_k rfl (k_alloc hw T.zero_58 rfl rfl (fun bk49_9 w hw => ?_))
                              refine rl_k rfl (k_storeWhole hw T.agg_58_3 rfl rfl (by simp [Value.oneCell']) rfl (by (repeat first | with_reducible exact xH | apply xT); first | done | fail) rfl (fun w hw => ?_))
                              refine xV rfl rfl rfl (v_assign rfl) ?_
                              refine rl_nil (g_le (xK (xK (xK (xK (xK (xK (xK (xK (xK (xK (xK (Fr.le_refl _)))))))))))) ?_)
                              refine g_seq ?_
                              have hr3 : (r.bad = 0 → r.at_.1 = o2 → r.at_.2.1 = (sgAt s2 o2).used) ∧ LgK size r.o r.ss r.md r.pw ∧ r.ss.length = n ∧ (r.md.past.length : Int) + 100 * frees r.ss + (100 - (sgAt r.ss r.o).used) ≤ xs.length + 1300 := by
                                rcases hap with ⟨e, he, rfl, _⟩ | ⟨at_, hA⟩
                                · exact ⟨fun h => absurd h he, K2, hl2, hp2⟩
                                · refine ⟨fun _ h => ?_, hA.K, by rw [hA.len, hl2], ?_⟩
                                  rotate_left
                                  · have h7 := app_frees K2 hA
                                    have h8 := hA.past
                                    have h9 := hA.us
                                    have h10 := hA.vs
                                    rcases hA.way with ⟨h11, h12⟩ | ⟨h11, h12, _⟩
                                    · rw [if_pos h11] at h7; omega
                                    · rw [if_neg h11] at h7; omega
                                  rw [hA.at0] at h ⊢
                                  rcases hA.way with h9 | h9
                                  · exact h9.2
                                  · exact absurd h h9.1
                              obtain ⟨hr4, K3, hl3, hp3⟩ := hr3
                              refine g_region ?_
                              refine xV rfl rfl rfl (v_move rfl) ?_
                              refine xV rfl rfl rfl (v_eql rfl rfl) ?_
                              refine xV rfl rfl rfl (v_move rfl) ?_
                              refine rl_split (s := 208) rfl (fun g50_2 => ?_) (fun g50_2 => ?_)
                              · try with_reducible exact ft_elim g50_2
                                all_goals
                                  try replace g50_2 := of_decide_eq_true g50_2
                                  refine rl_vg (met_on rfl rfl rfl rfl) rfl rfl (S := fun _ => True) trivial (v_fieldAddr0 T.fld_58_0_0 rfl) ?_
                                  refine rl_vg (met_on rfl rfl rfl rfl) rfl rfl (by exact sat_cell hw (by (repeat first | with_reducible exact xH | apply xT); first | done | fail) rfl) (v_load T.scal_3 rfl) ?_
                                  refine rl_vg (met_on rfl rfl rfl rfl) rfl rfl (S := fun _ => True) trivial (v_move rfl) ?_
                                  refine rl_vg (met_on rfl rfl rfl rfl) rfl rfl (S := fun _ => True) trivial (v_eql rfl rfl) ?_
                                  refine xV rfl rfl rfl (v_pick_true rfl rfl) ?_
                                  refine xV rfl rfl rfl (v_move rfl) ?_
                                  refine rl_split (s := 214) rfl (fun g50_8 => ?_) (fun g50_8 => ?_)
                                  · try with_reducible exact ft_elim g50_8
                                    all_goals
                                      try replace g50_8 := of_decide_eq_true g50_8
                                      refine rl_vg (met_on rfl rfl rfl rfl) rfl rfl (S := fun _ => True) trivial (v_fieldAddr0 T.fld_58_1_1 rfl) ?_
                                      refine rl_vg (met_on rfl rfl rfl rfl) rfl rfl (by exact sat_cell hw (by (repeat first | with_reducible exact xH | apply xT); first | done | fail) rfl) (v_load T.scal_3 rfl) ?_
                                      refine rl_vg (met_on rfl rfl rfl rfl) rfl rfl (S := fun _ => True) trivial (v_move rfl) ?_
                                      refine rl_vg (met_on rfl rfl rfl rfl) rfl rfl (S := fun _ => True) trivial (v_neqF rfl rfl (by omega)) ?_
                                      refine xV rfl rfl rfl (v_pick_true rfl rfl) ?_
                                      refine rl_nil (g_le (xK (xK (xK (xK (xK (xK (xK (xK (xK (xK (xK (xK (xK (xK (xK (xK (Fr.le_refl _))))))))))))))))) ?_)
                                      refine g_cond_false rfl ?_
                                      refine g_skip (g_inBlock ?_)
                                      refine g_region ?_
                                      refine xV rfl rfl rfl (v_move rfl) ?_
                                      refine xV rfl rfl rfl (v_add rfl rfl (by omega)) ?_
                                      refine xV rfl rfl rfl (v_assign rfl) ?_
                                      refine rl_nil (g_le (xK (xK (xK (Fr.le_refl _)))) ?_)
                                      exact g_le (by repeat (first | exact Fr.le_nil _ | refine Fr.le_cons rfl ?_)) (ih (k + 1, r.o, r.ss, r.md, r.pw) w ⟨by simp only; omega, K3, hl3, by simp only; omega, fun h => absurd h (by simp), hw.xQ⟩ (by simp only; omega))
                                  · try with_reducible exact tf_elim g50_8
                                    all_goals
                                      try replace g50_8 := of_decide_eq_false g50_8
                                      refine rl_off (met_off rfl rfl rfl rfl rfl) rfl rfl ?_
                                      refine rl_off (met_off rfl rfl rfl rfl rfl) rfl rfl ?_
                                      refine rl_off (met_off rfl rfl rfl rfl rfl) rfl rfl ?_
                                      refine rl_off (met_off rfl rfl rfl rfl rfl) rfl rfl ?_
                                      refine xV rfl rfl rfl (v_pick_false rfl rfl) ?_
                                      refine rl_nil (g_le (xK (xK (xK (xK (xK (xK (xK (xK (xK (xK (xK (xK (xK (xK (xK (xK (Fr.le_refl _))))))))))))))))) ?_)
                                      refine g_cond_false rfl ?_
                                      refine g_skip (g_inBlock ?_)
                                      refine g_region ?_
                                      refine xV rfl rfl rfl (v_move rfl) ?_
                                      refine xV rfl rfl rfl (v_add rfl rfl (by omega)) ?_
                                      refine xV rfl rfl rfl (v_assign rfl) ?_
                                      refine rl_nil (g_le (xK (xK (xK (Fr.le_refl _)))) ?_)
                                      exact g_le (by repeat (first | exact Fr.le_nil _ | refine Fr.le_cons rfl ?_)) (ih (k + 1, r.o, r.ss, r.md, r.pw) w ⟨by simp only; omega, K3, hl3, by simp only; omega, fun h => absurd h (by simp), hw.xQ⟩ (by simp only; omega))
                              · try with_reducible exact tf_elim g50_2
                                all_goals
                                  try replace g50_2 := of_decide_eq_false g50_2
                                  refine rl_off (met_off rfl rfl rfl rfl rfl) rfl rfl ?_
                                  refine rl_off (met_off rfl rfl rfl rfl rfl) rfl rfl ?_
                                  refine rl_off (met_off rfl rfl rfl rfl rfl) rfl rfl ?_
                                  refine rl_off (met_off rfl rfl rfl rfl rfl) rfl rfl ?_
                                  refine xV rfl rfl rfl (v_pick_false rfl rfl) ?_
                                  refine xV rfl rfl rfl (v_move rfl) ?_
                                  refine rl_off (met_off rfl rfl rfl rfl rfl) rfl rfl ?_
                                  refine rl_off (met_off rfl rfl rfl rfl rfl) rfl rfl ?_
                                  refine rl_off (met_off rfl rfl rfl rfl rfl) rfl rfl ?_
                                  refine rl_off (met_off rfl rfl rfl rfl rfl) rfl rfl ?_
                                  refine xV rfl rfl rfl (v_pick_false rfl rfl) ?_
                                  refine rl_nil (g_le (xK (xK (xK (xK (xK (xK (xK (xK (xK (xK (xK (xK (xK (xK (xK (Fr.le_refl _)))))))))))))))) ?_)
                                  refine g_cond_false rfl ?_
                                  refine g_skip (g_inBlock ?_)
                                  refine g_region ?_
                                  refine xV rfl rfl rfl (v_move rfl) ?_
                                  refine xV rfl rfl rfl (v_add rfl rfl (by omega)) ?_
                                  refine xV rfl rfl rfl (v_assign rfl) ?_
                                  refine rl_nil (g_le (xK (xK (xK (Fr.le_refl _)))) ?_)
                                  exact g_le (by repeat (first | exact Fr.le_nil _ | refine Fr.le_cons rfl ?_)) (ih (k + 1, r.o, r.ss, r.md, r.pw) w ⟨by simp only; omega, K3, hl3, by simp only; omega, fun h => absurd h (by simp), hw.xQ⟩ (by simp only; omega))
                  · try with_reducible exact tf_elim h14
                    all_goals
                      try replace h14 := of_decide_eq_false h14
                      refine g_exit rfl (g_seq ?_)
                      have hct := K2.count
                      refine g_region ?_
                      refine xV rfl rfl rfl (v_move rfl) ?_
                      refine rl_k rfl (k_callf Try.func23 rfl rfl rfl rfl ?_)
                      refine Calls.mono (free_calls (l := l2) (m := m) (b := b2) (c := c2) (o := o2) (ss := s2) (by omega) (hw.xQ)) ?_
                      rw [ofS_len]
                      rintro _ w ⟨fv1, rfl, hw⟩
                      obtain ⟨fa1, fc1, rfl, _, _, _⟩ := hw.own_shape
                      have hw := hw.drop
                      refine ⟨_, rfl, ?_⟩
                      refine xV rfl rfl rfl (v_lenSlice T.sl_61_3_1 rfl) ?_
                      refine xV rfl rfl rfl (v_move rfl) ?_
                      refine rl_k rfl (k_callf Try.func27 rfl rfl rfl rfl ?_)
                      refine Calls.mono (sealed_calls (l := l2) (m := m) (b := b2) (c := c2) (o := o2) (ss := s2) (by omega) (hw.xQ)) ?_
                      rw [ofS_len]
                      rintro _ w ⟨sv1, rfl, hw⟩
                      obtain ⟨sa1, sc1, rfl, _, _, _⟩ := hw.own_shape
                      have hw := hw.drop
                      refine ⟨_, rfl, ?_⟩
                      refine xV rfl rfl rfl (v_lenSlice T.sl_61_3_1 rfl) ?_
                      refine xV rfl rfl rfl (v_add rfl rfl (by omega)) ?_
                      refine xV rfl rfl rfl (v_add rfl rfl (by omega)) ?_
                      refine xV rfl rfl rfl (v_move rfl) ?_
                      refine xV rfl rfl rfl (v_eqlT rfl rfl (by omega)) ?_
                      refine xV rfl rfl rfl (v_assign rfl) ?_
                      refine rl_nil (g_le (xK (xS rfl (xS rfl (xS rfl (xS rfl (xS rfl (xS rfl (xS rfl (xS rfl (xS rfl (xS rfl (Fr.le_refl _)))))))))))) ?_)
                      refine g_ret1 Try.func7 rfl rfl ?_
                      exact ⟨rfl, hw.xQ⟩

set_option maxRecDepth 100000 in
theorem SegmentBegins_lifted (os : Os) (started : os.Started) (H : Type) (enc : TypeId × Value → H) :
    ReturnsInHanded {} Try.checked os 7 .any (Rows.segmentBeginsSpec.pre6 enc Try.prog Try.f7 Rows.segmentBeginsRow.domain false) (Rows.segmentBeginsSpec.post enc Try.prog Try.f7 false true false false) := by
  refine returnsInHanded_of_change_sized (C := Try.checked) T.own started (by kernel_rfl) Try.func7
    (ChangeSpec.witness6 (enc := enc) (C := Try.checked) false ⟨#[], #[(.agg #[(.int .i64 0), (.int .i64 0), (.slice none 0 0), (.slice none 0 0)])], []⟩ 8 (by kernel_rfl) (by kernel_rfl) (by kernel_rfl) (by kernel_rfl)) ?_
  intro W base args ds gs before hval0 hW hcnd hsz0 _
  have hval : ∀ (j : Nat) t v, Try.f7.params[j]? = some t → args[j]? = some v → Value.okWide Try.prog W .any base t v := hval0
  have hW' := hW
  obtain ⟨p, q, hA0, hV, rfl, hfz, hnd⟩ := hW
  have hA : DataW.TrodAll enc Try.prog W 0 (fun _ => true) true Try.f7.params.toList args.toList ds p := hA0
  obtain ⟨rfl, rfl⟩ := trodVars_none hV
  have hsz : (DataW.weightsEach Try.prog (Try.f7.params.toList ++ []) (ds ++ [])).all (· ≤ reachBytes) = true := hsz0
  rw [List.append_nil, List.append_nil] at hsz
  rw [Try.params7] at hA hval hsz
  obtain ⟨v0, vs0, d0, ds0, p0, q0, hargs, rfl, rfl, h0, r0⟩ := trodAll_cons hA
  obtain ⟨rfl, rfl, rfl⟩ := trodAll_nil r0
  obtain rfl : args = #[v0] := by cases args; simp_all
  have lt0 : ∀ x ∈ p0, x.block < W.heap.size := by obtain ⟨m, hm⟩ := h0; exact DataW.trod_lt m _ _ _ hm
  obtain ⟨x0, w0⟩ := arg_of (j := 0) reads_Begun14 h0 hsz rfl rfl
  obtain ⟨cs0, rfl⟩ := okWide_agg T.agg_78_4 (hval 0 78 v0 rfl rfl)
  refine (SegmentBegins_law w0).mono fun e W' ⟨he, hb⟩ => ?_
  have bel := hb.below
  subst he
  exact ⟨_, rfl, _, _, _, [], _, [], hW', trodAll_mk1 (shut_bool Try.underlying4 _), (trodAll_cons_mk (Below.trod T.laidOut (by kernel_rfl) (of_decide_eq_true (by kernel_rfl)) h0 bel lt0) trodAll_mk0), rfl, bel.frame _, fun h => by cases h⟩
theorem SegmentBegins_holds : Rows.SegmentBeginsSaid :=
  OpenClaim.holds_of_wide 7 Try.f7 rfl rfl rfl rfl rfl rfl rfl ⟨rfl, rfl, rfl, rfl, rfl⟩ rfl rfl rfl rfl rfl (by kernel_rfl) Try.func7 (by kernel_rfl)
    (of_decide_eq_true (by kernel_rfl)) (by unfold Func.isWrapper; rw [if_neg (of_decide_eq_false (by kernel_rfl))]; exact ⟨rfl, rfl⟩)
    (fun os started H enc _ => SegmentBegins_lifted os started H enc)
#print axioms SegmentBegins_holds
end Go.Proofs.Ytipdklbedpkobaa
