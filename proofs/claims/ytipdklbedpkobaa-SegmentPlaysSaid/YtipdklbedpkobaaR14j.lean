/-
  The laws of layer 14: one call, of a log and of the document's.
-/
import Derived.Test.YtipdklbedpkobaaR14i
namespace Go.Proofs.Ytipdklbedpkobaa
set_option maxRecDepth 8000
set_option linter.unusedSimpArgs false
set_option linter.unusedVariables false
open Go Xe Go.Lib
theorem eq_pl3 {a b c : Int} : cellsEq [Value.int .i64 a, .int .i64 b, .int .i64 c] [Value.int .i64 a, .int .i64 b, .int .i64 c] = some true := by
  have h := eq_Pl ⟨a, b, c⟩ ⟨a, b, c⟩
  rw [decide_eq_true rfl] at h
  exact h
def begE (op : Int) (n : Nat) (r : Bool) : Int := if 0 ≤ op ∧ op < n then (if r then 0 else 121) else 120
theorem begin_all {E : Env} {w : World} {L : List As} {l m p b c : Nat} {o op us : Int} {ss : List Sg} {md : Md} {A : As} {v : Value} {xs : List Pl} (hb : ss.length ≤ 4096) (hS : SrcA A v xs) (hok : ∀ p ∈ xs, p.len ≤ 9223372036854775807)
    (hw : Sat E w (pt l (.cells [Value.pointer (some ⟨m, 0, none⟩), .int .i64 o, .slice (some ⟨b, 0, none⟩) (ss : List Sg).length c].toArray 47 (0, 0)) :: OwnSl 104 3 (.slice (some ⟨b, 0, none⟩) (ss).length c) (ss).length ((ss).flatMap Sg.cells) :: MdAt m p md :: A :: L)) :
    Calls Try.prog 32 #[.pointer (some ⟨l, 0, none⟩), .int .i64 op, .int .i64 us, v] w fun e w' => ∃ r : Bool, e = .returned (.int .i64 (begE op ss.length r)) ∧ (r = true ↔ (0 ≤ op ∧ op < ss.length) ∧ 0 ≤ us ∧ us ≤ md.used op ∧ fitsP (bgU op us md) ss.length xs) ∧
      Sat E w' (pt l (.cells [Value.pointer (some ⟨m, 0, none⟩), .int .i64 ((if r then op else o)), .slice (some ⟨b, 0, none⟩) (((if r then begun (bgU op us md) op ss xs else ss)) : List Sg).length c].toArray 47 (0, 0)) :: OwnSl 104 3 (.slice (some ⟨b, 0, none⟩) (((if r then begun (bgU op us md) op ss xs else ss))).length c) (((if r then begun (bgU op us md) op ss xs else ss))).length ((((if r then begun (bgU op us md) op ss xs else ss))).flatMap Sg.cells) :: MdAt m p md :: A :: L) := by
  by_cases hi : 0 ≤ op ∧ op < ss.length
  · refine Calls.mono (begin_in hb hS hok hi.1 hi.2 hw) ?_
    rintro _ w ⟨r, rfl, hr, hw⟩
    exact ⟨r, by unfold begE; rw [if_pos hi], hr.trans ⟨fun h => ⟨hi, h⟩, fun h => h.2⟩, hw⟩
  · refine Calls.mono (begin_out v hb hi hw) ?_
    rintro _ w ⟨rfl, hw⟩
    exact ⟨false, by unfold begE; rw [if_neg hi], ⟨fun h => absurd h (by simp), fun h => absurd h.1 hi⟩, hw⟩
theorem rbegin_all {E : Env} {w : World} {L : List As} {q rm p k1 k2 k3 c1 c2 c3 : Nat} {op us : Int} {rs : List Sg} {md : Md} {A : As} {v : Value} {xs : List Pl} (hb : rs.length ≤ 4096) (hl : md.segs.length = rs.length) (hmd : md.ok) (hS : SrcA A v xs) (hok : ∀ p ∈ xs, p.len ≤ 9223372036854775807)
    (hw : Sat E w (pt q (.cells [Value.pointer (some ⟨rm, 0, none⟩), .slice (some ⟨k1, 0, none⟩) (rs : List Sg).length c1, .slice (some ⟨k2, 0, none⟩) (rs : List Sg).length c2, .slice (some ⟨k3, 0, none⟩) (rs : List Sg).length c3].toArray 120 (0, 0)) :: OwnSl 3 1 (.slice (some ⟨k1, 0, none⟩) (rs).length c1) (rs).length ((rs).map fun x => Value.int .i64 x.kind) :: OwnSl 3 1 (.slice (some ⟨k2, 0, none⟩) (rs).length c2) (rs).length ((rs).map fun x => Value.int .i64 x.used) :: OwnSl 3 1 (.slice (some ⟨k3, 0, none⟩) (rs).length c3) (rs).length ((rs).map fun x => Value.int .i64 x.live) :: RmAt rm p md :: A :: L)) :
    Calls Try.prog 54 #[.pointer (some ⟨q, 0, none⟩), .int .i64 op, .int .i64 us, v] w fun e w' => ∃ r : Bool, e = .returned (.int .i64 (begE op rs.length r)) ∧ (r = true ↔ (0 ≤ op ∧ op < rs.length) ∧ 0 ≤ us ∧ us ≤ md.used op ∧ fitsP (bgU op us md) rs.length xs) ∧
      Sat E w' (pt q (.cells [Value.pointer (some ⟨rm, 0, none⟩), .slice (some ⟨k1, 0, none⟩) (((if r then rbegun md op us rs xs else rs)) : List Sg).length c1, .slice (some ⟨k2, 0, none⟩) (((if r then rbegun md op us rs xs else rs)) : List Sg).length c2, .slice (some ⟨k3, 0, none⟩) (((if r then rbegun md op us rs xs else rs)) : List Sg).length c3].toArray 120 (0, 0)) :: OwnSl 3 1 (.slice (some ⟨k1, 0, none⟩) (((if r then rbegun md op us rs xs else rs))).length c1) (((if r then rbegun md op us rs xs else rs))).length ((((if r then rbegun md op us rs xs else rs))).map fun x => Value.int .i64 x.kind) :: OwnSl 3 1 (.slice (some ⟨k2, 0, none⟩) (((if r then rbegun md op us rs xs else rs))).length c2) (((if r then rbegun md op us rs xs else rs))).length ((((if r then rbegun md op us rs xs else rs))).map fun x => Value.int .i64 x.used) :: OwnSl 3 1 (.slice (some ⟨k3, 0, none⟩) (((if r then rbegun md op us rs xs else rs))).length c3) (((if r then rbegun md op us rs xs else rs))).length ((((if r then rbegun md op us rs xs else rs))).map fun x => Value.int .i64 x.live) :: RmAt rm p md :: A :: L) := by
  by_cases hi : 0 ≤ op ∧ op < rs.length
  · refine Calls.mono (rbegin_in hb hl hmd hS hok hi.1 hi.2 hw) ?_
    rintro _ w ⟨r, rfl, hr, hw⟩
    exact ⟨r, by unfold begE; rw [if_pos hi], hr.trans ⟨fun h => ⟨hi, h⟩, fun h => h.2⟩, hw⟩
  · refine Calls.mono (rbegin_out v (fun h => hi ⟨h.1, by have := h.2; omega⟩) hw) ?_
    rintro _ w ⟨rfl, hw⟩
    exact ⟨false, by unfold begE; rw [if_neg hi], ⟨fun h => absurd h (by simp), fun h => absurd h.1 hi⟩, hw⟩
theorem own_none' {E : Env} {w : World} {L : List As} {A : As} (h : Sat E w (A :: L)) : Sat E w L := h.drop
theorem app_len (o : Int) (ss : List Sg) (md : Md) (pw : Pw) (v : ByteArray) : (appL o ss md pw v).at_.2.2 ≤ v.size := by
  unfold appL
  split
  · simp
  · split
    · simp
    · split
      · simp
      · exact Int.le_refl _
theorem ord_f36_r4_R14j : orderOfB Try.f36 4 [6, 11] (.a 0 (.a 1 (.a 2 (.a 4 (.v 3 (.v 5 (.b2 6 10 (.a 7 (.a 8 (.a 9 (.k 10 (.k 11 (.k 12 .done)))))) (.k 6 (.k 7 (.a 8 (.a 9 (.k 11 (.k 12 .done))))))))))))) = true := by kernel_rfl
theorem ord_f36_r5_R14j : orderOfB Try.f36 5 [6, 11] (.a 0 (.a 1 (.a 2 (.a 4 (.v 3 (.v 5 (.b2 6 10 (.a 7 (.a 8 (.a 9 (.k 10 (.k 11 (.k 12 .done)))))) (.k 6 (.k 7 (.a 8 (.a 9 (.k 11 (.k 12 .done))))))))))))) = true := by kernel_rfl
theorem ord_f36_r7_R14j : orderOfB Try.f36 7 [7, 10] (.a 0 (.a 1 (.a 2 (.a 3 (.v 4 (.k 5 (.k 6 (.k 7 (.k 8 (.k 9 (.k 10 .done))))))))))) = true := by kernel_rfl
theorem ord_f36_r11_R14j : orderOfB Try.f36 11 [7] (.a 0 (.a 1 (.a 2 (.a 3 (.a 5 (.v 4 (.k 6 (.k 7 (.k 8 (.k 9 .done)))))))))) = true := by kernel_rfl
theorem ord_f36_r13_R14j : orderOfB Try.f36 13 [10] (.a 0 (.a 1 (.a 2 (.a 4 (.a 5 (.a 6 (.a 8 (.v 3 (.v 7 (.k 9 (.k 10 (.k 11 .done)))))))))))) = true := by kernel_rfl
theorem ord_f36_r17_R14j : orderOfB Try.f36 17 [9] (.a 0 (.a 1 (.a 2 (.a 4 (.a 6 (.a 8 (.v 3 (.v 5 (.k 7 (.k 9 (.k 10 .done))))))))))) = true := by kernel_rfl
theorem ord_f36_r18_R14j : orderOfB Try.f36 18 [11] (.a 0 (.a 1 (.a 2 (.a 3 (.a 5 (.a 7 (.a 9 (.v 4 (.v 6 (.v 8 (.k 10 (.k 11 (.k 12 (.k 13 .done)))))))))))))) = true := by kernel_rfl
theorem ord_f36_r20_R14j : orderOfB Try.f36 20 [12] (.a 0 (.a 1 (.a 2 (.a 10 (.v 3 (.a 4 (.a 5 (.v 6 (.a 7 (.a 8 (.v 9 (.k 11 (.k 12 .done))))))))))))) = true := by kernel_rfl
theorem ord_f36_r21_R14j : orderOfB Try.f36 21 [12] (.a 0 (.a 1 (.a 2 (.a 10 (.v 3 (.a 4 (.a 5 (.v 6 (.a 7 (.a 8 (.v 9 (.k 11 (.k 12 .done))))))))))))) = true := by kernel_rfl
theorem ord_f36_r26_R14j : orderOfB Try.f36 26 [13] (.a 0 (.a 1 (.a 2 (.a 7 (.a 9 (.a 11 (.v 3 (.a 4 (.a 5 (.v 6 (.v 8 (.v 10 (.k 12 (.k 13 (.k 14 .done))))))))))))))) = true := by kernel_rfl
theorem ord_f36_r27_R14j : orderOfB Try.f36 27 [14] (.a 0 (.a 1 (.a 2 (.a 3 (.a 8 (.a 10 (.a 12 (.v 4 (.a 5 (.a 6 (.v 7 (.v 9 (.v 11 (.k 13 (.k 14 (.k 15 (.k 16 .done))))))))))))))))) = true := by kernel_rfl
theorem ord_f36_r29_R14j : orderOfB Try.f36 29 [] (.a 0 (.a 1 (.a 2 (.a 4 (.a 7 (.a 8 (.a 9 (.a 11 (.v 3 (.v 5 (.v 10 (.v 12 (.k 6 (.k 13 (.k 14 (.k 15 (.a 16 (.a 17 (.a 18 (.a 20 (.a 23 (.a 24 (.a 25 (.a 27 (.v 19 (.v 21 (.v 26 (.v 28 (.k 22 (.k 29 (.k 30 (.k 31 (.k 32 .done))))))))))))))))))))))))))))))))) = true := by kernel_rfl
set_option maxHeartbeats 8000000 in
theorem step14_calls {E : Env} {w : World} {L : List As} {xd l m p b c q rm p2 k1 k2 k3 c1 c2 c3 : Nat} {o : Int} {ss rs : List Sg} {md : Md} {pw : Pw} {pv : Value} {xs : List Pl} {g : Hp} {pa : Option Addr} {pn pc : Nat} (x : Op14) (K : Lk o ss rs md pw)
    (hpl : rdSl 24 3 rdPl g [.slice pa pn pc] x.places) (hxs : x.bytes.size ≤ reachBytes) (hok : ∀ p ∈ xs, p.len ≤ 9223372036854775807) (hn : xs.length * 24 ≤ 60000000000000) (hpast : md.past.length ≤ 3000000000000)
    (hw : Sat E w (pt xd (.cells [Value.pointer (some ⟨l, 0, none⟩), Value.pointer (some ⟨q, 0, none⟩), pv].toArray 90 (0, 0)) :: OwnSl 58 3 (pv) (xs : List Pl).length ((xs : List Pl).flatMap Pl.cells) :: pt l (.cells [Value.pointer (some ⟨m, 0, none⟩), .int .i64 o, .slice (some ⟨b, 0, none⟩) (ss : List Sg).length c].toArray 47 (0, 0)) :: OwnSl 104 3 (.slice (some ⟨b, 0, none⟩) (ss).length c) (ss).length ((ss).flatMap Sg.cells) :: MdAt m p md :: PwAt p pw :: pt q (.cells [Value.pointer (some ⟨rm, 0, none⟩), .slice (some ⟨k1, 0, none⟩) (rs : List Sg).length c1, .slice (some ⟨k2, 0, none⟩) (rs : List Sg).length c2, .slice (some ⟨k3, 0, none⟩) (rs : List Sg).length c3].toArray 120 (0, 0)) :: OwnSl 3 1 (.slice (some ⟨k1, 0, none⟩) (rs).length c1) (rs).length ((rs).map fun x => Value.int .i64 x.kind) :: OwnSl 3 1 (.slice (some ⟨k2, 0, none⟩) (rs).length c2) (rs).length ((rs).map fun x => Value.int .i64 x.used) :: OwnSl 3 1 (.slice (some ⟨k3, 0, none⟩) (rs).length c3) (rs).length ((rs).map fun x => Value.int .i64 x.live) :: RmAt rm p2 md :: RwAt p2 pw.ref :: RO g :: L)) :
    Calls Try.prog 36 #[.pointer (some ⟨xd, 0, none⟩), .agg #[.int .i64 x.kind, .string x.bytes, .int .i64 x.a, .int .i64 x.b, .slice pa pn pc]] w fun e w' => e = .returned (.bool true) ∧ ∃ o' ss' rs' md' pw' pv' xs', Lk o' ss' rs' md' pw' ∧ ss'.length = ss.length ∧ md'.past.length ≤ md.past.length + 1 ∧ xs'.length ≤ xs.length + 1 ∧ (∀ p ∈ xs', p.len ≤ 9223372036854775807) ∧
      Sat E w' (pt xd (.cells [Value.pointer (some ⟨l, 0, none⟩), Value.pointer (some ⟨q, 0, none⟩), pv'].toArray 90 (0, 0)) :: OwnSl 58 3 (pv') (xs' : List Pl).length ((xs' : List Pl).flatMap Pl.cells) :: pt l (.cells [Value.pointer (some ⟨m, 0, none⟩), .int .i64 o', .slice (some ⟨b, 0, none⟩) (ss' : List Sg).length c].toArray 47 (0, 0)) :: OwnSl 104 3 (.slice (some ⟨b, 0, none⟩) (ss').length c) (ss').length ((ss').flatMap Sg.cells) :: MdAt m p md' :: PwAt p pw' :: pt q (.cells [Value.pointer (some ⟨rm, 0, none⟩), .slice (some ⟨k1, 0, none⟩) (rs' : List Sg).length c1, .slice (some ⟨k2, 0, none⟩) (rs' : List Sg).length c2, .slice (some ⟨k3, 0, none⟩) (rs' : List Sg).length c3].toArray 120 (0, 0)) :: OwnSl 3 1 (.slice (some ⟨k1, 0, none⟩) (rs').length c1) (rs').length ((rs').map fun x => Value.int .i64 x.kind) :: OwnSl 3 1 (.slice (some ⟨k2, 0, none⟩) (rs').length c2) (rs').length ((rs').map fun x => Value.int .i64 x.used) :: OwnSl 3 1 (.slice (some ⟨k3, 0, none⟩) (rs').length c3) (rs').length ((rs').map fun x => Value.int .i64 x.live) :: RmAt rm p2 md' :: RwAt p2 pw'.ref :: RO g :: L) := by
  have hb : ss.length ≤ 4096 := by have h1 := K.len; have h2 := K.mo.2.1; omega
  have hrl := K.rlen
  have hrb : rs.length ≤ 4096 := by omega
  have hml : md.segs.length = rs.length := by have := K.len; omega
  have hms := K.mo.2.2.2.1
  have hus : ∀ x ∈ ss, 0 ≤ x.used ∧ x.used ≤ 1048576 := fun x hx => by have := K.us x hx; omega
  have hur : ∀ x ∈ rs, 0 ≤ x.used ∧ x.used ≤ 1048576 := fun x hx => by have := K.ur x hx; omega
  obtain ⟨hpn, hp2, hp3, hp4, cells, hels, hsrc⟩ := rdSl_cells hpl
  simp only [reachBytes] at hp4
  simp only [maxLen] at hp3
  have hcl := els_pl hels
  subst hcl
  have hlenP := pl_len x.places
  subst hpn
  have hlok : ∀ p ∈ x.places, p.len ≤ 9223372036854775807 := fun p hp => by
    obtain ⟨i, hi⟩ := List.getElem?_of_mem hp
    have h9 := (hels.at hi).1.2
    simp [Pl.ok, Lit.wf, IntKind.min, IntKind.max, IntKind.bits, IntKind.signed] at h9
    omega
  have hSr := srcA_ro hpl
  obtain ⟨va, vc, rfl, _, _, _⟩ := (hw.xP (A := OwnSl 58 3 (pv) (xs : List Pl).length ((xs : List Pl).flatMap Pl.cells))).own_shape
  have hlx := pl_len xs
  refine calls_of_g (n := 250) Try.func36 rfl rfl rfl ?_
  change G _ _ _ _ _ [(0, _), (1, _)] _
  refine g_seq ?_
  refine g_region ?_
  refine rl_k rfl (k_box hw rfl rfl rfl (fun bk0_0 w hw => ?_))
  refine xV rfl rfl rfl (v_assign rfl) ?_
  refine rl_nil (g_le (xK (xK (Fr.le_refl _))) ?_)
  refine g_seq ?_
  refine g_region ?_
  refine rl_k rfl (k_buildSlice0 hw T.sl_70_58_3 T.zero_58 rfl (fun bk1_0 w hw => ?_))
  refine xV rfl rfl rfl (v_fieldAddr0 T.fld_72_4_4 rfl) ?_
  refine rl_v rfl rfl rfl (by exact sat_cell hw (by (repeat first | with_reducible exact xH | apply xT); first | done | fail) rfl) (v_load T.scal_70 rfl) ?_
  have hsrcP : SrcAt w pa x.places.length (x.places.flatMap Pl.cells) := ro_src hw (by (repeat first | with_reducible exact xH | apply xT); first | done | fail) hlenP hsrc
  have hlen1 := hlenP
  have hones := pl_ones x.places
  refine rl_k rfl (k_appendS hw T.sl_70_58_3 T.zero_58 T.bytes_58_24 rfl (by decide) rfl rfl (by (repeat first | with_reducible exact xH | apply xT); first | done | fail) (by assumption) (by assumption) (by assumption) (by omega) (by simp only [maxLen] at *; omega) rfl (fun vv1_3 w hw hnil => ?_))
  simp only [Nat.zero_add, List.nil_append] at hw ⊢
  refine xV rfl rfl rfl (v_assign rfl) ?_
  refine rl_nil (g_le (xK (xS rfl (xS rfl (xS rfl (xS rfl (Fr.le_refl _)))))) ?_)
  refine g_seq (g_seq ?_)
  obtain ⟨ia, ic, hiv, _, _, _⟩ := (hw.xP (A := OwnSl 58 3 (vv1_3) (x.places : List Pl).length ((x.places : List Pl).flatMap Pl.cells))).own_shape
  have hin : x.places.length * 24 ≤ 140737488355328 := by omega
  have hSi := srcA_own (ps := x.places) rfl hin (hw.xP (A := OwnSl 58 3 (vv1_3) (x.places : List Pl).length ((x.places : List Pl).flatMap Pl.cells)))
  refine g_region ?_
  refine xV rfl rfl rfl (v_fieldAddr0 T.fld_72_0_0 rfl) ?_
  refine rl_v rfl rfl rfl (by exact sat_cell hw (by (repeat first | with_reducible exact xH | apply xT); first | done | fail) rfl) (v_load T.scal_3 rfl) ?_
  refine rl_nil (g_le (xK (xS rfl (Fr.le_refl _))) ?_)
  refine g_block (g_seq ?_)
  refine g_region ?_
  refine xV rfl rfl rfl (v_eql rfl rfl) ?_
  refine xV rfl rfl rfl (v_assign rfl) ?_
  refine rl_nil (g_le (xK (xS rfl (Fr.le_refl _))) ?_)
  refine g_cond rfl (fun h1 => ?_) (fun h1 => ?_)
  · try with_reducible exact ft_elim h1
    all_goals
      try replace h1 := of_decide_eq_true h1
      refine g_seq ?_
      have hw := (((hw.xP (A := PwAt p pw)).xP (A := MdAt m p md)).xP (A := OwnSl 104 3 (.slice (some ⟨b, 0, none⟩) ss.length c) ss.length (ss.flatMap Sg.cells))).xP (A := pt l (.cells [Value.pointer (some ⟨m, 0, none⟩), .int .i64 o, .slice (some ⟨b, 0, none⟩) ss.length c].toArray 47 (0, 0)))
      refine g_drawB ord_f36_r4_R14j (by kernel_rfl) T.mixed (fun w hw => ((((hw.pick .at0).drop.pick .at0).drop.pick .at0).drop.pick .at0).drop) hw (fun w hw => ?_)
      refine rs_a 0 rfl rfl rfl rfl (v_move rfl) ?_
      refine rs_a 1 rfl rfl rfl rfl (v_nilCheck rfl) ?_
      refine rs_a 2 rfl rfl rfl rfl (v_fieldAddr0 T.fld_90_0_0 rfl) ?_
      refine rs_a 4 rfl rfl rfl rfl (v_fieldAddr0 T.fld_72_1_1 rfl) ?_
      refine rs_v 3 rfl rfl rfl rfl (OpV.mono (v_load T.scal_36 rfl) (fun w hw => by exact sat_cell hw (by (repeat first | with_reducible exact xH | apply xT); first | done | fail) rfl)) (by exact Sat.sub hw (by (repeat (first | with_reducible exact Sub.refl _ | exact Sub.nil _ | (apply Sub.cons; focus ((repeat (first | with_reducible exact Pick.here _ | apply Pick.there)); (first | done | fail))) | with_reducible apply Sub.drop)); first | done | fail)) ?_
      refine rs_v 5 rfl rfl rfl rfl (OpV.mono (v_load T.scal_9 rfl) (fun w hw => by exact sat_cell hw (by (repeat first | with_reducible exact xH | apply xT); first | done | fail) rfl)) (by exact Sat.sub hw (by (repeat (first | with_reducible exact Sub.refl _ | exact Sub.nil _ | (apply Sub.cons; focus ((repeat (first | with_reducible exact Pick.here _ | apply Pick.there)); (first | done | fail))) | with_reducible apply Sub.drop)); first | done | fail)) ?_
      refine rs_b2 6 10 rfl rfl rfl rfl ?_ ?_ 
      · skip
        refine (k_callf Try.func22 rfl rfl rfl rfl ?_)
        refine Calls.mono (append_calls (l := l) (m := m) (p := p) (b := b) (c := c) (o := o) (ss := ss) (md := md) (pw := pw) x.bytes K.len ⟨K.o0, K.o1⟩ K.us K.pk (by omega) (hw.xQ)) ?_
        rintro _ w ⟨rfl, hw⟩
        refine ⟨_, rfl, ?_⟩
        refine ⟨fun hn => absurd (by decide) hn, ?_⟩
        refine rs_a 7 rfl rfl rfl rfl (v_move rfl) ?_
        refine rs_a 8 rfl rfl rfl rfl (v_extract rfl rfl) ?_
        refine rs_a 9 rfl rfl rfl rfl (v_extract rfl rfl) ?_
        refine rs_k 10 rfl rfl (k_alloc hw T.zero_58 rfl rfl (fun bk4_10 w hw => ?_))
        refine ⟨fun _ => (by exact Sat.sub hw (by (repeat (first | with_reducible exact Sub.refl _ | exact Sub.nil _ | (apply Sub.cons; focus ((repeat (first | with_reducible exact Pick.here _ | apply Pick.there)); (first | done | fail))) | with_reducible apply Sub.drop)); first | done | fail)), ?_⟩
        refine rs_k 11 rfl rfl (k_storeWhole hw T.agg_58_3 rfl rfl (by simp [Value.oneCell']) rfl (by (repeat first | with_reducible exact xH | apply xT); first | done | fail) rfl (fun w hw => ?_))
        refine ⟨fun hn => absurd (by decide) hn, ?_⟩
        refine rs_kv 12 rfl rfl rfl rfl (S' := fun _ => True) trivial (v_assign rfl) ?_
        refine rs_done (g_le (xK (xK (xS rfl (xS rfl (xS rfl (xS rfl (xS rfl (xS rfl (xS rfl (xS rfl (xS rfl (xS rfl (Fr.le_refl _))))))))))))) ?_)
        refine g_seq ?_
        have hw := (((((hw.xP (A := RwAt p2 pw.ref)).xP (A := RmAt rm p2 md)).xP (A := OwnSl 3 1 (.slice (some ⟨k3, 0, none⟩) rs.length c3) rs.length (rs.map fun x => Value.int .i64 x.live))).xP (A := OwnSl 3 1 (.slice (some ⟨k2, 0, none⟩) rs.length c2) rs.length (rs.map fun x => Value.int .i64 x.used))).xP (A := OwnSl 3 1 (.slice (some ⟨k1, 0, none⟩) rs.length c1) rs.length (rs.map fun x => Value.int .i64 x.kind))).xP (A := pt q (.cells [Value.pointer (some ⟨rm, 0, none⟩), .slice (some ⟨k1, 0, none⟩) rs.length c1, .slice (some ⟨k2, 0, none⟩) rs.length c2, .slice (some ⟨k3, 0, none⟩) rs.length c3].toArray 120 (0, 0)))
        refine g_drawB ord_f36_r5_R14j (by kernel_rfl) T.mixed (fun w hw => ((((((hw.pick .at0).drop.pick .at0).drop.pick .at0).drop.pick .at0).drop.pick .at0).drop.pick .at0).drop) hw (fun w hw => ?_)
        refine rs_a 0 rfl rfl rfl rfl (v_move rfl) ?_
        refine rs_a 1 rfl rfl rfl rfl (v_nilCheck rfl) ?_
        refine rs_a 2 rfl rfl rfl rfl (v_fieldAddr0 T.fld_90_1_1 rfl) ?_
        refine rs_a 4 rfl rfl rfl rfl (v_fieldAddr0 T.fld_72_1_1 rfl) ?_
        refine rs_v 3 rfl rfl rfl rfl (OpV.mono (v_load T.scal_87 rfl) (fun w hw => by exact sat_cell hw (by (repeat first | with_reducible exact xH | apply xT); first | done | fail) rfl)) (by exact Sat.sub hw (by (repeat (first | with_reducible exact Sub.refl _ | exact Sub.nil _ | (apply Sub.cons; focus ((repeat (first | with_reducible exact Pick.here _ | apply Pick.there)); (first | done | fail))) | with_reducible apply Sub.drop)); first | done | fail)) ?_
        refine rs_v 5 rfl rfl rfl rfl (OpV.mono (v_load T.scal_9 rfl) (fun w hw => by exact sat_cell hw (by (repeat first | with_reducible exact xH | apply xT); first | done | fail) rfl)) (by exact Sat.sub hw (by (repeat (first | with_reducible exact Sub.refl _ | exact Sub.nil _ | (apply Sub.cons; focus ((repeat (first | with_reducible exact Pick.here _ | apply Pick.there)); (first | done | fail))) | with_reducible apply Sub.drop)); first | done | fail)) ?_
        refine rs_b2 6 10 rfl rfl rfl rfl ?_ ?_ 
        · skip
          refine (k_callf Try.func51 rfl rfl rfl rfl ?_)
          refine Calls.mono (rappend_calls (q := q) (rm := rm) (p := p2) (k1 := k1) (k2 := k2) (k3 := k3) (c1 := c1) (c2 := c2) (c3 := c3) (o := o) (rs := rs) (md := md) (pw := pw) x.bytes hrb hml.symm K.o0 (by have := K.o1; omega) K.idx3 K.robk K.ur K.mo K.pk (by omega) (hw.xQ)) ?_
          have ha := K.app x.bytes
          generalize appL o rs md pw x.bytes = r2 at ha ⊢
          obtain ⟨a1, a2, a3, a4, a5, a6, a7⟩ := ha
          rw [a1, a2, a3, a4]
          rintro _ w ⟨rfl, hw⟩
          refine ⟨_, rfl, ?_⟩
          refine ⟨fun hn => absurd (by decide) hn, ?_⟩
          refine rs_a 7 rfl rfl rfl rfl (v_move rfl) ?_
          refine rs_a 8 rfl rfl rfl rfl (v_extract rfl rfl) ?_
          refine rs_a 9 rfl rfl rfl rfl (v_extract rfl rfl) ?_
          refine rs_k 10 rfl rfl (k_alloc hw T.zero_58 rfl rfl (fun bk5_10 w hw => ?_))
          refine ⟨fun _ => (by exact Sat.sub hw (by (repeat (first | with_reducible exact Sub.refl _ | exact Sub.nil _ | (apply Sub.cons; focus ((repeat (first | with_reducible exact Pick.here _ | apply Pick.there)); (first | done | fail))) | with_reducible apply Sub.drop)); first | done | fail)), ?_⟩
          refine rs_k 11 rfl rfl (k_storeWhole hw T.agg_58_3 rfl rfl (by simp [Value.oneCell']) rfl (by (repeat first | with_reducible exact xH | apply xT); first | done | fail) rfl (fun w hw => ?_))
          refine ⟨fun hn => absurd (by decide) hn, ?_⟩
          refine rs_kv 12 rfl rfl rfl rfl (S' := fun _ => True) trivial (v_assign rfl) ?_
          refine rs_done (g_le (xK (xK (xS rfl (xS rfl (xS rfl (xS rfl (xS rfl (xS rfl (xS rfl (xS rfl (xS rfl (xS rfl (Fr.le_refl _))))))))))))) ?_)
          refine g_seq (g_seq ?_)
          have hrlen : (appL o ss md pw x.bytes).at_.2.2 ≤ 9223372036854775807 := by have h8 := app_len o ss md pw x.bytes; simp only [reachBytes] at hxs; omega
          generalize appL o ss md pw x.bytes = r at *
          refine g_region ?_
          refine xV rfl rfl rfl (v_move rfl) ?_
          refine xV rfl rfl rfl (v_eql rfl rfl) ?_
          refine rl_nil (g_le (xK (xS rfl (Fr.le_refl _))) ?_)
          refine g_cond rfl (fun h2 => ?_) (fun h2 => ?_)
          · try with_reducible exact ft_elim h2
            all_goals
              try replace h2 := of_decide_eq_true h2
              refine g_drawR ord_f36_r7_R14j (by kernel_rfl) T.mixed hw (fun w hw => ?_)
              refine rs_a 0 rfl rfl rfl rfl (v_move rfl) ?_
              refine rs_a 1 rfl rfl rfl rfl (v_move rfl) ?_
              refine rs_a 2 rfl rfl rfl rfl (v_nilCheck rfl) ?_
              refine rs_a 3 rfl rfl rfl rfl (v_fieldAddr0 T.fld_90_2_2 rfl) ?_
              refine rs_v 4 rfl rfl rfl rfl (OpV.mono (v_load T.scal_70 rfl) (fun w hw => by exact sat_cell hw (by (repeat first | with_reducible exact xH | apply xT); first | done | fail) rfl)) (by exact hw) ?_
              refine rs_kv 5 rfl rfl rfl rfl (by exact sat_cells hw (by (repeat first | with_reducible exact xH | apply xT); first | done | fail) ⟨rfl, rfl, rfl, trivial⟩) (v_loadAgg (vs := [_, _, _]) T.agg_58_3 rfl rfl) ?_
              refine rs_k 6 rfl rfl (k_buildSlice (cells := [_, _, _]) hw T.sl_70_58_3 T.zero_58 rfl rfl rfl rfl rfl rfl (fun bk7_6 w hw => ?_))
              refine ⟨fun _ => (by exact Sat.sub hw (by (repeat (first | with_reducible exact Sub.refl _ | exact Sub.nil _ | (apply Sub.cons; focus ((repeat (first | with_reducible exact Pick.here _ | apply Pick.there)); (first | done | fail))) | with_reducible apply Sub.drop)); first | done | fail)), ?_⟩
              refine rs_k 7 rfl rfl (k_append (news := [_, _, _]) hw T.sl_70_58_3 T.zero_58 T.bytes_58_24 rfl (by decide) rfl rfl (by (repeat first | with_reducible exact xH | apply xT); first | done | fail) rfl (by exact sat_cells hw (by (repeat first | with_reducible exact xH | apply xT); first | done | fail) ⟨rfl, rfl, rfl, trivial⟩) (by simp [Value.oneCell']) (by omega) (by simp only [maxLen]; omega) rfl (fun vv7_7 w hw hnil => ?_))
              refine ⟨fun hn => absurd (by decide) hn, ?_⟩
              obtain ⟨na, nc, hnv, _, _, _⟩ := hw.own_shape
              subst hnv
              refine rs_kv 8 rfl rfl rfl rfl (S' := fun _ => True) trivial (v_nilCheck rfl) ?_
              refine rs_kv 9 rfl rfl rfl rfl (S' := fun _ => True) trivial (v_fieldAddr0 T.fld_90_2_2 rfl) ?_
              refine rs_k 10 rfl rfl (k_store hw T.scal_70 rfl rfl rfl (by (repeat first | with_reducible exact xH | apply xT); first | done | fail) rfl (by simp only [List.set, Int.reduceToNat, Nat.reduceMul, Nat.reduceAdd]; rfl) (fun w hw => ?_))
              refine ⟨fun hn => absurd (by decide) hn, ?_⟩
              refine rs_done (g_le (xS rfl (xS rfl (xS rfl (xS rfl (xS rfl (xS rfl (xS rfl (xS rfl (xS rfl (xS rfl (Fr.le_refl _))))))))))) ?_)
              refine g_seq ?_
              refine g_region ?_
              refine rl_v rfl rfl rfl (by exact sat_cells hw (by (repeat first | with_reducible exact xH | apply xT); first | done | fail) ⟨rfl, rfl, rfl, trivial⟩) (v_loadAgg (vs := [_, _, _]) T.agg_58_3 rfl rfl) ?_
              refine rl_v rfl rfl rfl (by exact sat_cells hw (by (repeat first | with_reducible exact xH | apply xT); first | done | fail) ⟨rfl, rfl, rfl, trivial⟩) (v_loadAgg (vs := [_, _, _]) T.agg_58_3 rfl rfl) ?_
              refine xV rfl rfl rfl (v_eqlAgg T.cmp_58_iii rfl rfl rfl rfl (by exact eq_pl3)) ?_
              refine xV rfl rfl rfl (v_move rfl) ?_
              refine rl_split (s := 58) rfl (fun g8_3 => ?_) (fun g8_3 => ?_)
              · try with_reducible exact ft_elim g8_3
                all_goals
                  try replace g8_3 := of_decide_eq_true g8_3
                  refine rl_vg (met_on rfl rfl rfl rfl) rfl rfl (S := fun _ => True) trivial (v_move rfl) ?_
                  refine rl_vg (met_on rfl rfl rfl rfl) rfl rfl (S := fun _ => True) trivial (v_move rfl) ?_
                  refine rl_vg (met_on rfl rfl rfl rfl) rfl rfl (S := fun _ => True) trivial (v_eqlT rfl rfl (by omega)) ?_
                  refine xV rfl rfl rfl (v_pick_true rfl rfl) ?_
                  refine xV rfl rfl rfl (v_assign rfl) ?_
                  refine rl_nil (g_le (xK (xS rfl (xS rfl (xS rfl (xS rfl (xS rfl (xS rfl (xS rfl (xS rfl (xS rfl (Fr.le_refl _))))))))))) ?_)
                  refine g_ret1 Try.func36 rfl rfl ?_
                  refine ⟨rfl, r.o, r.ss, r2.ss, r.md, r.pw, .slice na (xs.length + 1) nc, xs ++ [⟨r.at_.1, r.at_.2.1, r.at_.2.2⟩], a5, a7, a6, by simp, ?_, ?_⟩
                  · intro p hp
                    rcases List.mem_append.1 hp with hp | hp
                    · exact hok p hp
                    · rw [List.mem_singleton.1 hp]; exact hrlen
                  · simp only [List.flatMap_append, List.length_append, List.flatMap_cons, List.flatMap_nil, List.append_nil, List.length_cons, List.length_nil, Nat.zero_add]
                    exact hw.xQ
              · try with_reducible exact tf_elim g8_3
                all_goals
                  try replace g8_3 := of_decide_eq_false g8_3
                  refine rl_off (met_off rfl rfl rfl rfl rfl) rfl rfl ?_
                  refine rl_off (met_off rfl rfl rfl rfl rfl) rfl rfl ?_
                  refine rl_off (met_off rfl rfl rfl rfl rfl) rfl rfl ?_
                  first | (refine xV rfl rfl rfl (v_pick_true rfl rfl) ?_) | (refine xV rfl rfl rfl (v_pick_false rfl rfl) ?_) | (refine xV rfl rfl rfl (v_pick rfl rfl rfl) ?_)
                  refine xV rfl rfl rfl (v_assign rfl) ?_
                  refine rl_nil (g_le (xK (xS rfl (xS rfl (xS rfl (xS rfl (xS rfl (xS rfl (xS rfl (xS rfl (xS rfl (Fr.le_refl _))))))))))) ?_)
                  refine g_ret1 Try.func36 rfl rfl ?_
                  refine ⟨rfl, r.o, r.ss, r2.ss, r.md, r.pw, .slice na (xs.length + 1) nc, xs ++ [⟨r.at_.1, r.at_.2.1, r.at_.2.2⟩], a5, a7, a6, by simp, ?_, ?_⟩
                  · intro p hp
                    rcases List.mem_append.1 hp with hp | hp
                    · exact hok p hp
                    · rw [List.mem_singleton.1 hp]; exact hrlen
                  · simp only [List.flatMap_append, List.length_append, List.flatMap_cons, List.flatMap_nil, List.append_nil, List.length_cons, List.length_nil, Nat.zero_add]
                    exact hw.xQ
          · try with_reducible exact tf_elim h2
            all_goals
              try replace h2 := of_decide_eq_false h2
              refine g_skip (g_seq ?_)
              refine g_region ?_
              refine rl_v rfl rfl rfl (by exact sat_cells hw (by (repeat first | with_reducible exact xH | apply xT); first | done | fail) ⟨rfl, rfl, rfl, trivial⟩) (v_loadAgg (vs := [_, _, _]) T.agg_58_3 rfl rfl) ?_
              refine rl_v rfl rfl rfl (by exact sat_cells hw (by (repeat first | with_reducible exact xH | apply xT); first | done | fail) ⟨rfl, rfl, rfl, trivial⟩) (v_loadAgg (vs := [_, _, _]) T.agg_58_3 rfl rfl) ?_
              refine xV rfl rfl rfl (v_eqlAgg T.cmp_58_iii rfl rfl rfl rfl (by exact eq_pl3)) ?_
              refine xV rfl rfl rfl (v_move rfl) ?_
              refine rl_split (s := 58) rfl (fun g8_3 => ?_) (fun g8_3 => ?_)
              · try with_reducible exact ft_elim g8_3
                all_goals
                  try replace g8_3 := of_decide_eq_true g8_3
                  refine rl_vg (met_on rfl rfl rfl rfl) rfl rfl (S := fun _ => True) trivial (v_move rfl) ?_
                  refine rl_vg (met_on rfl rfl rfl rfl) rfl rfl (S := fun _ => True) trivial (v_move rfl) ?_
                  refine rl_vg (met_on rfl rfl rfl rfl) rfl rfl (S := fun _ => True) trivial (v_eqlT rfl rfl (by omega)) ?_
                  refine xV rfl rfl rfl (v_pick_true rfl rfl) ?_
                  refine xV rfl rfl rfl (v_assign rfl) ?_
                  refine rl_nil (g_le (xK (xS rfl (xS rfl (xS rfl (xS rfl (xS rfl (xS rfl (xS rfl (xS rfl (xS rfl (Fr.le_refl _))))))))))) ?_)
                  refine g_ret1 Try.func36 rfl rfl ?_
                  exact ⟨rfl, r.o, r.ss, r2.ss, r.md, r.pw, .slice va xs.length vc, xs, a5, a7, a6, by omega, hok, hw.xQ⟩
              · try with_reducible exact tf_elim g8_3
                all_goals
                  try replace g8_3 := of_decide_eq_false g8_3
                  refine rl_off (met_off rfl rfl rfl rfl rfl) rfl rfl ?_
                  refine rl_off (met_off rfl rfl rfl rfl rfl) rfl rfl ?_
                  refine rl_off (met_off rfl rfl rfl rfl rfl) rfl rfl ?_
                  first | (refine xV rfl rfl rfl (v_pick_true rfl rfl) ?_) | (refine xV rfl rfl rfl (v_pick_false rfl rfl) ?_) | (refine xV rfl rfl rfl (v_pick rfl rfl rfl) ?_)
                  refine xV rfl rfl rfl (v_assign rfl) ?_
                  refine rl_nil (g_le (xK (xS rfl (xS rfl (xS rfl (xS rfl (xS rfl (xS rfl (xS rfl (xS rfl (xS rfl (Fr.le_refl _))))))))))) ?_)
                  refine g_ret1 Try.func36 rfl rfl ?_
                  exact ⟨rfl, r.o, r.ss, r2.ss, r.md, r.pw, .slice va xs.length vc, xs, a5, a7, a6, by omega, hok, hw.xQ⟩
        · skip
          refine (k_alloc hw T.zero_58 rfl rfl (fun bk5_10 w hw => ?_))
          refine ⟨fun _ => (by exact Sat.sub hw (by (repeat (first | with_reducible exact Sub.refl _ | exact Sub.nil _ | (apply Sub.cons; focus ((repeat (first | with_reducible exact Pick.here _ | apply Pick.there)); (first | done | fail))) | with_reducible apply Sub.drop)); first | done | fail)), ?_⟩
          refine rs_k 6 rfl rfl (k_callf Try.func51 rfl rfl rfl rfl ?_)
          refine Calls.mono (rappend_calls (q := q) (rm := rm) (p := p2) (k1 := k1) (k2 := k2) (k3 := k3) (c1 := c1) (c2 := c2) (c3 := c3) (o := o) (rs := rs) (md := md) (pw := pw) x.bytes hrb hml.symm K.o0 (by have := K.o1; omega) K.idx3 K.robk K.ur K.mo K.pk (by omega) (hw.xQ)) ?_
          have ha := K.app x.bytes
          generalize appL o rs md pw x.bytes = r2 at ha ⊢
          obtain ⟨a1, a2, a3, a4, a5, a6, a7⟩ := ha
          rw [a1, a2, a3, a4]
          rintro _ w ⟨rfl, hw⟩
          refine ⟨_, rfl, ?_⟩
          refine ⟨fun hn => absurd (by decide) hn, ?_⟩
          refine rs_kv 7 rfl rfl rfl rfl (S' := fun _ => True) trivial (v_move rfl) ?_
          refine rs_a 8 rfl rfl rfl rfl (v_extract rfl rfl) ?_
          refine rs_a 9 rfl rfl rfl rfl (v_extract rfl rfl) ?_
          refine rs_k 11 rfl rfl (k_storeWhole hw T.agg_58_3 rfl rfl (by simp [Value.oneCell']) rfl (by (repeat first | with_reducible exact xH | apply xT); first | done | fail) rfl (fun w hw => ?_))
          refine ⟨fun hn => absurd (by decide) hn, ?_⟩
          refine rs_kv 12 rfl rfl rfl rfl (S' := fun _ => True) trivial (v_assign rfl) ?_
          refine rs_done (g_le (xK (xS rfl (xS rfl (xS rfl (xS rfl (xK (xS rfl (xS rfl (xS rfl (xS rfl (xS rfl (xS rfl (Fr.le_refl _))))))))))))) ?_)
          refine g_seq (g_seq ?_)
          have hrlen : (appL o ss md pw x.bytes).at_.2.2 ≤ 9223372036854775807 := by have h8 := app_len o ss md pw x.bytes; simp only [reachBytes] at hxs; omega
          generalize appL o ss md pw x.bytes = r at *
          refine g_region ?_
          refine xV rfl rfl rfl (v_move rfl) ?_
          refine xV rfl rfl rfl (v_eql rfl rfl) ?_
          refine rl_nil (g_le (xK (xS rfl (Fr.le_refl _))) ?_)
          refine g_cond rfl (fun h2 => ?_) (fun h2 => ?_)
          · try with_reducible exact ft_elim h2
            all_goals
              try replace h2 := of_decide_eq_true h2
              refine g_drawR ord_f36_r7_R14j (by kernel_rfl) T.mixed hw (fun w hw => ?_)
              refine rs_a 0 rfl rfl rfl rfl (v_move rfl) ?_
              refine rs_a 1 rfl rfl rfl rfl (v_move rfl) ?_
              refine rs_a 2 rfl rfl rfl rfl (v_nilCheck rfl) ?_
              refine rs_a 3 rfl rfl rfl rfl (v_fieldAddr0 T.fld_90_2_2 rfl) ?_
              refine rs_v 4 rfl rfl rfl rfl (OpV.mono (v_load T.scal_70 rfl) (fun w hw => by exact sat_cell hw (by (repeat first | with_reducible exact xH | apply xT); first | done | fail) rfl)) (by exact hw) ?_
              refine rs_kv 5 rfl rfl rfl rfl (by exact sat_cells hw (by (repeat first | with_reducible exact xH | apply xT); first | done | fail) ⟨rfl, rfl, rfl, trivial⟩) (v_loadAgg (vs := [_, _, _]) T.agg_58_3 rfl rfl) ?_
              refine rs_k 6 rfl rfl (k_buildSlice (cells := [_, _, _]) hw T.sl_70_58_3 T.zero_58 rfl rfl rfl rfl rfl rfl (fun bk7_6 w hw => ?_))
              refine ⟨fun _ => (by exact Sat.sub hw (by (repeat (first | with_reducible exact Sub.refl _ | exact Sub.nil _ | (apply Sub.cons; focus ((repeat (first | with_reducible exact Pick.here _ | apply Pick.there)); (first | done | fail))) | with_reducible apply Sub.drop)); first | done | fail)), ?_⟩
              refine rs_k 7 rfl rfl (k_append (news := [_, _, _]) hw T.sl_70_58_3 T.zero_58 T.bytes_58_24 rfl (by decide) rfl rfl (by (repeat first | with_reducible exact xH | apply xT); first | done | fail) rfl (by exact sat_cells hw (by (repeat first | with_reducible exact xH | apply xT); first | done | fail) ⟨rfl, rfl, rfl, trivial⟩) (by simp [Value.oneCell']) (by omega) (by simp only [maxLen]; omega) rfl (fun vv7_7 w hw hnil => ?_))
              refine ⟨fun hn => absurd (by decide) hn, ?_⟩
              obtain ⟨na, nc, hnv, _, _, _⟩ := hw.own_shape
              subst hnv
              refine rs_kv 8 rfl rfl rfl rfl (S' := fun _ => True) trivial (v_nilCheck rfl) ?_
              refine rs_kv 9 rfl rfl rfl rfl (S' := fun _ => True) trivial (v_fieldAddr0 T.fld_90_2_2 rfl) ?_
              refine rs_k 10 rfl rfl (k_store hw T.scal_70 rfl rfl rfl (by (repeat first | with_reducible exact xH | apply xT); first | done | fail) rfl (by simp only [List.set, Int.reduceToNat, Nat.reduceMul, Nat.reduceAdd]; rfl) (fun w hw => ?_))
              refine ⟨fun hn => absurd (by decide) hn, ?_⟩
              refine rs_done (g_le (xS rfl (xS rfl (xS rfl (xS rfl (xS rfl (xS rfl (xS rfl (xS rfl (xS rfl (xS rfl (Fr.le_refl _))))))))))) ?_)
              refine g_seq ?_
              refine g_region ?_
              refine rl_v rfl rfl rfl (by exact sat_cells hw (by (repeat first | with_reducible exact xH | apply xT); first | done | fail) ⟨rfl, rfl, rfl, trivial⟩) (v_loadAgg (vs := [_, _, _]) T.agg_58_3 rfl rfl) ?_
              refine rl_v rfl rfl rfl (by exact sat_cells hw (by (repeat first | with_reducible exact xH | apply xT); first | done | fail) ⟨rfl, rfl, rfl, trivial⟩) (v_loadAgg (vs := [_, _, _]) T.agg_58_3 rfl rfl) ?_
              refine xV rfl rfl rfl (v_eqlAgg T.cmp_58_iii rfl rfl rfl rfl (by exact eq_pl3)) ?_
              refine xV rfl rfl rfl (v_move rfl) ?_
              refine rl_split (s := 58) rfl (fun g8_3 => ?_) (fun g8_3 => ?_)
              · try with_reducible exact ft_elim g8_3
                all_goals
                  try replace g8_3 := of_decide_eq_true g8_3
                  refine rl_vg (met_on rfl rfl rfl rfl) rfl rfl (S := fun _ => True) trivial (v_move rfl) ?_
                  refine rl_vg (met_on rfl rfl rfl rfl) rfl rfl (S := fun _ => True) trivial (v_move rfl) ?_
                  refine rl_vg (met_on rfl rfl rfl rfl) rfl rfl (S := fun _ => True) trivial (v_eqlT rfl rfl (by omega)) ?_
                  refine xV rfl rfl rfl (v_pick_true rfl rfl) ?_
                  refine xV rfl rfl rfl (v_assign rfl) ?_
                  refine rl_nil (g_le (xK (xS rfl (xS rfl (xS rfl (xS rfl (xS rfl (xS rfl (xS rfl (xS rfl (xS rfl (Fr.le_refl _))))))))))) ?_)
                  refine g_ret1 Try.func36 rfl rfl ?_
                  refine ⟨rfl, r.o, r.ss, r2.ss, r.md, r.pw, .slice na (xs.length + 1) nc, xs ++ [⟨r.at_.1, r.at_.2.1, r.at_.2.2⟩], a5, a7, a6, by simp, ?_, ?_⟩
                  · intro p hp
                    rcases List.mem_append.1 hp with hp | hp
                    · exact hok p hp
                    · rw [List.mem_singleton.1 hp]; exact hrlen
                  · simp only [List.flatMap_append, List.length_append, List.flatMap_cons, List.flatMap_nil, List.append_nil, List.length_cons, List.length_nil, Nat.zero_add]
                    exact hw.xQ
              · try with_reducible exact tf_elim g8_3
                all_goals
                  try replace g8_3 := of_decide_eq_false g8_3
                  refine rl_off (met_off rfl rfl rfl rfl rfl) rfl rfl ?_
                  refine rl_off (met_off rfl rfl rfl rfl rfl) rfl rfl ?_
                  refine rl_off (met_off rfl rfl rfl rfl rfl) rfl rfl ?_
                  first | (refine xV rfl rfl rfl (v_pick_true rfl rfl) ?_) | (refine xV rfl rfl rfl (v_pick_false rfl rfl) ?_) | (refine xV rfl rfl rfl (v_pick rfl rfl rfl) ?_)
                  refine xV rfl rfl rfl (v_assign rfl) ?_
                  refine rl_nil (g_le (xK (xS rfl (xS rfl (xS rfl (xS rfl (xS rfl (xS rfl (xS rfl (xS rfl (xS rfl (Fr.le_refl _))))))))))) ?_)
                  refine g_ret1 Try.func36 rfl rfl ?_
                  refine ⟨rfl, r.o, r.ss, r2.ss, r.md, r.pw, .slice na (xs.length + 1) nc, xs ++ [⟨r.at_.1, r.at_.2.1, r.at_.2.2⟩], a5, a7, a6, by simp, ?_, ?_⟩
                  · intro p hp
                    rcases List.mem_append.1 hp with hp | hp
                    · exact hok p hp
                    · rw [List.mem_singleton.1 hp]; exact hrlen
                  · simp only [List.flatMap_append, List.length_append, List.flatMap_cons, List.flatMap_nil, List.append_nil, List.length_cons, List.length_nil, Nat.zero_add]
                    exact hw.xQ
          · try with_reducible exact tf_elim h2
            all_goals
              try replace h2 := of_decide_eq_false h2
              refine g_skip (g_seq ?_)
              refine g_region ?_
              refine rl_v rfl rfl rfl (by exact sat_cells hw (by (repeat first | with_reducible exact xH | apply xT); first | done | fail) ⟨rfl, rfl, rfl, trivial⟩) (v_loadAgg (vs := [_, _, _]) T.agg_58_3 rfl rfl) ?_
              refine rl_v rfl rfl rfl (by exact sat_cells hw (by (repeat first | with_reducible exact xH | apply xT); first | done | fail) ⟨rfl, rfl, rfl, trivial⟩) (v_loadAgg (vs := [_, _, _]) T.agg_58_3 rfl rfl) ?_
              refine xV rfl rfl rfl (v_eqlAgg T.cmp_58_iii rfl rfl rfl rfl (by exact eq_pl3)) ?_
              refine xV rfl rfl rfl (v_move rfl) ?_
              refine rl_split (s := 58) rfl (fun g8_3 => ?_) (fun g8_3 => ?_)
              · try with_reducible exact ft_elim g8_3
                all_goals
                  try replace g8_3 := of_decide_eq_true g8_3
                  refine rl_vg (met_on rfl rfl rfl rfl) rfl rfl (S := fun _ => True) trivial (v_move rfl) ?_
                  refine rl_vg (met_on rfl rfl rfl rfl) rfl rfl (S := fun _ => True) trivial (v_move rfl) ?_
                  refine rl_vg (met_on rfl rfl rfl rfl) rfl rfl (S := fun _ => True) trivial (v_eqlT rfl rfl (by omega)) ?_
                  refine xV rfl rfl rfl (v_pick_true rfl rfl) ?_
                  refine xV rfl rfl rfl (v_assign rfl) ?_
                  refine rl_nil (g_le (xK (xS rfl (xS rfl (xS rfl (xS rfl (xS rfl (xS rfl (xS rfl (xS rfl (xS rfl (Fr.le_refl _))))))))))) ?_)
                  refine g_ret1 Try.func36 rfl rfl ?_
                  exact ⟨rfl, r.o, r.ss, r2.ss, r.md, r.pw, .slice va xs.length vc, xs, a5, a7, a6, by omega, hok, hw.xQ⟩
              · try with_reducible exact tf_elim g8_3
                all_goals
                  try replace g8_3 := of_decide_eq_false g8_3
                  refine rl_off (met_off rfl rfl rfl rfl rfl) rfl rfl ?_
                  refine rl_off (met_off rfl rfl rfl rfl rfl) rfl rfl ?_
                  refine rl_off (met_off rfl rfl rfl rfl rfl) rfl rfl ?_
                  first | (refine xV rfl rfl rfl (v_pick_true rfl rfl) ?_) | (refine xV rfl rfl rfl (v_pick_false rfl rfl) ?_) | (refine xV rfl rfl rfl (v_pick rfl rfl rfl) ?_)
                  refine xV rfl rfl rfl (v_assign rfl) ?_
                  refine rl_nil (g_le (xK (xS rfl (xS rfl (xS rfl (xS rfl (xS rfl (xS rfl (xS rfl (xS rfl (xS rfl (Fr.le_refl _))))))))))) ?_)
                  refine g_ret1 Try.func36 rfl rfl ?_
                  exact ⟨rfl, r.o, r.ss, r2.ss, r.md, r.pw, .slice va xs.length vc, xs, a5, a7, a6, by omega, hok, hw.xQ⟩
      · skip
        refine (k_alloc hw T.zero_58 rfl rfl (fun bk4_10 w hw => ?_))
        refine ⟨fun _ => (by exact Sat.sub hw (by (repeat (first | with_reducible exact Sub.refl _ | exact Sub.nil _ | (apply Sub.cons; focus ((repeat (first | with_reducible exact Pick.here _ | apply Pick.there)); (first | done | fail))) | with_reducible apply Sub.drop)); first | done | fail)), ?_⟩
        refine rs_k 6 rfl rfl (k_callf Try.func22 rfl rfl rfl rfl ?_)
        refine Calls.mono (append_calls (l := l) (m := m) (p := p) (b := b) (c := c) (o := o) (ss := ss) (md := md) (pw := pw) x.bytes K.len ⟨K.o0, K.o1⟩ K.us K.pk (by omega) (hw.xQ)) ?_
        rintro _ w ⟨rfl, hw⟩
        refine ⟨_, rfl, ?_⟩
        refine ⟨fun hn => absurd (by decide) hn, ?_⟩
        refine rs_kv 7 rfl rfl rfl rfl (S' := fun _ => True) trivial (v_move rfl) ?_
        refine rs_a 8 rfl rfl rfl rfl (v_extract rfl rfl) ?_
        refine rs_a 9 rfl rfl rfl rfl (v_extract rfl rfl) ?_
        refine rs_k 11 rfl rfl (k_storeWhole hw T.agg_58_3 rfl rfl (by simp [Value.oneCell']) rfl (by (repeat first | with_reducible exact xH | apply xT); first | done | fail) rfl (fun w hw => ?_))
        refine ⟨fun hn => absurd (by decide) hn, ?_⟩
        refine rs_kv 12 rfl rfl rfl rfl (S' := fun _ => True) trivial (v_assign rfl) ?_
        refine rs_done (g_le (xK (xS rfl (xS rfl (xS rfl (xS rfl (xK (xS rfl (xS rfl (xS rfl (xS rfl (xS rfl (xS rfl (Fr.le_refl _))))))))))))) ?_)
        refine g_seq ?_
        have hw := (((((hw.xP (A := RwAt p2 pw.ref)).xP (A := RmAt rm p2 md)).xP (A := OwnSl 3 1 (.slice (some ⟨k3, 0, none⟩) rs.length c3) rs.length (rs.map fun x => Value.int .i64 x.live))).xP (A := OwnSl 3 1 (.slice (some ⟨k2, 0, none⟩) rs.length c2) rs.length (rs.map fun x => Value.int .i64 x.used))).xP (A := OwnSl 3 1 (.slice (some ⟨k1, 0, none⟩) rs.length c1) rs.length (rs.map fun x => Value.int .i64 x.kind))).xP (A := pt q (.cells [Value.pointer (some ⟨rm, 0, none⟩), .slice (some ⟨k1, 0, none⟩) rs.length c1, .slice (some ⟨k2, 0, none⟩) rs.length c2, .slice (some ⟨k3, 0, none⟩) rs.length c3].toArray 120 (0, 0)))
        refine g_drawB ord_f36_r5_R14j (by kernel_rfl) T.mixed (fun w hw => ((((((hw.pick .at0).drop.pick .at0).drop.pick .at0).drop.pick .at0).drop.pick .at0).drop.pick .at0).drop) hw (fun w hw => ?_)
        refine rs_a 0 rfl rfl rfl rfl (v_move rfl) ?_
        refine rs_a 1 rfl rfl rfl rfl (v_nilCheck rfl) ?_
        refine rs_a 2 rfl rfl rfl rfl (v_fieldAddr0 T.fld_90_1_1 rfl) ?_
        refine rs_a 4 rfl rfl rfl rfl (v_fieldAddr0 T.fld_72_1_1 rfl) ?_
        refine rs_v 3 rfl rfl rfl rfl (OpV.mono (v_load T.scal_87 rfl) (fun w hw => by exact sat_cell hw (by (repeat first | with_reducible exact xH | apply xT); first | done | fail) rfl)) (by exact Sat.sub hw (by (repeat (first | with_reducible exact Sub.refl _ | exact Sub.nil _ | (apply Sub.cons; focus ((repeat (first | with_reducible exact Pick.here _ | apply Pick.there)); (first | done | fail))) | with_reducible apply Sub.drop)); first | done | fail)) ?_
        refine rs_v 5 rfl rfl rfl rfl (OpV.mono (v_load T.scal_9 rfl) (fun w hw => by exact sat_cell hw (by (repeat first | with_reducible exact xH | apply xT); first | done | fail) rfl)) (by exact Sat.sub hw (by (repeat (first | with_reducible exact Sub.refl _ | exact Sub.nil _ | (apply Sub.cons; focus ((repeat (first | with_reducible exact Pick.here _ | apply Pick.there)); (first | done | fail))) | with_reducible apply Sub.drop)); first | done | fail)) ?_
        refine rs_b2 6 10 rfl rfl rfl rfl ?_ ?_ 
        · skip
          refine (k_callf Try.func51 rfl rfl rfl rfl ?_)
          refine Calls.mono (rappend_calls (q := q) (rm := rm) (p := p2) (k1 := k1) (k2 := k2) (k3 := k3) (c1 := c1) (c2 := c2) (c3 := c3) (o := o) (rs := rs) (md := md) (pw := pw) x.bytes hrb hml.symm K.o0 (by have := K.o1; omega) K.idx3 K.robk K.ur K.mo K.pk (by omega) (hw.xQ)) ?_
          have ha := K.app x.bytes
          generalize appL o rs md pw x.bytes = r2 at ha ⊢
          obtain ⟨a1, a2, a3, a4, a5, a6, a7⟩ := ha
          rw [a1, a2, a3, a4]
          rintro _ w ⟨rfl, hw⟩
          refine ⟨_, rfl, ?_⟩
          refine ⟨fun hn => absurd (by decide) hn, ?_⟩
          refine rs_a 7 rfl rfl rfl rfl (v_move rfl) ?_
          refine rs_a 8 rfl rfl rfl rfl (v_extract rfl rfl) ?_
          refine rs_a 9 rfl rfl rfl rfl (v_extract rfl rfl) ?_
          refine rs_k 10 rfl rfl (k_alloc hw T.zero_58 rfl rfl (fun bk5_10 w hw => ?_))
          refine ⟨fun _ => (by exact Sat.sub hw (by (repeat (first | with_reducible exact Sub.refl _ | exact Sub.nil _ | (apply Sub.cons; focus ((repeat (first | with_reducible exact Pick.here _ | apply Pick.there)); (first | done | fail))) | with_reducible apply Sub.drop)); first | done | fail)), ?_⟩
          refine rs_k 11 rfl rfl (k_storeWhole hw T.agg_58_3 rfl rfl (by simp [Value.oneCell']) rfl (by (repeat first | with_reducible exact xH | apply xT); first | done | fail) rfl (fun w hw => ?_))
          refine ⟨fun hn => absurd (by decide) hn, ?_⟩
          refine rs_kv 12 rfl rfl rfl rfl (S' := fun _ => True) trivial (v_assign rfl) ?_
          refine rs_done (g_le (xK (xK (xS rfl (xS rfl (xS rfl (xS rfl (xS rfl (xS rfl (xS rfl (xS rfl (xS rfl (xS rfl (Fr.le_refl _))))))))))))) ?_)
          refine g_seq (g_seq ?_)
          have hrlen : (appL o ss md pw x.bytes).at_.2.2 ≤ 9223372036854775807 := by have h8 := app_len o ss md pw x.bytes; simp only [reachBytes] at hxs; omega
          generalize appL o ss md pw x.bytes = r at *
          refine g_region ?_
          refine xV rfl rfl rfl (v_move rfl) ?_
          refine xV rfl rfl rfl (v_eql rfl rfl) ?_
          refine rl_nil (g_le (xK (xS rfl (Fr.le_refl _))) ?_)
          refine g_cond rfl (fun h2 => ?_) (fun h2 => ?_)
          · try with_reducible exact ft_elim h2
            all_goals
              try replace h2 := of_decide_eq_true h2
              refine g_drawR ord_f36_r7_R14j (by kernel_rfl) T.mixed hw (fun w hw => ?_)
              refine rs_a 0 rfl rfl rfl rfl (v_move rfl) ?_
              refine rs_a 1 rfl rfl rfl rfl (v_move rfl) ?_
              refine rs_a 2 rfl rfl rfl rfl (v_nilCheck rfl) ?_
              refine rs_a 3 rfl rfl rfl rfl (v_fieldAddr0 T.fld_90_2_2 rfl) ?_
              refine rs_v 4 rfl rfl rfl rfl (OpV.mono (v_load T.scal_70 rfl) (fun w hw => by exact sat_cell hw (by (repeat first | with_reducible exact xH | apply xT); first | done | fail) rfl)) (by exact hw) ?_
              refine rs_kv 5 rfl rfl rfl rfl (by exact sat_cells hw (by (repeat first | with_reducible exact xH | apply xT); first | done | fail) ⟨rfl, rfl, rfl, trivial⟩) (v_loadAgg (vs := [_, _, _]) T.agg_58_3 rfl rfl) ?_
              refine rs_k 6 rfl rfl (k_buildSlice (cells := [_, _, _]) hw T.sl_70_58_3 T.zero_58 rfl rfl rfl rfl rfl rfl (fun bk7_6 w hw => ?_))
              refine ⟨fun _ => (by exact Sat.sub hw (by (repeat (first | with_reducible exact Sub.refl _ | exact Sub.nil _ | (apply Sub.cons; focus ((repeat (first | with_reducible exact Pick.here _ | apply Pick.there)); (first | done | fail))) | with_reducible apply Sub.drop)); first | done | fail)), ?_⟩
              refine rs_k 7 rfl rfl (k_append (news := [_, _, _]) hw T.sl_70_58_3 T.zero_58 T.bytes_58_24 rfl (by decide) rfl rfl (by (repeat first | with_reducible exact xH | apply xT); first | done | fail) rfl (by exact sat_cells hw (by (repeat first | with_reducible exact xH | apply xT); first | done | fail) ⟨rfl, rfl, rfl, trivial⟩) (by simp [Value.oneCell']) (by omega) (by simp only [maxLen]; omega) rfl (fun vv7_7 w hw hnil => ?_))
              refine ⟨fun hn => absurd (by decide) hn, ?_⟩
              obtain ⟨na, nc, hnv, _, _, _⟩ := hw.own_shape
              subst hnv
              refine rs_kv 8 rfl rfl rfl rfl (S' := fun _ => True) trivial (v_nilCheck rfl) ?_
              refine rs_kv 9 rfl rfl rfl rfl (S' := fun _ => True) trivial (v_fieldAddr0 T.fld_90_2_2 rfl) ?_
              refine rs_k 10 rfl rfl (k_store hw T.scal_70 rfl rfl rfl (by (repeat first | with_reducible exact xH | apply xT); first | done | fail) rfl (by simp only [List.set, Int.reduceToNat, Nat.reduceMul, Nat.reduceAdd]; rfl) (fun w hw => ?_))
              refine ⟨fun hn => absurd (by decide) hn, ?_⟩
              refine rs_done (g_le (xS rfl (xS rfl (xS rfl (xS rfl (xS rfl (xS rfl (xS rfl (xS rfl (xS rfl (xS rfl (Fr.le_refl _))))))))))) ?_)
              refine g_seq ?_
              refine g_region ?_
              refine rl_v rfl rfl rfl (by exact sat_cells hw (by (repeat first | with_reducible exact xH | apply xT); first | done | fail) ⟨rfl, rfl, rfl, trivial⟩) (v_loadAgg (vs := [_, _, _]) T.agg_58_3 rfl rfl) ?_
              refine rl_v rfl rfl rfl (by exact sat_cells hw (by (repeat first | with_reducible exact xH | apply xT); first | done | fail) ⟨rfl, rfl, rfl, trivial⟩) (v_loadAgg (vs := [_, _, _]) T.agg_58_3 rfl rfl) ?_
              refine xV rfl rfl rfl (v_eqlAgg T.cmp_58_iii rfl rfl rfl rfl (by exact eq_pl3)) ?_
              refine xV rfl rfl rfl (v_move rfl) ?_
              refine rl_split (s := 58) rfl (fun g8_3 => ?_) (fun g8_3 => ?_)
              · try with_reducible exact ft_elim g8_3
                all_goals
                  try replace g8_3 := of_decide_eq_true g8_3
                  refine rl_vg (met_on rfl rfl rfl rfl) rfl rfl (S := fun _ => True) trivial (v_move rfl) ?_
                  refine rl_vg (met_on rfl rfl rfl rfl) rfl rfl (S := fun _ => True) trivial (v_move rfl) ?_
                  refine rl_vg (met_on rfl rfl rfl rfl) rfl rfl (S := fun _ => True) trivial (v_eqlT rfl rfl (by omega)) ?_
                  refine xV rfl rfl rfl (v_pick_true rfl rfl) ?_
                  refine xV rfl rfl rfl (v_assign rfl) ?_
                  refine rl_nil (g_le (xK (xS rfl (xS rfl (xS rfl (xS rfl (xS rfl (xS rfl (xS rfl (xS rfl (xS rfl (Fr.le_refl _))))))))))) ?_)
                  refine g_ret1 Try.func36 rfl rfl ?_
                  refine ⟨rfl, r.o, r.ss, r2.ss, r.md, r.pw, .slice na (xs.length + 1) nc, xs ++ [⟨r.at_.1, r.at_.2.1, r.at_.2.2⟩], a5, a7, a6, by simp, ?_, ?_⟩
                  · intro p hp
                    rcases List.mem_append.1 hp with hp | hp
                    · exact hok p hp
                    · rw [List.mem_singleton.1 hp]; exact hrlen
                  · simp only [List.flatMap_append, List.length_append, List.flatMap_cons, List.flatMap_nil, List.append_nil, List.length_cons, List.length_nil, Nat.zero_add]
                    exact hw.xQ
              · try with_reducible exact tf_elim g8_3
                all_goals
                  try replace g8_3 := of_decide_eq_false g8_3
                  refine rl_off (met_off rfl rfl rfl rfl rfl) rfl rfl ?_
                  refine rl_off (met_off rfl rfl rfl rfl rfl) rfl rfl ?_
                  refine rl_off (met_off rfl rfl rfl rfl rfl) rfl rfl ?_
                  first | (refine xV rfl rfl rfl (v_pick_true rfl rfl) ?_) | (refine xV rfl rfl rfl (v_pick_false rfl rfl) ?_) | (refine xV rfl rfl rfl (v_pick rfl rfl rfl) ?_)
                  refine xV rfl rfl rfl (v_assign rfl) ?_
                  refine rl_nil (g_le (xK (xS rfl (xS rfl (xS rfl (xS rfl (xS rfl (xS rfl (xS rfl (xS rfl (xS rfl (Fr.le_refl _))))))))))) ?_)
                  refine g_ret1 Try.func36 rfl rfl ?_
                  refine ⟨rfl, r.o, r.ss, r2.ss, r.md, r.pw, .slice na (xs.length + 1) nc, xs ++ [⟨r.at_.1, r.at_.2.1, r.at_.2.2⟩], a5, a7, a6, by simp, ?_, ?_⟩
                  · intro p hp
                    rcases List.mem_append.1 hp with hp | hp
                    · exact hok p hp
                    · rw [List.mem_singleton.1 hp]; exact hrlen
                  · simp only [List.flatMap_append, List.length_append, List.flatMap_cons, List.flatMap_nil, List.append_nil, List.length_cons, List.length_nil, Nat.zero_add]
                    exact hw.xQ
          · try with_reducible exact tf_elim h2
            all_goals
              try replace h2 := of_decide_eq_false h2
              refine g_skip (g_seq ?_)
              refine g_region ?_
              refine rl_v rfl rfl rfl (by exact sat_cells hw (by (repeat first | with_reducible exact xH | apply xT); first | done | fail) ⟨rfl, rfl, rfl, trivial⟩) (v_loadAgg (vs := [_, _, _]) T.agg_58_3 rfl rfl) ?_
              refine rl_v rfl rfl rfl (by exact sat_cells hw (by (repeat first | with_reducible exact xH | apply xT); first | done | fail) ⟨rfl, rfl, rfl, trivial⟩) (v_loadAgg (vs := [_, _, _]) T.agg_58_3 rfl rfl) ?_
              refine xV rfl rfl rfl (v_eqlAgg T.cmp_58_iii rfl rfl rfl rfl (by exact eq_pl3)) ?_
              refine xV rfl rfl rfl (v_move rfl) ?_
              refine rl_split (s := 58) rfl (fun g8_3 => ?_) (fun g8_3 => ?_)
              · try with_reducible exact ft_elim g8_3
                all_goals
                  try replace g8_3 := of_decide_eq_true g8_3
                  refine rl_vg (met_on rfl rfl rfl rfl) rfl rfl (S := fun _ => True) trivial (v_move rfl) ?_
                  refine rl_vg (met_on rfl rfl rfl rfl) rfl rfl (S := fun _ => True) trivial (v_move rfl) ?_
                  refine rl_vg (met_on rfl rfl rfl rfl) rfl rfl (S := fun _ => True) trivial (v_eqlT rfl rfl (by omega)) ?_
                  refine xV rfl rfl rfl (v_pick_true rfl rfl) ?_
                  refine xV rfl rfl rfl (v_assign rfl) ?_
                  refine rl_nil (g_le (xK (xS rfl (xS rfl (xS rfl (xS rfl (xS rfl (xS rfl (xS rfl (xS rfl (xS rfl (Fr.le_refl _))))))))))) ?_)
                  refine g_ret1 Try.func36 rfl rfl ?_
                  exact ⟨rfl, r.o, r.ss, r2.ss, r.md, r.pw, .slice va xs.length vc, xs, a5, a7, a6, by omega, hok, hw.xQ⟩
              · try with_reducible exact tf_elim g8_3
                all_goals
                  try replace g8_3 := of_decide_eq_false g8_3
                  refine rl_off (met_off rfl rfl rfl rfl rfl) rfl rfl ?_
                  refine rl_off (met_off rfl rfl rfl rfl rfl) rfl rfl ?_
                  refine rl_off (met_off rfl rfl rfl rfl rfl) rfl rfl ?_
                  first | (refine xV rfl rfl rfl (v_pick_true rfl rfl) ?_) | (refine xV rfl rfl rfl (v_pick_false rfl rfl) ?_) | (refine xV rfl rfl rfl (v_pick rfl rfl rfl) ?_)
                  refine xV rfl rfl rfl (v_assign rfl) ?_
                  refine rl_nil (g_le (xK (xS rfl (xS rfl (xS rfl (xS rfl (xS rfl (xS rfl (xS rfl (xS rfl (xS rfl (Fr.le_refl _))))))))))) ?_)
                  refine g_ret1 Try.func36 rfl rfl ?_
                  exact ⟨rfl, r.o, r.ss, r2.ss, r.md, r.pw, .slice va xs.length vc, xs, a5, a7, a6, by omega, hok, hw.xQ⟩
        · skip
          refine (k_alloc hw T.zero_58 rfl rfl (fun bk5_10 w hw => ?_))
          refine ⟨fun _ => (by exact Sat.sub hw (by (repeat (first | with_reducible exact Sub.refl _ | exact Sub.nil _ | (apply Sub.cons; focus ((repeat (first | with_reducible exact Pick.here _ | apply Pick.there)); (first | done | fail))) | with_reducible apply Sub.drop)); first | done | fail)), ?_⟩
          refine rs_k 6 rfl rfl (k_callf Try.func51 rfl rfl rfl rfl ?_)
          refine Calls.mono (rappend_calls (q := q) (rm := rm) (p := p2) (k1 := k1) (k2 := k2) (k3 := k3) (c1 := c1) (c2 := c2) (c3 := c3) (o := o) (rs := rs) (md := md) (pw := pw) x.bytes hrb hml.symm K.o0 (by have := K.o1; omega) K.idx3 K.robk K.ur K.mo K.pk (by omega) (hw.xQ)) ?_
          have ha := K.app x.bytes
          generalize appL o rs md pw x.bytes = r2 at ha ⊢
          obtain ⟨a1, a2, a3, a4, a5, a6, a7⟩ := ha
          rw [a1, a2, a3, a4]
          rintro _ w ⟨rfl, hw⟩
          refine ⟨_, rfl, ?_⟩
          refine ⟨fun hn => absurd (by decide) hn, ?_⟩
          refine rs_kv 7 rfl rfl rfl rfl (S' := fun _ => True) trivial (v_move rfl) ?_
          refine rs_a 8 rfl rfl rfl rfl (v_extract rfl rfl) ?_
          refine rs_a 9 rfl rfl rfl rfl (v_extract rfl rfl) ?_
          refine rs_k 11 rfl rfl (k_storeWhole hw T.agg_58_3 rfl rfl (by simp [Value.oneCell']) rfl (by (repeat first | with_reducible exact xH | apply xT); first | done | fail) rfl (fun w hw => ?_))
          refine ⟨fun hn => absurd (by decide) hn, ?_⟩
          refine rs_kv 12 rfl rfl rfl rfl (S' := fun _ => True) trivial (v_assign rfl) ?_
          refine rs_done (g_le (xK (xS rfl (xS rfl (xS rfl (xS rfl (xK (xS rfl (xS rfl (xS rfl (xS rfl (xS rfl (xS rfl (Fr.le_refl _))))))))))))) ?_)
          refine g_seq (g_seq ?_)
          have hrlen : (appL o ss md pw x.bytes).at_.2.2 ≤ 9223372036854775807 := by have h8 := app_len o ss md pw x.bytes; simp only [reachBytes] at hxs; omega
          generalize appL o ss md pw x.bytes = r at *
          refine g_region ?_
          refine xV rfl rfl rfl (v_move rfl) ?_
          refine xV rfl rfl rfl (v_eql rfl rfl) ?_
          refine rl_nil (g_le (xK (xS rfl (Fr.le_refl _))) ?_)
          refine g_cond rfl (fun h2 => ?_) (fun h2 => ?_)
          · try with_reducible exact ft_elim h2
            all_goals
              try replace h2 := of_decide_eq_true h2
              refine g_drawR ord_f36_r7_R14j (by kernel_rfl) T.mixed hw (fun w hw => ?_)
              refine rs_a 0 rfl rfl rfl rfl (v_move rfl) ?_
              refine rs_a 1 rfl rfl rfl rfl (v_move rfl) ?_
              refine rs_a 2 rfl rfl rfl rfl (v_nilCheck rfl) ?_
              refine rs_a 3 rfl rfl rfl rfl (v_fieldAddr0 T.fld_90_2_2 rfl) ?_
              refine rs_v 4 rfl rfl rfl rfl (OpV.mono (v_load T.scal_70 rfl) (fun w hw => by exact sat_cell hw (by (repeat first | with_reducible exact xH | apply xT); first | done | fail) rfl)) (by exact hw) ?_
              refine rs_kv 5 rfl rfl rfl rfl (by exact sat_cells hw (by (repeat first | with_reducible exact xH | apply xT); first | done | fail) ⟨rfl, rfl, rfl, trivial⟩) (v_loadAgg (vs := [_, _, _]) T.agg_58_3 rfl rfl) ?_
              refine rs_k 6 rfl rfl (k_buildSlice (cells := [_, _, _]) hw T.sl_70_58_3 T.zero_58 rfl rfl rfl rfl rfl rfl (fun bk7_6 w hw => ?_))
              refine ⟨fun _ => (by exact Sat.sub hw (by (repeat (first | with_reducible exact Sub.refl _ | exact Sub.nil _ | (apply Sub.cons; focus ((repeat (first | with_reducible exact Pick.here _ | apply Pick.there)); (first | done | fail))) | with_reducible apply Sub.drop)); first | done | fail)), ?_⟩
              refine rs_k 7 rfl rfl (k_append (news := [_, _, _]) hw T.sl_70_58_3 T.zero_58 T.bytes_58_24 rfl (by decide) rfl rfl (by (repeat first | with_reducible exact xH | apply xT); first | done | fail) rfl (by exact sat_cells hw (by (repeat first | with_reducible exact xH | apply xT); first | done | fail) ⟨rfl, rfl, rfl, trivial⟩) (by simp [Value.oneCell']) (by omega) (by simp only [maxLen]; omega) rfl (fun vv7_7 w hw hnil => ?_))
              refine ⟨fun hn => absurd (by decide) hn, ?_⟩
              obtain ⟨na, nc, hnv, _, _, _⟩ := hw.own_shape
              subst hnv
              refine rs_kv 8 rfl rfl rfl rfl (S' := fun _ => True) trivial (v_nilCheck rfl) ?_
              refine rs_kv 9 rfl rfl rfl rfl (S' := fun _ => True) trivial (v_fieldAddr0 T.fld_90_2_2 rfl) ?_
              refine rs_k 10 rfl rfl (k_store hw T.scal_70 rfl rfl rfl (by (repeat first | with_reducible exact xH | apply xT); first | done | fail) rfl (by simp only [List.set, Int.reduceToNat, Nat.reduceMul, Nat.reduceAdd]; rfl) (fun w hw => ?_))
              refine ⟨fun hn => absurd (by decide) hn, ?_⟩
              refine rs_done (g_le (xS rfl (xS rfl (xS rfl (xS rfl (xS rfl (xS rfl (xS rfl (xS rfl (xS rfl (xS rfl (Fr.le_refl _))))))))))) ?_)
              refine g_seq ?_
              refine g_region ?_
              refine rl_v rfl rfl rfl (by exact sat_cells hw (by (repeat first | with_reducible exact xH | apply xT); first | done | fail) ⟨rfl, rfl, rfl, trivial⟩) (v_loadAgg (vs := [_, _, _]) T.agg_58_3 rfl rfl) ?_
              refine rl_v rfl rfl rfl (by exact sat_cells hw (by (repeat first | with_reducible exact xH | apply xT); first | done | fail) ⟨rfl, rfl, rfl, trivial⟩) (v_loadAgg (vs := [_, _, _]) T.agg_58_3 rfl rfl) ?_
              refine xV rfl rfl rfl (v_eqlAgg T.cmp_58_iii rfl rfl rfl rfl (by exact eq_pl3)) ?_
              refine xV rfl rfl rfl (v_move rfl) ?_
              refine rl_split (s := 58) rfl (fun g8_3 => ?_) (fun g8_3 => ?_)
              · try with_reducible exact ft_elim g8_3
                all_goals
                  try replace g8_3 := of_decide_eq_true g8_3
                  refine rl_vg (met_on rfl rfl rfl rfl) rfl rfl (S := fun _ => True) trivial (v_move rfl) ?_
                  refine rl_vg (met_on rfl rfl rfl rfl) rfl rfl (S := fun _ => True) trivial (v_move rfl) ?_
                  refine rl_vg (met_on rfl rfl rfl rfl) rfl rfl (S := fun _ => True) trivial (v_eqlT rfl rfl (by omega)) ?_
                  refine xV rfl rfl rfl (v_pick_true rfl rfl) ?_
                  refine xV rfl rfl rfl (v_assign rfl) ?_
                  refine rl_nil (g_le (xK (xS rfl (xS rfl (xS rfl (xS rfl (xS rfl (xS rfl (xS rfl (xS rfl (xS rfl (Fr.le_refl _))))))))))) ?_)
                  refine g_ret1 Try.func36 rfl rfl ?_
                  refine ⟨rfl, r.o, r.ss, r2.ss, r.md, r.pw, .slice na (xs.length + 1) nc, xs ++ [⟨r.at_.1, r.at_.2.1, r.at_.2.2⟩], a5, a7, a6, by simp, ?_, ?_⟩
                  · intro p hp
                    rcases List.mem_append.1 hp with hp | hp
                    · exact hok p hp
                    · rw [List.mem_singleton.1 hp]; exact hrlen
                  · simp only [List.flatMap_append, List.length_append, List.flatMap_cons, List.flatMap_nil, List.append_nil, List.length_cons, List.length_nil, Nat.zero_add]
                    exact hw.xQ
              · try with_reducible exact tf_elim g8_3
                all_goals
                  try replace g8_3 := of_decide_eq_false g8_3
                  refine rl_off (met_off rfl rfl rfl rfl rfl) rfl rfl ?_
                  refine rl_off (met_off rfl rfl rfl rfl rfl) rfl rfl ?_
                  refine rl_off (met_off rfl rfl rfl rfl rfl) rfl rfl ?_
                  first | (refine xV rfl rfl rfl (v_pick_true rfl rfl) ?_) | (refine xV rfl rfl rfl (v_pick_false rfl rfl) ?_) | (refine xV rfl rfl rfl (v_pick rfl rfl rfl) ?_)
                  refine xV rfl rfl rfl (v_assign rfl) ?_
                  refine rl_nil (g_le (xK (xS rfl (xS rfl (xS rfl (xS rfl (xS rfl (xS rfl (xS rfl (xS rfl (xS rfl (Fr.le_refl _))))))))))) ?_)
                  refine g_ret1 Try.func36 rfl rfl ?_
                  refine ⟨rfl, r.o, r.ss, r2.ss, r.md, r.pw, .slice na (xs.length + 1) nc, xs ++ [⟨r.at_.1, r.at_.2.1, r.at_.2.2⟩], a5, a7, a6, by simp, ?_, ?_⟩
                  · intro p hp
                    rcases List.mem_append.1 hp with hp | hp
                    · exact hok p hp
                    · rw [List.mem_singleton.1 hp]; exact hrlen
                  · simp only [List.flatMap_append, List.length_append, List.flatMap_cons, List.flatMap_nil, List.append_nil, List.length_cons, List.length_nil, Nat.zero_add]
                    exact hw.xQ
          · try with_reducible exact tf_elim h2
            all_goals
              try replace h2 := of_decide_eq_false h2
              refine g_skip (g_seq ?_)
              refine g_region ?_
              refine rl_v rfl rfl rfl (by exact sat_cells hw (by (repeat first | with_reducible exact xH | apply xT); first | done | fail) ⟨rfl, rfl, rfl, trivial⟩) (v_loadAgg (vs := [_, _, _]) T.agg_58_3 rfl rfl) ?_
              refine rl_v rfl rfl rfl (by exact sat_cells hw (by (repeat first | with_reducible exact xH | apply xT); first | done | fail) ⟨rfl, rfl, rfl, trivial⟩) (v_loadAgg (vs := [_, _, _]) T.agg_58_3 rfl rfl) ?_
              refine xV rfl rfl rfl (v_eqlAgg T.cmp_58_iii rfl rfl rfl rfl (by exact eq_pl3)) ?_
              refine xV rfl rfl rfl (v_move rfl) ?_
              refine rl_split (s := 58) rfl (fun g8_3 => ?_) (fun g8_3 => ?_)
              · try with_reducible exact ft_elim g8_3
                all_goals
                  try replace g8_3 := of_decide_eq_true g8_3
                  refine rl_vg (met_on rfl rfl rfl rfl) rfl rfl (S := fun _ => True) trivial (v_move rfl) ?_
                  refine rl_vg (met_on rfl rfl rfl rfl) rfl rfl (S := fun _ => True) trivial (v_move rfl) ?_
                  refine rl_vg (met_on rfl rfl rfl rfl) rfl rfl (S := fun _ => True) trivial (v_eqlT rfl rfl (by omega)) ?_
                  refine xV rfl rfl rfl (v_pick_true rfl rfl) ?_
                  refine xV rfl rfl rfl (v_assign rfl) ?_
                  refine rl_nil (g_le (xK (xS rfl (xS rfl (xS rfl (xS rfl (xS rfl (xS rfl (xS rfl (xS rfl (xS rfl (Fr.le_refl _))))))))))) ?_)
                  refine g_ret1 Try.func36 rfl rfl ?_
                  exact ⟨rfl, r.o, r.ss, r2.ss, r.md, r.pw, .slice va xs.length vc, xs, a5, a7, a6, by omega, hok, hw.xQ⟩
              · try with_reducible exact tf_elim g8_3
                all_goals
                  try replace g8_3 := of_decide_eq_false g8_3
                  refine rl_off (met_off rfl rfl rfl rfl rfl) rfl rfl ?_
                  refine rl_off (met_off rfl rfl rfl rfl rfl) rfl rfl ?_
                  refine rl_off (met_off rfl rfl rfl rfl rfl) rfl rfl ?_
                  first | (refine xV rfl rfl rfl (v_pick_true rfl rfl) ?_) | (refine xV rfl rfl rfl (v_pick_false rfl rfl) ?_) | (refine xV rfl rfl rfl (v_pick rfl rfl rfl) ?_)
                  refine xV rfl rfl rfl (v_assign rfl) ?_
                  refine rl_nil (g_le (xK (xS rfl (xS rfl (xS rfl (xS rfl (xS rfl (xS rfl (xS rfl (xS rfl (xS rfl (Fr.le_refl _))))))))))) ?_)
                  refine g_ret1 Try.func36 rfl rfl ?_
                  exact ⟨rfl, r.o, r.ss, r2.ss, r.md, r.pw, .slice va xs.length vc, xs, a5, a7, a6, by omega, hok, hw.xQ⟩
  · try with_reducible exact tf_elim h1
    all_goals
      try replace h1 := of_decide_eq_false h1
      refine g_seq ?_
      refine g_region ?_
      refine xV rfl rfl rfl (v_eql rfl rfl) ?_
      refine xV rfl rfl rfl (v_assign rfl) ?_
      refine rl_nil (g_le (xK (xS rfl (Fr.le_refl _))) ?_)
      refine g_cond rfl (fun h3 => ?_) (fun h3 => ?_)
      · try with_reducible exact ft_elim h3
        all_goals
          try replace h3 := of_decide_eq_true h3
          refine g_seq ?_
          refine g_region ?_
          refine xV rfl rfl rfl (v_move rfl) ?_
          refine xV rfl rfl rfl (v_nilCheck rfl) ?_
          refine xV rfl rfl rfl (v_fieldAddr0 T.fld_90_0_0 rfl) ?_
          refine rl_v rfl rfl rfl (by exact sat_cell hw (by (repeat first | with_reducible exact xH | apply xT); first | done | fail) rfl) (v_load T.scal_36 rfl) ?_
          refine xV rfl rfl rfl (v_move rfl) ?_
          refine rl_k rfl (k_callf Try.func26 rfl rfl rfl rfl ?_)
          refine Calls.mono (settle_calls (l := l) (m := m) (b := b) (c := c) (o := o) (ss := ss) hb hus hSi hlok (hw.xQ)) ?_
          rintro _ w ⟨r1, rfl, hr1, hw⟩
          refine ⟨_, rfl, ?_⟩
          refine xV rfl rfl rfl (v_assign rfl) ?_
          refine rl_nil (g_le (xK (xS rfl (xS rfl (xS rfl (xS rfl (xS rfl (xS rfl (Fr.le_refl _)))))))) ?_)
          refine g_seq ?_
          refine g_drawR ord_f36_r11_R14j (by kernel_rfl) T.mixed hw (fun w hw => ?_)
          refine rs_a 0 rfl rfl rfl rfl (v_move rfl) ?_
          refine rs_a 1 rfl rfl rfl rfl (v_move rfl) ?_
          refine rs_a 2 rfl rfl rfl rfl (v_nilCheck rfl) ?_
          refine rs_a 3 rfl rfl rfl rfl (v_fieldAddr0 T.fld_90_1_1 rfl) ?_
          refine rs_a 5 rfl rfl rfl rfl (v_fieldAddr0 T.fld_72_4_4 rfl) ?_
          refine rs_v 4 rfl rfl rfl rfl (OpV.mono (v_load T.scal_87 rfl) (fun w hw => by exact sat_cell hw (by (repeat first | with_reducible exact xH | apply xT); first | done | fail) rfl)) (by exact hw) ?_
          refine rs_kv 6 rfl rfl rfl rfl (by exact sat_cell hw (by (repeat first | with_reducible exact xH | apply xT); first | done | fail) rfl) (v_load T.scal_70 rfl) ?_
          refine rs_k 7 rfl rfl (k_callf Try.func52 rfl rfl rfl rfl ?_)
          refine Calls.mono (rsettle_calls (q := q) (rm := rm) (p := p2) (k1 := k1) (k2 := k2) (k3 := k3) (c1 := c1) (c2 := c2) (c3 := c3) (rs := rs) hrb hml hur hSr hlok (hw.xQ)) ?_
          rintro _ w ⟨r2, rfl, hr2, hw⟩
          obtain rfl : r2 = r1 := Bool.eq_iff_iff.2 (hr2.trans ((K.fits _).trans hr1.symm))
          refine ⟨_, rfl, ?_⟩
          refine ⟨fun hn => absurd (by decide) hn, ?_⟩
          refine rs_kv 8 rfl rfl rfl rfl (S' := fun _ => True) trivial (v_eqlT rfl rfl (by omega)) ?_
          refine rs_kv 9 rfl rfl rfl rfl (S' := fun _ => True) trivial (v_assign rfl) ?_
          refine rs_done (g_le (xK (xS rfl (xS rfl (xS rfl (xS rfl (xS rfl (xS rfl (xS rfl (xS rfl (xS rfl (Fr.le_refl _))))))))))) ?_)
          refine g_ret1 Try.func36 rfl rfl ?_
          cases r2
          · simp only [Bool.false_eq_true, if_false] at hw
            exact ⟨rfl, o, ss, rs, md, pw, .slice va xs.length vc, xs, K, rfl, by omega, by omega, hok, hw.xQ⟩
          · simp only [if_true] at hw
            exact ⟨rfl, o, settled ss x.places, settled rs x.places, md, pw, .slice va xs.length vc, xs, K.settle _, settled_len .., by omega, by omega, hok, hw.xQ⟩
      · try with_reducible exact tf_elim h3
        all_goals
          try replace h3 := of_decide_eq_false h3
          refine g_seq ?_
          refine g_region ?_
          refine xV rfl rfl rfl (v_eql rfl rfl) ?_
          refine xV rfl rfl rfl (v_assign rfl) ?_
          refine rl_nil (g_le (xK (xS rfl (Fr.le_refl _))) ?_)
          refine g_cond rfl (fun h4 => ?_) (fun h4 => ?_)
          · try with_reducible exact ft_elim h4
            all_goals
              try replace h4 := of_decide_eq_true h4
              refine g_seq ?_
              refine g_drawR ord_f36_r13_R14j (by kernel_rfl) T.mixed hw (fun w hw => ?_)
              refine rs_a 0 rfl rfl rfl rfl (v_move rfl) ?_
              refine rs_a 1 rfl rfl rfl rfl (v_nilCheck rfl) ?_
              refine rs_a 2 rfl rfl rfl rfl (v_fieldAddr0 T.fld_90_1_1 rfl) ?_
              refine rs_a 4 rfl rfl rfl rfl (v_move rfl) ?_
              refine rs_a 5 rfl rfl rfl rfl (v_nilCheck rfl) ?_
              refine rs_a 6 rfl rfl rfl rfl (v_fieldAddr0 T.fld_90_2_2 rfl) ?_
              refine rs_a 8 rfl rfl rfl rfl (v_fieldAddr0 T.fld_72_2_2 rfl) ?_
              refine rs_v 3 rfl rfl rfl rfl (OpV.mono (v_load T.scal_87 rfl) (fun w hw => by exact sat_cell hw (by (repeat first | with_reducible exact xH | apply xT); first | done | fail) rfl)) (by exact hw) ?_
              refine rs_v 7 rfl rfl rfl rfl (OpV.mono (v_load T.scal_70 rfl) (fun w hw => by exact sat_cell hw (by (repeat first | with_reducible exact xH | apply xT); first | done | fail) rfl)) (by exact hw) ?_
              refine rs_kv 9 rfl rfl rfl rfl (by exact sat_cell hw (by (repeat first | with_reducible exact xH | apply xT); first | done | fail) rfl) (v_load T.scal_3 rfl) ?_
              refine rs_k 10 rfl rfl (k_callf Try.func53 rfl rfl rfl rfl ?_)
              refine Calls.mono (may_calls (q := q) (rm := rm) (p := p2) (k1 := k1) (k2 := k2) (k3 := k3) (c1 := c1) (c2 := c2) (c3 := c3) (rs := rs) (md := md) (v := .slice va xs.length vc) (xs := xs) x.a (by have := K.o0; have := K.o1; omega) hrb hml hur hok (by omega) (hw.xQ)) ?_
              rintro _ w ⟨v', ys, rfl, hyk, hyl, hw⟩
              refine ⟨_, rfl, ?_⟩
              refine ⟨fun hn => absurd (by decide) hn, ?_⟩
              refine rs_kv 11 rfl rfl rfl rfl (S' := fun _ => True) trivial (v_assign rfl) ?_
              refine rs_done (g_le (xK (xS rfl (xS rfl (xS rfl (xS rfl (xS rfl (xS rfl (xS rfl (xS rfl (xS rfl (xS rfl (xS rfl (Fr.le_refl _))))))))))))) ?_)
              refine g_seq ?_
              have hSy := srcA_own (ps := ys) rfl (by omega) (hw.xP (A := OwnSl 58 3 (v') (ys : List Pl).length ((ys : List Pl).flatMap Pl.cells)))
              refine g_region ?_
              refine xV rfl rfl rfl (v_move rfl) ?_
              refine xV rfl rfl rfl (v_nilCheck rfl) ?_
              refine xV rfl rfl rfl (v_fieldAddr0 T.fld_90_0_0 rfl) ?_
              refine rl_v rfl rfl rfl (by exact sat_cell hw (by (repeat first | with_reducible exact xH | apply xT); first | done | fail) rfl) (v_load T.scal_36 rfl) ?_
              refine xV rfl rfl rfl (v_move rfl) ?_
              refine rl_k rfl (k_callf Try.func26 rfl rfl rfl rfl ?_)
              refine Calls.mono (settle_calls (l := l) (m := m) (b := b) (c := c) (o := o) (ss := ss) hb hus hSy hyk (hw.xQ)) ?_
              rintro _ w ⟨r1, rfl, hr1, hw⟩
              refine ⟨_, rfl, ?_⟩
              refine xV rfl rfl rfl (v_assign rfl) ?_
              refine rl_nil (g_le (xK (xS rfl (xS rfl (xS rfl (xS rfl (xS rfl (xS rfl (Fr.le_refl _)))))))) ?_)
              refine g_seq ?_
              refine g_region ?_
              refine xV rfl rfl rfl (v_move rfl) ?_
              refine xV rfl rfl rfl (v_move rfl) ?_
              refine xV rfl rfl rfl (v_nilCheck rfl) ?_
              refine xV rfl rfl rfl (v_fieldAddr0 T.fld_90_1_1 rfl) ?_
              refine rl_v rfl rfl rfl (by exact sat_cell hw (by (repeat first | with_reducible exact xH | apply xT); first | done | fail) rfl) (v_load T.scal_87 rfl) ?_
              refine xV rfl rfl rfl (v_move rfl) ?_
              refine rl_k rfl (k_callf Try.func52 rfl rfl rfl rfl ?_)
              refine Calls.mono (rsettle_calls (q := q) (rm := rm) (p := p2) (k1 := k1) (k2 := k2) (k3 := k3) (c1 := c1) (c2 := c2) (c3 := c3) (rs := rs) hrb hml hur hSy hyk (hw.xQ)) ?_
              rintro _ w ⟨r2, rfl, hr2, hw⟩
              obtain rfl : r2 = r1 := Bool.eq_iff_iff.2 (hr2.trans ((K.fits _).trans hr1.symm))
              refine ⟨_, rfl, ?_⟩
              refine xV rfl rfl rfl (v_eqlT rfl rfl (by omega)) ?_
              refine xV rfl rfl rfl (v_assign rfl) ?_
              refine rl_nil (g_le (xK (xS rfl (xS rfl (xS rfl (xS rfl (xS rfl (xS rfl (xS rfl (xS rfl (Fr.le_refl _)))))))))) ?_)
              refine g_ret1 Try.func36 rfl rfl ?_
              cases r2
              · simp only [Bool.false_eq_true, if_false] at hw
                exact ⟨rfl, o, ss, rs, md, pw, .slice va xs.length vc, xs, K, rfl, by omega, by omega, hok, hw.xQ⟩
              · simp only [if_true] at hw
                exact ⟨rfl, o, settled ss ys, settled rs ys, md, pw, .slice va xs.length vc, xs, K.settle _, settled_len .., by omega, by omega, hok, hw.xQ⟩
          · try with_reducible exact tf_elim h4
            all_goals
              try replace h4 := of_decide_eq_false h4
              refine g_seq ?_
              refine g_region ?_
              refine xV rfl rfl rfl (v_eql rfl rfl) ?_
              refine xV rfl rfl rfl (v_assign rfl) ?_
              refine rl_nil (g_le (xK (xS rfl (Fr.le_refl _))) ?_)
              refine g_cond rfl (fun h5 => ?_) (fun h5 => ?_)
              · try with_reducible exact ft_elim h5
                all_goals
                  try replace h5 := of_decide_eq_true h5
                  refine g_seq ?_
                  refine g_drawR ord_f36_r17_R14j (by kernel_rfl) T.mixed hw (fun w hw => ?_)
                  refine rs_a 0 rfl rfl rfl rfl (v_move rfl) ?_
                  refine rs_a 1 rfl rfl rfl rfl (v_nilCheck rfl) ?_
                  refine rs_a 2 rfl rfl rfl rfl (v_fieldAddr0 T.fld_90_0_0 rfl) ?_
                  refine rs_a 4 rfl rfl rfl rfl (v_fieldAddr0 T.fld_72_2_2 rfl) ?_
                  refine rs_a 6 rfl rfl rfl rfl (v_fieldAddr0 T.fld_72_3_3 rfl) ?_
                  refine rs_a 8 rfl rfl rfl rfl (v_move rfl) ?_
                  refine rs_v 3 rfl rfl rfl rfl (OpV.mono (v_load T.scal_36 rfl) (fun w hw => by exact sat_cell hw (by (repeat first | with_reducible exact xH | apply xT); first | done | fail) rfl)) (by exact hw) ?_
                  refine rs_v 5 rfl rfl rfl rfl (OpV.mono (v_load T.scal_3 rfl) (fun w hw => by exact sat_cell hw (by (repeat first | with_reducible exact xH | apply xT); first | done | fail) rfl)) (by exact hw) ?_
                  refine rs_kv 7 rfl rfl rfl rfl (by exact sat_cell hw (by (repeat first | with_reducible exact xH | apply xT); first | done | fail) rfl) (v_load T.scal_3 rfl) ?_
                  refine rs_k 9 rfl rfl (k_callf Try.func32 rfl rfl rfl rfl ?_)
                  refine Calls.mono (begin_all (l := l) (m := m) (p := p) (b := b) (c := c) (o := o) (ss := ss) (md := md) hb hSi hlok (hw.xQ)) ?_
                  rintro _ w ⟨r1, rfl, hr1, hw⟩
                  refine ⟨_, rfl, ?_⟩
                  refine ⟨fun hn => absurd (by decide) hn, ?_⟩
                  refine rs_kv 10 rfl rfl rfl rfl (S' := fun _ => True) trivial (v_assign rfl) ?_
                  refine rs_done (g_le (xK (xS rfl (xS rfl (xS rfl (xS rfl (xS rfl (xS rfl (xS rfl (xS rfl (xS rfl (xS rfl (Fr.le_refl _)))))))))))) ?_)
                  refine g_seq ?_
                  refine g_drawR ord_f36_r18_R14j (by kernel_rfl) T.mixed hw (fun w hw => ?_)
                  refine rs_a 0 rfl rfl rfl rfl (v_move rfl) ?_
                  refine rs_a 1 rfl rfl rfl rfl (v_move rfl) ?_
                  refine rs_a 2 rfl rfl rfl rfl (v_nilCheck rfl) ?_
                  refine rs_a 3 rfl rfl rfl rfl (v_fieldAddr0 T.fld_90_1_1 rfl) ?_
                  refine rs_a 5 rfl rfl rfl rfl (v_fieldAddr0 T.fld_72_2_2 rfl) ?_
                  refine rs_a 7 rfl rfl rfl rfl (v_fieldAddr0 T.fld_72_3_3 rfl) ?_
                  refine rs_a 9 rfl rfl rfl rfl (v_fieldAddr0 T.fld_72_4_4 rfl) ?_
                  refine rs_v 4 rfl rfl rfl rfl (OpV.mono (v_load T.scal_87 rfl) (fun w hw => by exact sat_cell hw (by (repeat first | with_reducible exact xH | apply xT); first | done | fail) rfl)) (by exact hw) ?_
                  refine rs_v 6 rfl rfl rfl rfl (OpV.mono (v_load T.scal_3 rfl) (fun w hw => by exact sat_cell hw (by (repeat first | with_reducible exact xH | apply xT); first | done | fail) rfl)) (by exact hw) ?_
                  refine rs_v 8 rfl rfl rfl rfl (OpV.mono (v_load T.scal_3 rfl) (fun w hw => by exact sat_cell hw (by (repeat first | with_reducible exact xH | apply xT); first | done | fail) rfl)) (by exact hw) ?_
                  refine rs_kv 10 rfl rfl rfl rfl (by exact sat_cell hw (by (repeat first | with_reducible exact xH | apply xT); first | done | fail) rfl) (v_load T.scal_70 rfl) ?_
                  refine rs_k 11 rfl rfl (k_callf Try.func54 rfl rfl rfl rfl ?_)
                  refine Calls.mono (rbegin_all (q := q) (rm := rm) (p := p2) (k1 := k1) (k2 := k2) (k3 := k3) (c1 := c1) (c2 := c2) (c3 := c3) (rs := rs) hrb hml K.mo hSr hlok (hw.xQ)) ?_
                  rw [hrl]
                  rintro _ w ⟨r2, rfl, hr2, hw⟩
                  obtain rfl : r2 = r1 := Bool.eq_iff_iff.2 (hr2.trans hr1.symm)
                  refine ⟨_, rfl, ?_⟩
                  refine ⟨fun hn => absurd (by decide) hn, ?_⟩
                  refine rs_kv 12 rfl rfl rfl rfl (S' := fun _ => True) trivial (v_eqlT rfl rfl (by omega)) ?_
                  refine rs_kv 13 rfl rfl rfl rfl (S' := fun _ => True) trivial (v_assign rfl) ?_
                  refine rs_done (g_le (xK (xS rfl (xS rfl (xS rfl (xS rfl (xS rfl (xS rfl (xS rfl (xS rfl (xS rfl (xS rfl (xS rfl (xS rfl (xS rfl (Fr.le_refl _))))))))))))))) ?_)
                  refine g_ret1 Try.func36 rfl rfl ?_
                  cases r2
                  · simp only [Bool.false_eq_true, if_false] at hw
                    exact ⟨rfl, o, ss, rs, md, pw, .slice va xs.length vc, xs, K, rfl, by omega, by omega, hok, hw.xQ⟩
                  · simp only [if_true] at hw
                    have hbc := hr1.1 rfl
                    exact ⟨rfl, x.a, begun (bgU x.a x.b md) x.a ss x.places, rbegun md x.a x.b rs x.places, md, pw, .slice va xs.length vc, xs, K.begin_ _ hbc.1.1 hbc.1.2 hbc.2.1 hbc.2.2.1, begun_len .., by omega, by omega, hok, hw.xQ⟩
              · try with_reducible exact tf_elim h5
                all_goals
                  try replace h5 := of_decide_eq_false h5
                  refine g_seq ?_
                  refine g_region ?_
                  refine xV rfl rfl rfl (v_eql rfl rfl) ?_
                  refine xV rfl rfl rfl (v_assign rfl) ?_
                  refine rl_nil (g_le (xK (xS rfl (Fr.le_refl _))) ?_)
                  refine g_cond rfl (fun h6 => ?_) (fun h6 => ?_)
                  · try with_reducible exact ft_elim h6
                    all_goals
                      try replace h6 := of_decide_eq_true h6
                      refine g_seq ?_
                      refine g_drawR ord_f36_r20_R14j (by kernel_rfl) T.mixed hw (fun w hw => ?_)
                      refine rs_a 0 rfl rfl rfl rfl (v_move rfl) ?_
                      refine rs_a 1 rfl rfl rfl rfl (v_nilCheck rfl) ?_
                      refine rs_a 2 rfl rfl rfl rfl (v_fieldAddr0 T.fld_90_0_0 rfl) ?_
                      refine rs_a 10 rfl rfl rfl rfl (v_fieldAddr0 T.fld_72_2_2 rfl) ?_
                      refine rs_v 3 rfl rfl rfl rfl (OpV.mono (v_load T.scal_36 rfl) (fun w hw => by exact sat_cell hw (by (repeat first | with_reducible exact xH | apply xT); first | done | fail) rfl)) (by exact hw) ?_
                      refine rs_a 4 rfl rfl rfl rfl (v_nilCheck rfl) ?_
                      refine rs_a 5 rfl rfl rfl rfl (v_fieldAddr0 T.fld_47_0_0 rfl) ?_
                      refine rs_v 6 rfl rfl rfl rfl (OpV.mono (v_load T.scal_24 rfl) (fun w hw => by exact sat_cell hw (by (repeat first | with_reducible exact xH | apply xT); first | done | fail) rfl)) (by exact hw) ?_
                      refine rs_a 7 rfl rfl rfl rfl (v_nilCheck rfl) ?_
                      refine rs_a 8 rfl rfl rfl rfl (v_fieldAddr0 T.fld_52_0_0 rfl) ?_
                      refine rs_v 9 rfl rfl rfl rfl (OpV.mono (v_load T.scal_28 rfl) (fun w hw => by exact md_ptr (hw.xP (A := MdAt m p md)))) (by exact hw) ?_
                      refine rs_kv 11 rfl rfl rfl rfl (by exact sat_cell hw (by (repeat first | with_reducible exact xH | apply xT); first | done | fail) rfl) (v_load T.scal_3 rfl) ?_
                      refine rs_k 12 rfl rfl (k_callf Try.func55 rfl rfl rfl rfl ?_)
                      refine Calls.mono (cut_calls p pw x.a (hw.xP (A := PwAt p pw))) ?_
                      rintro _ w ⟨rfl, hw⟩
                      refine ⟨_, rfl, ?_⟩
                      refine ⟨fun hn => absurd (by decide) hn, ?_⟩
                      refine rs_done (g_le (xS rfl (xS rfl (xS rfl (xS rfl (xS rfl (xS rfl (xS rfl (xS rfl (xS rfl (xS rfl (xS rfl (xS rfl (xS rfl (Fr.le_refl _)))))))))))))) ?_)
                      refine g_drawR ord_f36_r21_R14j (by kernel_rfl) T.mixed hw (fun w hw => ?_)
                      refine rs_a 0 rfl rfl rfl rfl (v_move rfl) ?_
                      refine rs_a 1 rfl rfl rfl rfl (v_nilCheck rfl) ?_
                      refine rs_a 2 rfl rfl rfl rfl (v_fieldAddr0 T.fld_90_1_1 rfl) ?_
                      refine rs_a 10 rfl rfl rfl rfl (v_fieldAddr0 T.fld_72_2_2 rfl) ?_
                      refine rs_v 3 rfl rfl rfl rfl (OpV.mono (v_load T.scal_87 rfl) (fun w hw => by exact sat_cell hw (by (repeat first | with_reducible exact xH | apply xT); first | done | fail) rfl)) (by exact hw) ?_
                      refine rs_a 4 rfl rfl rfl rfl (v_nilCheck rfl) ?_
                      refine rs_a 5 rfl rfl rfl rfl (v_fieldAddr0 T.fld_120_0_0 rfl) ?_
                      refine rs_v 6 rfl rfl rfl rfl (OpV.mono (v_load T.scal_81 rfl) (fun w hw => by exact sat_cell hw (by (repeat first | with_reducible exact xH | apply xT); first | done | fail) rfl)) (by exact hw) ?_
                      refine rs_a 7 rfl rfl rfl rfl (v_nilCheck rfl) ?_
                      refine rs_a 8 rfl rfl rfl rfl (v_fieldAddr0 T.fld_116_0_0 rfl) ?_
                      refine rs_v 9 rfl rfl rfl rfl (OpV.mono (v_load T.scal_84 rfl) (fun w hw => by exact rm_ptr (hw.xP (A := RmAt rm p2 md)))) (by exact hw) ?_
                      refine rs_kv 11 rfl rfl rfl rfl (by exact sat_cell hw (by (repeat first | with_reducible exact xH | apply xT); first | done | fail) rfl) (v_load T.scal_3 rfl) ?_
                      refine rs_k 12 rfl rfl (k_callf Try.func56 rfl rfl rfl rfl ?_)
                      refine Calls.mono (rcut_calls p2 pw x.a (fun _ => K.pk.1) (hw.xP (A := RwAt p2 pw.ref))) ?_
                      rintro _ w ⟨rfl, hw⟩
                      refine ⟨_, rfl, ?_⟩
                      refine ⟨fun hn => absurd (by decide) hn, ?_⟩
                      refine rs_done (g_le (xS rfl (xS rfl (xS rfl (xS rfl (xS rfl (xS rfl (xS rfl (xS rfl (xS rfl (xS rfl (xS rfl (xS rfl (xS rfl (Fr.le_refl _)))))))))))))) ?_)
                      refine g_inBlock (g_seq ?_)
                      refine g_region ?_
                      refine xV rfl rfl rfl (v_assign rfl) ?_
                      refine rl_nil (g_le (xK (Fr.le_refl _)) ?_)
                      refine g_ret1 Try.func36 rfl rfl ?_
                      exact ⟨rfl, o, ss, rs, md, pw.cut x.a, .slice va xs.length vc, xs, K.power (Pw.ok_cut K.pk _), rfl, by omega, by omega, hok, hw.xQ⟩
                  · try with_reducible exact tf_elim h6
                    all_goals
                      try replace h6 := of_decide_eq_false h6
                      refine g_seq ?_
                      refine g_region ?_
                      refine xV rfl rfl rfl (v_eql rfl rfl) ?_
                      refine xV rfl rfl rfl (v_assign rfl) ?_
                      refine rl_nil (g_le (xK (xS rfl (Fr.le_refl _))) ?_)
                      refine g_cond rfl (fun h7 => ?_) (fun h7 => ?_)
                      · try with_reducible exact ft_elim h7
                        all_goals
                          try replace h7 := of_decide_eq_true h7
                          refine g_seq ?_
                          refine g_region ?_
                          refine xV rfl rfl rfl (v_move rfl) ?_
                          refine xV rfl rfl rfl (v_nilCheck rfl) ?_
                          refine xV rfl rfl rfl (v_fieldAddr0 T.fld_90_0_0 rfl) ?_
                          refine rl_v rfl rfl rfl (by exact sat_cell hw (by (repeat first | with_reducible exact xH | apply xT); first | done | fail) rfl) (v_load T.scal_36 rfl) ?_
                          refine xV rfl rfl rfl (v_nilCheck rfl) ?_
                          refine xV rfl rfl rfl (v_fieldAddr0 T.fld_47_0_0 rfl) ?_
                          refine rl_v rfl rfl rfl (by exact sat_cell hw (by (repeat first | with_reducible exact xH | apply xT); first | done | fail) rfl) (v_load T.scal_24 rfl) ?_
                          refine xV rfl rfl rfl (v_nilCheck rfl) ?_
                          refine xV rfl rfl rfl (v_fieldAddr0 T.fld_52_0_0 rfl) ?_
                          refine rl_v rfl rfl rfl (by exact md_ptr (hw.xP (A := MdAt m p md))) (v_load T.scal_28 rfl) ?_
                          refine rl_k rfl (k_callf Try.func57 rfl rfl rfl rfl ?_)
                          refine Calls.mono (restore_calls p pw (hw.xP (A := PwAt p pw))) ?_
                          rintro _ w ⟨rfl, hw⟩
                          refine ⟨_, rfl, ?_⟩
                          refine rl_nil (g_le (xS rfl (xS rfl (xS rfl (xS rfl (xS rfl (xS rfl (xS rfl (xS rfl (xS rfl (xS rfl (xS rfl (Fr.le_refl _)))))))))))) ?_)
                          refine g_region ?_
                          refine xV rfl rfl rfl (v_move rfl) ?_
                          refine xV rfl rfl rfl (v_nilCheck rfl) ?_
                          refine xV rfl rfl rfl (v_fieldAddr0 T.fld_90_1_1 rfl) ?_
                          refine rl_v rfl rfl rfl (by exact sat_cell hw (by (repeat first | with_reducible exact xH | apply xT); first | done | fail) rfl) (v_load T.scal_87 rfl) ?_
                          refine xV rfl rfl rfl (v_nilCheck rfl) ?_
                          refine xV rfl rfl rfl (v_fieldAddr0 T.fld_120_0_0 rfl) ?_
                          refine rl_v rfl rfl rfl (by exact sat_cell hw (by (repeat first | with_reducible exact xH | apply xT); first | done | fail) rfl) (v_load T.scal_81 rfl) ?_
                          refine xV rfl rfl rfl (v_nilCheck rfl) ?_
                          refine xV rfl rfl rfl (v_fieldAddr0 T.fld_116_0_0 rfl) ?_
                          refine rl_v rfl rfl rfl (by exact rm_ptr (hw.xP (A := RmAt rm p2 md))) (v_load T.scal_84 rfl) ?_
                          refine rl_k rfl (k_callf Try.func58 rfl rfl rfl rfl ?_)
                          refine Calls.mono (rrestore_calls p2 pw (hw.xP (A := RwAt p2 pw.ref))) ?_
                          rintro _ w ⟨rfl, hw⟩
                          refine ⟨_, rfl, ?_⟩
                          refine rl_nil (g_le (xS rfl (xS rfl (xS rfl (xS rfl (xS rfl (xS rfl (xS rfl (xS rfl (xS rfl (xS rfl (xS rfl (Fr.le_refl _)))))))))))) ?_)
                          refine g_inBlock (g_seq ?_)
                          refine g_region ?_
                          refine xV rfl rfl rfl (v_assign rfl) ?_
                          refine rl_nil (g_le (xK (Fr.le_refl _)) ?_)
                          refine g_ret1 Try.func36 rfl rfl ?_
                          exact ⟨rfl, o, ss, rs, md, pw.restore, .slice va xs.length vc, xs, K.power (Pw.ok_restore K.pk), rfl, by omega, by omega, hok, hw.xQ⟩
                      · try with_reducible exact tf_elim h7
                        all_goals
                          try replace h7 := of_decide_eq_false h7
                          refine g_seq ?_
                          refine g_region ?_
                          refine xV rfl rfl rfl (v_eql rfl rfl) ?_
                          refine xV rfl rfl rfl (v_assign rfl) ?_
                          refine rl_nil (g_le (xK (xS rfl (Fr.le_refl _))) ?_)
                          refine g_cond rfl (fun h8 => ?_) (fun h8 => ?_)
                          · try with_reducible exact ft_elim h8
                            all_goals
                              try replace h8 := of_decide_eq_true h8
                              refine g_seq ?_
                              refine g_drawR ord_f36_r26_R14j (by kernel_rfl) T.mixed hw (fun w hw => ?_)
                              refine rs_a 0 rfl rfl rfl rfl (v_move rfl) ?_
                              refine rs_a 1 rfl rfl rfl rfl (v_nilCheck rfl) ?_
                              refine rs_a 2 rfl rfl rfl rfl (v_fieldAddr0 T.fld_90_0_0 rfl) ?_
                              refine rs_a 7 rfl rfl rfl rfl (v_fieldAddr0 T.fld_72_2_2 rfl) ?_
                              refine rs_a 9 rfl rfl rfl rfl (v_fieldAddr0 T.fld_72_3_3 rfl) ?_
                              refine rs_a 11 rfl rfl rfl rfl (v_fieldAddr0 T.fld_72_1_1 rfl) ?_
                              refine rs_v 3 rfl rfl rfl rfl (OpV.mono (v_load T.scal_36 rfl) (fun w hw => by exact sat_cell hw (by (repeat first | with_reducible exact xH | apply xT); first | done | fail) rfl)) (by exact hw) ?_
                              refine rs_a 4 rfl rfl rfl rfl (v_nilCheck rfl) ?_
                              refine rs_a 5 rfl rfl rfl rfl (v_fieldAddr0 T.fld_47_0_0 rfl) ?_
                              refine rs_v 6 rfl rfl rfl rfl (OpV.mono (v_load T.scal_24 rfl) (fun w hw => by exact sat_cell hw (by (repeat first | with_reducible exact xH | apply xT); first | done | fail) rfl)) (by exact hw) ?_
                              refine rs_v 8 rfl rfl rfl rfl (OpV.mono (v_load T.scal_3 rfl) (fun w hw => by exact sat_cell hw (by (repeat first | with_reducible exact xH | apply xT); first | done | fail) rfl)) (by exact hw) ?_
                              refine rs_v 10 rfl rfl rfl rfl (OpV.mono (v_load T.scal_3 rfl) (fun w hw => by exact sat_cell hw (by (repeat first | with_reducible exact xH | apply xT); first | done | fail) rfl)) (by exact hw) ?_
                              refine rs_kv 12 rfl rfl rfl rfl (by exact sat_cell hw (by (repeat first | with_reducible exact xH | apply xT); first | done | fail) rfl) (v_load T.scal_9 rfl) ?_
                              refine rs_k 13 rfl rfl (k_callf Try.func43 rfl rfl rfl rfl ?_)
                              refine Calls.mono (mwrite_calls m p md pw x.a x.b x.bytes K.pk (by omega) (hw.xQ)) ?_
                              rintro _ w ⟨rfl, hw⟩
                              refine ⟨_, rfl, ?_⟩
                              refine ⟨fun hn => absurd (by decide) hn, ?_⟩
                              refine rs_kv 14 rfl rfl rfl rfl (S' := fun _ => True) trivial (v_assign rfl) ?_
                              refine rs_done (g_le (xK (xS rfl (xS rfl (xS rfl (xS rfl (xS rfl (xS rfl (xS rfl (xS rfl (xS rfl (xS rfl (xS rfl (xS rfl (xS rfl (xS rfl (Fr.le_refl _)))))))))))))))) ?_)
                              refine g_seq ?_
                              refine g_drawR ord_f36_r27_R14j (by kernel_rfl) T.mixed hw (fun w hw => ?_)
                              refine rs_a 0 rfl rfl rfl rfl (v_move rfl) ?_
                              refine rs_a 1 rfl rfl rfl rfl (v_move rfl) ?_
                              refine rs_a 2 rfl rfl rfl rfl (v_nilCheck rfl) ?_
                              refine rs_a 3 rfl rfl rfl rfl (v_fieldAddr0 T.fld_90_1_1 rfl) ?_
                              refine rs_a 8 rfl rfl rfl rfl (v_fieldAddr0 T.fld_72_2_2 rfl) ?_
                              refine rs_a 10 rfl rfl rfl rfl (v_fieldAddr0 T.fld_72_3_3 rfl) ?_
                              refine rs_a 12 rfl rfl rfl rfl (v_fieldAddr0 T.fld_72_1_1 rfl) ?_
                              refine rs_v 4 rfl rfl rfl rfl (OpV.mono (v_load T.scal_87 rfl) (fun w hw => by exact sat_cell hw (by (repeat first | with_reducible exact xH | apply xT); first | done | fail) rfl)) (by exact hw) ?_
                              refine rs_a 5 rfl rfl rfl rfl (v_nilCheck rfl) ?_
                              refine rs_a 6 rfl rfl rfl rfl (v_fieldAddr0 T.fld_120_0_0 rfl) ?_
                              refine rs_v 7 rfl rfl rfl rfl (OpV.mono (v_load T.scal_81 rfl) (fun w hw => by exact sat_cell hw (by (repeat first | with_reducible exact xH | apply xT); first | done | fail) rfl)) (by exact hw) ?_
                              refine rs_v 9 rfl rfl rfl rfl (OpV.mono (v_load T.scal_3 rfl) (fun w hw => by exact sat_cell hw (by (repeat first | with_reducible exact xH | apply xT); first | done | fail) rfl)) (by exact hw) ?_
                              refine rs_v 11 rfl rfl rfl rfl (OpV.mono (v_load T.scal_3 rfl) (fun w hw => by exact sat_cell hw (by (repeat first | with_reducible exact xH | apply xT); first | done | fail) rfl)) (by exact hw) ?_
                              refine rs_kv 13 rfl rfl rfl rfl (by exact sat_cell hw (by (repeat first | with_reducible exact xH | apply xT); first | done | fail) rfl) (v_load T.scal_9 rfl) ?_
                              refine rs_k 14 rfl rfl (k_callf Try.func59 rfl rfl rfl rfl ?_)
                              refine Calls.mono (rwrite_calls (m := rm) (p := p2) (s := md) (pw := pw) x.a x.b x.bytes K.mo K.pk (by omega) (hw.xQ)) ?_
                              rintro _ w ⟨rfl, hw⟩
                              refine ⟨_, rfl, ?_⟩
                              refine ⟨fun hn => absurd (by decide) hn, ?_⟩
                              refine rs_kv 15 rfl rfl rfl rfl (S' := fun _ => True) trivial (v_eqlT rfl rfl (by omega)) ?_
                              refine rs_kv 16 rfl rfl rfl rfl (S' := fun _ => True) trivial (v_assign rfl) ?_
                              refine rs_done (g_le (xK (xS rfl (xS rfl (xS rfl (xS rfl (xS rfl (xS rfl (xS rfl (xS rfl (xS rfl (xS rfl (xS rfl (xS rfl (xS rfl (xS rfl (xS rfl (xS rfl (Fr.le_refl _)))))))))))))))))) ?_)
                              refine g_ret1 Try.func36 rfl rfl ?_
                              have hwo := write_ok K.mo K.pk x.a x.b x.bytes
                              exact ⟨rfl, o, ss, rs, _, _, .slice va xs.length vc, xs, K.write x.a x.b x.bytes, rfl, hwo.2.2.2.2.1, by omega, hok, hw.xQ⟩
                          · try with_reducible exact tf_elim h8
                            all_goals
                              try replace h8 := of_decide_eq_false h8
                              refine g_seq ?_
                              refine g_region ?_
                              refine xV rfl rfl rfl (v_eql rfl rfl) ?_
                              refine xV rfl rfl rfl (v_assign rfl) ?_
                              refine rl_nil (g_le (xK (xS rfl (Fr.le_refl _))) ?_)
                              refine g_cond rfl (fun h9 => ?_) (fun h9 => ?_)
                              · try with_reducible exact ft_elim h9
                                all_goals
                                  try replace h9 := of_decide_eq_true h9
                                  refine g_seq ?_
                                  refine g_drawR ord_f36_r29_R14j (by kernel_rfl) T.mixed hw (fun w hw => ?_)
                                  refine rs_a 0 rfl rfl rfl rfl (v_move rfl) ?_
                                  refine rs_a 1 rfl rfl rfl rfl (v_nilCheck rfl) ?_
                                  refine rs_a 2 rfl rfl rfl rfl (v_fieldAddr0 T.fld_90_0_0 rfl) ?_
                                  refine rs_a 4 rfl rfl rfl rfl (v_fieldAddr0 T.fld_72_2_2 rfl) ?_
                                  refine rs_a 7 rfl rfl rfl rfl (v_move rfl) ?_
                                  refine rs_a 8 rfl rfl rfl rfl (v_nilCheck rfl) ?_
                                  refine rs_a 9 rfl rfl rfl rfl (v_fieldAddr0 T.fld_90_1_1 rfl) ?_
                                  refine rs_a 11 rfl rfl rfl rfl (v_fieldAddr0 T.fld_72_2_2 rfl) ?_
                                  refine rs_v 3 rfl rfl rfl rfl (OpV.mono (v_load T.scal_36 rfl) (fun w hw => by exact sat_cell hw (by (repeat first | with_reducible exact xH | apply xT); first | done | fail) rfl)) (by exact hw) ?_
                                  refine rs_v 5 rfl rfl rfl rfl (OpV.mono (v_load T.scal_3 rfl) (fun w hw => by exact sat_cell hw (by (repeat first | with_reducible exact xH | apply xT); first | done | fail) rfl)) (by exact hw) ?_
                                  refine rs_v 10 rfl rfl rfl rfl (OpV.mono (v_load T.scal_87 rfl) (fun w hw => by exact sat_cell hw (by (repeat first | with_reducible exact xH | apply xT); first | done | fail) rfl)) (by exact hw) ?_
                                  refine rs_v 12 rfl rfl rfl rfl (OpV.mono (v_load T.scal_3 rfl) (fun w hw => by exact sat_cell hw (by (repeat first | with_reducible exact xH | apply xT); first | done | fail) rfl)) (by exact hw) ?_
                                  refine rs_k 6 rfl rfl (k_callf Try.func28 rfl rfl rfl rfl ?_)
                                  refine Calls.mono (kindS_calls (l := l) (m := m) (b := b) (c := c) (o := o) (ss := ss) x.a hb (hw.xQ)) ?_
                                  rintro _ w ⟨rfl, hw⟩
                                  refine ⟨_, rfl, ?_⟩
                                  refine ⟨fun _ => (by exact Sat.sub hw (by (repeat (first | with_reducible exact Sub.refl _ | exact Sub.nil _ | (apply Sub.cons; focus ((repeat (first | with_reducible exact Pick.here _ | apply Pick.there)); (first | done | fail))) | with_reducible apply Sub.drop)); first | done | fail)), ?_⟩
                                  refine rs_k 13 rfl rfl (k_callf Try.func60 rfl rfl rfl rfl ?_)
                                  refine Calls.mono (rkind_calls (q := q) (rm := rm) (p := p2) (k1 := k1) (k2 := k2) (k3 := k3) (c1 := c1) (c2 := c2) (c3 := c3) (rs := rs) (md := md) x.a hrb hml (hw.xQ)) ?_
                                  rw [(K.kindS x.a).1]
                                  rintro _ w ⟨rfl, hw⟩
                                  refine ⟨_, rfl, ?_⟩
                                  refine ⟨fun _ => (by exact Sat.sub hw (by (repeat (first | with_reducible exact Sub.refl _ | exact Sub.nil _ | (apply Sub.cons; focus ((repeat (first | with_reducible exact Pick.here _ | apply Pick.there)); (first | done | fail))) | with_reducible apply Sub.drop)); first | done | fail)), ?_⟩
                                  refine rs_kv 14 rfl rfl rfl rfl (S' := fun _ => True) trivial (v_eqlT rfl rfl (by omega)) ?_
                                  refine rs_kv 15 rfl rfl rfl rfl (S' := fun _ => True) trivial (v_move rfl) ?_
                                  refine rs_split (s := 233) rfl (fun g29_15 => ?_) (fun g29_15 => ?_)
                                  · try with_reducible exact ft_elim g29_15
                                    all_goals
                                      try replace g29_15 := of_decide_eq_true g29_15
                                      refine rs_ag 16 rfl (met_on rfl rfl rfl rfl) rfl rfl (v_move rfl) ?_
                                      refine rs_ag 17 rfl (met_on rfl rfl rfl rfl) rfl rfl (v_nilCheck rfl) ?_
                                      refine rs_ag 18 rfl (met_on rfl rfl rfl rfl) rfl rfl (v_fieldAddr0 T.fld_90_0_0 rfl) ?_
                                      refine rs_ag 20 rfl (met_on rfl rfl rfl rfl) rfl rfl (v_fieldAddr0 T.fld_72_2_2 rfl) ?_
                                      refine rs_ag 23 rfl (met_on rfl rfl rfl rfl) rfl rfl (v_move rfl) ?_
                                      refine rs_ag 24 rfl (met_on rfl rfl rfl rfl) rfl rfl (v_nilCheck rfl) ?_
                                      refine rs_ag 25 rfl (met_on rfl rfl rfl rfl) rfl rfl (v_fieldAddr0 T.fld_90_1_1 rfl) ?_
                                      refine rs_ag 27 rfl (met_on rfl rfl rfl rfl) rfl rfl (v_fieldAddr0 T.fld_72_2_2 rfl) ?_
                                      refine rs_vg 19 rfl (met_on rfl rfl rfl rfl) rfl rfl (OpV.mono (v_load T.scal_36 rfl) (fun w hw => by exact sat_cell hw (by (repeat first | with_reducible exact xH | apply xT); first | done | fail) rfl)) (by exact Sat.sub hw (by (repeat (first | with_reducible exact Sub.refl _ | exact Sub.nil _ | (apply Sub.cons; focus ((repeat (first | with_reducible exact Pick.here _ | apply Pick.there)); (first | done | fail))) | with_reducible apply Sub.drop)); first | done | fail)) ?_
                                      refine rs_vg 21 rfl (met_on rfl rfl rfl rfl) rfl rfl (OpV.mono (v_load T.scal_3 rfl) (fun w hw => by exact sat_cell hw (by (repeat first | with_reducible exact xH | apply xT); first | done | fail) rfl)) (by exact Sat.sub hw (by (repeat (first | with_reducible exact Sub.refl _ | exact Sub.nil _ | (apply Sub.cons; focus ((repeat (first | with_reducible exact Pick.here _ | apply Pick.there)); (first | done | fail))) | with_reducible apply Sub.drop)); first | done | fail)) ?_
                                      refine rs_vg 26 rfl (met_on rfl rfl rfl rfl) rfl rfl (OpV.mono (v_load T.scal_87 rfl) (fun w hw => by exact sat_cell hw (by (repeat first | with_reducible exact xH | apply xT); first | done | fail) rfl)) (by exact Sat.sub hw (by (repeat (first | with_reducible exact Sub.refl _ | exact Sub.nil _ | (apply Sub.cons; focus ((repeat (first | with_reducible exact Pick.here _ | apply Pick.there)); (first | done | fail))) | with_reducible apply Sub.drop)); first | done | fail)) ?_
                                      refine rs_vg 28 rfl (met_on rfl rfl rfl rfl) rfl rfl (OpV.mono (v_load T.scal_3 rfl) (fun w hw => by exact sat_cell hw (by (repeat first | with_reducible exact xH | apply xT); first | done | fail) rfl)) (by exact Sat.sub hw (by (repeat (first | with_reducible exact Sub.refl _ | exact Sub.nil _ | (apply Sub.cons; focus ((repeat (first | with_reducible exact Pick.here _ | apply Pick.there)); (first | done | fail))) | with_reducible apply Sub.drop)); first | done | fail)) ?_
                                      refine rs_kg 22 rfl (met_on rfl rfl rfl rfl) (k_callf Try.func30 rfl rfl rfl rfl ?_)
                                      refine Calls.mono (liveS_calls (l := l) (m := m) (b := b) (c := c) (o := o) (ss := ss) x.a hb (hw.xQ)) ?_
                                      rintro _ w ⟨rfl, hw⟩
                                      refine ⟨_, rfl, ?_⟩
                                      refine ⟨fun _ => (by exact Sat.sub hw (by (repeat (first | with_reducible exact Sub.refl _ | exact Sub.nil _ | (apply Sub.cons; focus ((repeat (first | with_reducible exact Pick.here _ | apply Pick.there)); (first | done | fail))) | with_reducible apply Sub.drop)); first | done | fail)), ?_⟩
                                      refine rs_kg 29 rfl (met_on rfl rfl rfl rfl) (k_callf Try.func61 rfl rfl rfl rfl ?_)
                                      refine Calls.mono (rlive_calls (q := q) (rm := rm) (p := p2) (k1 := k1) (k2 := k2) (k3 := k3) (c1 := c1) (c2 := c2) (c3 := c3) (rs := rs) (md := md) x.a hrb hml (hw.xQ)) ?_
                                      rw [(K.kindS x.a).2]
                                      rintro _ w ⟨rfl, hw⟩
                                      refine ⟨_, rfl, ?_⟩
                                      refine ⟨fun _ => (by exact Sat.sub hw (by (repeat (first | with_reducible exact Sub.refl _ | exact Sub.nil _ | (apply Sub.cons; focus ((repeat (first | with_reducible exact Pick.here _ | apply Pick.there)); (first | done | fail))) | with_reducible apply Sub.drop)); first | done | fail)), ?_⟩
                                      refine rs_kvg 30 rfl (met_on rfl rfl rfl rfl) rfl rfl (S' := fun _ => True) trivial (v_eqlT rfl rfl (by omega)) ?_
                                      refine rs_kv 31 rfl rfl rfl rfl (S' := fun _ => True) trivial (v_pick_true rfl rfl) ?_
                                      refine rs_kv 32 rfl rfl rfl rfl (S' := fun _ => True) trivial (v_assign rfl) ?_
                                      refine rs_done (g_le (xK (xS rfl (xS rfl (xS rfl (xS rfl (xS rfl (xS rfl (xS rfl (xS rfl (xS rfl (xS rfl (xS rfl (xS rfl (xS rfl (xS rfl (xS rfl (xS rfl (xS rfl (xS rfl (xS rfl (xS rfl (xS rfl (xS rfl (xS rfl (xS rfl (xS rfl (xS rfl (xS rfl (xS rfl (xS rfl (xS rfl (xS rfl (xS rfl (xS rfl (Fr.le_refl _))))))))))))))))))))))))))))))))))) ?_)
                                      refine g_ret1 Try.func36 rfl rfl ?_
                                      exact ⟨rfl, o, ss, rs, md, pw, .slice va xs.length vc, xs, K, rfl, by omega, by omega, hok, hw.xQ⟩
                                  · try with_reducible exact tf_elim g29_15
                                    all_goals
                                      try replace g29_15 := of_decide_eq_false g29_15
                                      refine rs_aoff 16 rfl (met_off rfl rfl rfl rfl rfl) rfl rfl ?_
                                      refine rs_aoff 17 rfl (met_off rfl rfl rfl rfl rfl) rfl rfl ?_
                                      refine rs_aoff 18 rfl (met_off rfl rfl rfl rfl rfl) rfl rfl ?_
                                      refine rs_aoff 20 rfl (met_off rfl rfl rfl rfl rfl) rfl rfl ?_
                                      refine rs_aoff 23 rfl (met_off rfl rfl rfl rfl rfl) rfl rfl ?_
                                      refine rs_aoff 24 rfl (met_off rfl rfl rfl rfl rfl) rfl rfl ?_
                                      refine rs_aoff 25 rfl (met_off rfl rfl rfl rfl rfl) rfl rfl ?_
                                      refine rs_aoff 27 rfl (met_off rfl rfl rfl rfl rfl) rfl rfl ?_
                                      refine rs_voff 19 rfl (met_off rfl rfl rfl rfl rfl) rfl rfl (by first | exact hw | exact Sat.sub hw (by (repeat (first | with_reducible exact Sub.refl _ | exact Sub.nil _ | (apply Sub.cons; focus ((repeat (first | with_reducible exact Pick.here _ | apply Pick.there)); (first | done | fail))) | with_reducible apply Sub.drop)); first | done | fail)) ?_
                                      refine rs_voff 21 rfl (met_off rfl rfl rfl rfl rfl) rfl rfl (by first | exact hw | exact Sat.sub hw (by (repeat (first | with_reducible exact Sub.refl _ | exact Sub.nil _ | (apply Sub.cons; focus ((repeat (first | with_reducible exact Pick.here _ | apply Pick.there)); (first | done | fail))) | with_reducible apply Sub.drop)); first | done | fail)) ?_
                                      refine rs_voff 26 rfl (met_off rfl rfl rfl rfl rfl) rfl rfl (by first | exact hw | exact Sat.sub hw (by (repeat (first | with_reducible exact Sub.refl _ | exact Sub.nil _ | (apply Sub.cons; focus ((repeat (first | with_reducible exact Pick.here _ | apply Pick.there)); (first | done | fail))) | with_reducible apply Sub.drop)); first | done | fail)) ?_
                                      refine rs_voff 28 rfl (met_off rfl rfl rfl rfl rfl) rfl rfl (by first | exact hw | exact Sat.sub hw (by (repeat (first | with_reducible exact Sub.refl _ | exact Sub.nil _ | (apply Sub.cons; focus ((repeat (first | with_reducible exact Pick.here _ | apply Pick.there)); (first | done | fail))) | with_reducible apply Sub.drop)); first | done | fail)) ?_
                                      refine rs_koff 22 rfl (met_off rfl rfl rfl rfl rfl) rfl rfl ?_
                                      refine rs_koff 29 rfl (met_off rfl rfl rfl rfl rfl) rfl rfl ?_
                                      refine rs_koff 30 rfl (met_off rfl rfl rfl rfl rfl) rfl rfl ?_
                                      first | (refine rs_kv 31 rfl rfl rfl rfl (S' := fun _ => True) trivial (v_pick_true rfl rfl) ?_) | (refine rs_kv 31 rfl rfl rfl rfl (S' := fun _ => True) trivial (v_pick_false rfl rfl) ?_) | (refine rs_kv 31 rfl rfl rfl rfl (S' := fun _ => True) trivial (v_pick rfl rfl rfl) ?_)
                                      refine rs_kv 32 rfl rfl rfl rfl (S' := fun _ => True) trivial (v_assign rfl) ?_
                                      refine rs_done (g_le (xK (xS rfl (xS rfl (xS rfl (xS rfl (xS rfl (xS rfl (xS rfl (xS rfl (xS rfl (xS rfl (xS rfl (xS rfl (xS rfl (xS rfl (xS rfl (xS rfl (xS rfl (xS rfl (xS rfl (xS rfl (xS rfl (xS rfl (xS rfl (xS rfl (xS rfl (xS rfl (xS rfl (xS rfl (xS rfl (xS rfl (xS rfl (xS rfl (xS rfl (Fr.le_refl _))))))))))))))))))))))))))))))))))) ?_)
                                      refine g_ret1 Try.func36 rfl rfl ?_
                                      exact ⟨rfl, o, ss, rs, md, pw, .slice va xs.length vc, xs, K, rfl, by omega, by omega, hok, hw.xQ⟩
                              · try with_reducible exact tf_elim h9
                                all_goals
                                  try replace h9 := of_decide_eq_false h9
                                  refine g_skip (g_inBlock (g_seq ?_))
                                  refine g_region ?_
                                  refine xV rfl rfl rfl (v_assign rfl) ?_
                                  refine rl_nil (g_le (xK (Fr.le_refl _)) ?_)
                                  refine g_ret1 Try.func36 rfl rfl ?_
                                  exact ⟨rfl, o, ss, rs, md, pw, .slice va xs.length vc, xs, K, rfl, by omega, by omega, hok, hw.xQ⟩
end Go.Proofs.Ytipdklbedpkobaa
