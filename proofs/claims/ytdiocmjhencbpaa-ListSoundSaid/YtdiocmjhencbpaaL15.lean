/-
  Shape: the walk over all pages of a tree that is as it must be.
-/
import Derived.Test.YtdiocmjhencbpaaL10
namespace Go.Proofs.Ytdiocmjhencbpaa
set_option maxRecDepth 8000
set_option linter.unusedSimpArgs false
set_option linter.unusedVariables false
open Go Xe
def preF (now : List Sn) (k : Nat) : List En := (now.take k).flatMap fun x => x.node.entries
theorem preF_succ {now : List Sn} {k : Nat} {x : Sn} (h : now[k]? = some x) : preF now (k + 1) = preF now k ++ x.node.entries := by
  unfold preF
  rw [List.take_add_one, h]; simp
theorem preF_split {now : List Sn} {k : Nat} {x : Sn} (h : now[k]? = some x) : (now.flatMap fun x => x.node.entries) = preF now k ++ (x.node.entries ++ (now.drop (k + 1)).flatMap fun x => x.node.entries) := by
  obtain ⟨h1, h2⟩ := List.getElem?_eq_some_iff.1 h
  unfold preF
  rw [← List.flatMap_cons (f := fun x : Sn => x.node.entries), ← List.flatMap_append, ← h2, ← List.drop_eq_getElem_cons h1, List.take_append_drop]
theorem preF_all {now : List Sn} {k : Nat} (h : now.length ≤ k) : preF now k = now.flatMap fun x => x.node.entries := by unfold preF; rw [List.take_of_length_le h]
theorem preF_len {now : List Sn} {k : Nat} : (preF now k).length ≤ (now.flatMap fun x => x.node.entries).length := by
  have e : now = now.take k ++ now.drop k := (List.take_append_drop k now).symm
  conv => rhs; rw [e]
  rw [List.flatMap_append, List.length_append]; exact Nat.le_add_right _ _
def lastF (es : List En) : ByteArray := match es.getLast? with | some e => e.name | none => ByteArray.empty
theorem lastF_snoc (es : List En) (e : En) : lastF (es ++ [e]) = e.name := by simp [lastF]
/-- The next secret stands behind the last one. -/
theorem lastF_lt {pre post : List En} {e : En} (h : Sorted (pre ++ e :: post)) (hp : 0 < pre.length) : sl (lastF pre) e.name = true := by
  obtain ⟨p0, x, rfl⟩ : ∃ p0 x, pre = p0 ++ [x] := ⟨pre.dropLast, pre.getLast (by rintro rfl; simp at hp), (List.dropLast_concat_getLast _).symm⟩
  rw [lastF_snoc]
  exact (Sorted.app.1 h).2.2 x (by simp) e (by simp)
/-- A part of a tree that is still to come. -/
structure Pd where
  h : Nat
  t : Tn h
def Pd.sn (H : Nat) (p : Pd) : List Sn := seenU p.h ((H : Int) + 1 - p.h) p.t.1 p.t.2
def Pd.kid (p : Pd) : Kd := ⟨lowU p.h p.t.2, p.t.1⟩
def Pd.subs : Pd → List Pd
  | ⟨0, _⟩ => []
  | ⟨h + 1, t⟩ => List.map (fun x : Tn h => Pd.mk h x) t.2
def Pd.node (p : Pd) : Nd := nodeU p.h p.t.2
structure Pd.ok (H : Nat) (p : Pd) : Prop where
  ok : okU p.h p.t.2
  most : szU p.h p.t.2 ≤ 4
  le : p.h ≤ H
  two : p.h = 0 ∨ 2 ≤ szU p.h p.t.2
theorem flat_aux (H h : Nat) (l : List (Tn h)) : (l.map (Pd.mk h)).flatMap (Pd.sn H) = l.flatMap fun t => seenU h ((H : Int) + 1 - h) t.1 t.2 := by rw [List.flatMap_map]; rfl
theorem map_aux (h : Nat) (l : List (Tn h)) : l.map (kidU h) = (l.map (Pd.mk h)).map Pd.kid := by rw [List.map_map]; rfl
def waitOf (i : Nat) (pend : List Pd) : List Pd := if i = 0 then [] else pend
theorem Pd.sn_eq (H : Nat) (p : Pd) : p.sn H = ⟨(H : Int) + 1 - p.h, p.t.1, p.node⟩ :: p.subs.flatMap (Pd.sn H) := by
  obtain ⟨h, t⟩ := p
  cases h with
  | zero => rfl
  | succ h =>
    have e : (H : Int) + 1 - ((h + 1 : Nat) : Int) + 1 = (H : Int) + 1 - (h : Int) := by omega
    refine Eq.trans (?_ : _ = (⟨(H : Int) + 1 - ((h + 1 : Nat) : Int), t.1, nodeU (h + 1) t.2⟩ :: List.flatMap (fun x : Tn h => seenU h ((H : Int) + 1 - ((h + 1 : Nat) : Int) + 1) x.1 x.2) t.2 : List Sn)) ?_
    · rfl
    · rw [e]; exact congrArg _ (flat_aux H h t.2).symm
theorem Pd.kids_eq (p : Pd) : p.node.kids = p.subs.map Pd.kid := by
  obtain ⟨h, t⟩ := p
  cases h with
  | zero => rfl
  | succ h => exact map_aux h t.2
theorem Pd.subs_ok {H : Nat} {p : Pd} (hp : p.ok H) : ∀ q ∈ p.subs, q.ok H ∧ 2 ≤ szU q.h q.t.2 := by
  obtain ⟨h, t⟩ := p
  cases h with
  | zero => intro q hq; cases hq
  | succ h =>
    intro q hq
    obtain ⟨x, hx, rfl⟩ := List.mem_map.1 hq
    have h1 := hp.ok x hx
    have h2 := hp.le
    exact ⟨⟨h1.2.2, h1.2.1, by simp only at h2 ⊢; omega, .inr h1.1⟩, h1.1⟩
theorem Pd.leaf_iff (p : Pd) : p.node.leaf = true ↔ p.h = 0 := by
  obtain ⟨h, t⟩ := p
  cases h with
  | zero => simp [Pd.node, nodeU]
  | succ h => simp [Pd.node, nodeU]
theorem Pd.sz (p : Pd) : sizeN p.node = szU p.h p.t.2 := sizeN_nodeU _ _
theorem Pd.inner (p : Pd) (h : p.node.leaf ≠ true) : p.node.entries = [] := by
  obtain ⟨k, t⟩ := p
  cases k with
  | zero => simp [Pd.node, nodeU] at h
  | succ k => rfl
theorem pend_len {H : Nat} : ∀ {l : List Pd}, l.length ≤ (l.flatMap (Pd.sn H)).length
  | [] => by simp
  | p :: l => by
    have := pend_len (H := H) (l := l)
    rw [List.flatMap_cons, List.length_append, Pd.sn_eq, List.length_cons, List.length_cons]; omega
theorem take_kids (l : List Kd) (k : Kd) : ((l ++ [k]).flatMap Kd.cells).take (l.length * 5) = l.flatMap Kd.cells := by rw [List.flatMap_append, ← kids_len l, List.take_left']; rfl
set_option maxHeartbeats 4000000 in
theorem shaped8_calls {E : Env} {w : World} {L : List As} {g : Hp} {s : List Nd} {root : Rf} {hh : Nat} {u : Un hh} {la : Option Addr} {ln lc : Nat} (t : TreeAt s root hh u) (h8 : hh < 8) (hrd : (rdSl 96 8 rdSn) g [.slice la ln lc] (seenU hh 1 root u)) (hln : (seenU hh 1 root u).length ≤ 100000) (hw : Sat E w (RO g :: L)) :
    Calls Try.prog 40 #[.slice la ln lc, .int .i64 (hh + 1)] w fun v w' => v = .returned (.bool true) ∧ Sat E w' (RO g :: L) := by
  have hroot : seenU hh 1 root u = [(⟨hh, (root, u)⟩ : Pd)].flatMap (Pd.sn hh) := by
    simp only [List.flatMap_cons, List.flatMap_nil, List.append_nil, Pd.sn]
    rw [show (hh : Int) + 1 - hh = 1 by omega]
  have hok0 : (⟨hh, (root, u)⟩ : Pd).ok hh := ⟨t.ok, t.most, Nat.le_refl _, t.two⟩
  have hse := seen_ents hh 1 root u
  have hsrt := t.srt
  rw [← hse] at hsrt
  generalize seenU hh 1 root u = now at *
  obtain ⟨rfl, hnb, _, _, gn⟩ := rdSl_get hrd
  simp only [reachBytes] at hnb
  refine calls_of_g (n := 96) Try.func40 rfl rfl rfl ?_
  change G _ _ _ _ _ [(0, _), (1, _)] _
  refine g_seq ?_
  refine g_region ?_
  refine xV rfl rfl rfl (v_assign rfl) ?_
  refine rl_nil (g_le (xK (Fr.le_refl _)) ?_)
  refine g_seq ?_
  refine g_region ?_
  refine xV rfl rfl rfl (v_assign rfl) ?_
  refine xV rfl rfl rfl (v_assign rfl) ?_
  refine rl_nil (g_le (xK (xK (Fr.le_refl _))) ?_)
  refine g_seq ?_
  refine g_region ?_
  refine xV rfl rfl rfl (v_assign rfl) ?_
  refine rl_nil (g_le (xK (Fr.le_refl _)) ?_)
  refine g_seq (g_seq ?_)
  refine g_region ?_
  refine xV rfl rfl rfl (v_move rfl) ?_
  refine xV rfl rfl rfl (v_lenSlice T.sl_79_86_8 rfl) ?_
  refine xV rfl rfl rfl (v_move rfl) ?_
  refine rl_nil (g_le (xK (xK (xK (Fr.le_refl _)))) ?_)
  refine g_block ?_
  refine g_loopC (σ := Nat × ByteArray × Bool × Value × List Pd) (fun C x => (16, .int .i64 (x.1 : Nat)) :: (5, .string x.2.1) :: (6, .bool x.2.2.1) :: (7, x.2.2.2.1) :: C) [(1, _), (4, _), (14, _), (15, _)] (by repeat (first | exact Fr.le_nil _ | refine Fr.le_cons rfl ?_)) (fun z w => z.1 ≤ now.length ∧ now.drop z.1 = z.2.2.2.2.flatMap (Pd.sn hh) ∧ z.2.1 = lastF (preF now z.1) ∧ z.2.2.1 = decide (0 < (preF now z.1).length) ∧ (∀ p ∈ z.2.2.2.2, p.ok hh) ∧ (0 < z.1 → ∀ p ∈ z.2.2.2.2, 2 ≤ szU p.h p.t.2) ∧ (z.1 = 0 → z.2.2.2.2.length = 1) ∧ Sat E w (OwnSl 104 5 z.2.2.2.1 (waitOf z.1 z.2.2.2.2).length (((waitOf z.1 z.2.2.2.2).map Pd.kid).reverse.flatMap Kd.cells) :: RO g :: L)) (fun z => now.length - z.1) ?_ (0, ByteArray.empty, false, .slice none 0 0, [⟨hh, (root, u)⟩]) (by repeat (first | exact Fr.le_nil _ | refine Fr.le_cons rfl ?_)) ⟨by simp, by simpa using hroot, by simp [preF, lastF], by simp [preF], by simpa using hok0, by simp, by simp, by simpa [waitOf] using (hw.xQ : Sat E w (RO g :: L)).own_nil 104 5⟩
  rintro ⟨i, last, sm, wv, pend⟩ w ⟨hi1, hdr, hla, hsm, hpok, hp2, hp1, hw⟩ ih
  dsimp only at hi1 hdr hla hsm hpok hp2 hp1 hw ih ⊢
  refine g_seq ?_
  refine g_region ?_
  refine xV rfl rfl rfl (v_lss rfl rfl) ?_
  refine rl_nil (g_le (xK (Fr.le_refl _)) ?_)
  refine g_seq ?_
  refine g_cond rfl (fun h1 => ?_) (fun h1 => ?_)
  · try with_reducible exact ft_elim h1
    all_goals
      try replace h1 := of_decide_eq_true h1
      refine g_skip (g_seq (g_block (g_seq ?_)))
      have hz := hw
      clear hw
      obtain ⟨b5, o5, x, xcs, rfl, hx, hat5, hl5, hrdx⟩ := gn (i : Nat) (by omega) (by omega)
      rw [Int.toNat_natCast] at hx hat5
      obtain ⟨hx1, hx2⟩ := List.getElem?_eq_some_iff.1 hx
      have hpl := pend_len (H := hh) (l := pend)
      rw [← hdr, List.length_drop] at hpl
      rw [List.drop_eq_getElem_cons hx1, hx2] at hdr
      obtain ⟨p, rest, rfl⟩ : ∃ p rest, pend = p :: rest := by cases pend with | nil => simp at hdr | cons p rest => exact ⟨p, rest, rfl⟩
      rw [List.flatMap_cons, Pd.sn_eq, List.cons_append] at hdr
      obtain ⟨hxp, hdr⟩ := List.cons.inj hdr
      have hpk := hpok p (by simp)
      have hsub := Pd.subs_ok hpk
      have hkid := p.kids_eq
      have hxn : x.node = p.node := by rw [hxp]
      have hxd : x.deep = (hh : Int) + 1 - p.h := by rw [hxp]
      have hlow : lowN x.node = p.kid.low := by rw [hxn]; exact lowN_nodeU _ _
      have hlf := p.leaf_iff
      have hin := p.inner
      have hsz := p.sz
      rw [← hxn] at hkid hlf hin hsz
      have hsz2 : 0 < i → 2 ≤ szU p.h p.t.2 := fun h => hp2 h p (by simp)
      have hsz4 := hpk.most
      have hple := hpk.le
      clear hxp
      simp only [List.length_cons] at hp1 hpl
      obtain ⟨xa, xn, xc, xk, xkn, xkc, rfl, hndx⟩ := sn_told hrdx
      obtain ⟨n0, n1, n2, hq9, _, hqe, hqk⟩ := id hndx
      simp only [List.cons.injEq, and_true] at hq9
      obtain ⟨_, rfl, rfl⟩ := hq9
      obtain ⟨rfl, heb, _, hem, ge⟩ := rdSl_get hqe
      obtain ⟨rfl, hkb, _, hkm, gk⟩ := rdSl_get hqk
      simp only [maxLen] at hem hkm
      have hkl : x.node.kids.length = p.subs.length := by rw [hkid, List.length_map]
      have hk4 : x.node.kids.length ≤ 4 ∧ x.node.entries.length ≤ 4 := by cases hl : x.node.leaf with | true => (rw [show sizeN x.node = x.node.entries.length from if_pos hl] at hsz; have h0 := hlf.1 hl; have h1 : p.subs = [] := (by obtain ⟨ph, pt⟩ := p; obtain rfl : ph = 0 := h0; rfl); rw [hkl, h1]; simp; omega) | false => (rw [show sizeN x.node = x.node.kids.length from if_neg (by simp [hl])] at hsz; rw [hin (by simp [hl])]; simp; omega)
      have hpre := preF_succ hx
      have hspl := preF_split hx
      rw [hspl] at hsrt
      have hw := hz
      obtain ⟨wa, wc, rfl, hwc1, hwc2, hwa⟩ := hw.own_shape
      refine g_region ?_
      refine xV rfl rfl rfl (v_move rfl) ?_
      refine xV rfl rfl rfl (v_indexAddr T.sl_79_86_8 rfl rfl (by omega) (by omega)) ?_
      refine rl_v rfl rfl rfl (by exact ro_ats hw (by (repeat first | with_reducible exact xH | apply xT); first | done | fail) (by assumption)) (v_loadAgg (vs := [_, _, _, _, _, _, _, _]) T.agg_86_8 rfl rfl) ?_
      refine rl_k rfl (k_alloc hw T.zero_86 rfl rfl (fun bk5_3 w hw => ?_))
      refine xV rfl rfl rfl (v_assign rfl) ?_
      refine rl_k rfl (k_storeWhole hw T.agg_86_8 rfl rfl (by simp [Value.oneCell']) rfl (by (repeat first | with_reducible exact xH | apply xT); first | done | fail) rfl (fun w hw => ?_))
      refine rl_nil (g_le (xK (xK (xK (xK (xK (Fr.le_refl _)))))) ?_)
      refine g_seq (g_seq ?_)
      refine g_region ?_
      refine xV rfl rfl rfl (v_move rfl) ?_
      refine xV rfl rfl rfl (v_gtr rfl rfl) ?_
      refine rl_nil (g_le (xK (xK (Fr.le_refl _))) ?_)
      refine g_cutc (σ := Value) (fun C x => (7, x) :: C) [(1, _), (4, _), (5, _), (6, _), (8, _), (9, _), (14, _), (15, _), (16, _), (17, _), (18, _), (19, _), (20, _), (21, _), (22, _)] (by repeat (first | exact Fr.le_nil _ | refine Fr.le_cons rfl ?_)) (fun z w => Sat E w (OwnSl 104 5 z rest.length ((rest.map Pd.kid).reverse.flatMap Kd.cells) :: pt bk5_3 (.cells [.int .i64 x.deep, .int .u64 x.ref.key, .int .i64 x.ref.seg, .int .i64 x.ref.off, .int .i64 x.ref.len, .bool x.node.leaf, .slice xa x.node.entries.length xc, .slice xk x.node.kids.length xkc].toArray 86 (0, 0)) :: RO g :: L)) ?_ ?_
      · skip
        rintro wv2 w hw
        all_goals
          refine g_seq (g_seq ?_)
          refine g_region ?_
          refine xV rfl rfl rfl (v_fieldAddr0 T.fld_86_2_5 rfl) ?_
          refine xV rfl rfl rfl (v_fieldAddr T.fld_84_2_2 rfl) ?_
          refine rl_v rfl rfl rfl (by exact sat_cell hw (by (repeat first | with_reducible exact xH | apply xT); first | done | fail) rfl) (v_load T.scal_82 rfl) ?_
          refine xV rfl rfl rfl (v_lenSlice T.sl_82_104_5 rfl) ?_
          refine xV rfl rfl rfl (v_sub rfl rfl (by omega)) ?_
          refine xV rfl rfl rfl (v_assign rfl) ?_
          refine rl_nil (g_le (xK (xK (xK (xK (xK (xK (Fr.le_refl _))))))) ?_)
          refine g_block ?_
          refine g_loopC (σ := Nat × Value) (fun C x => (11, .int .i64 (((x.1 : Nat) : Int) - 1)) :: (7, x.2) :: C) [(1, _), (4, _), (5, _), (6, _), (8, _), (9, _), (14, _), (15, _), (16, _), (17, _), (18, _), (19, _), (20, _), (21, _), (22, _), (40, _), (41, _), (42, _), (43, _), (44, _)] (by repeat (first | exact Fr.le_nil _ | refine Fr.le_cons rfl ?_)) (fun z w => z.1 ≤ x.node.kids.length ∧ Sat E w (OwnSl 104 5 z.2 (rest.length + (x.node.kids.length - z.1)) (((rest.map Pd.kid).reverse ++ (x.node.kids.drop z.1).reverse).flatMap Kd.cells) :: pt bk5_3 (.cells [.int .i64 x.deep, .int .u64 x.ref.key, .int .i64 x.ref.seg, .int .i64 x.ref.off, .int .i64 x.ref.len, .bool x.node.leaf, .slice xa x.node.entries.length xc, .slice xk x.node.kids.length xkc].toArray 86 (0, 0)) :: RO g :: L)) (fun z => z.1) ?_ (x.node.kids.length, wv2) (by repeat (first | exact Fr.le_nil _ | refine Fr.le_cons rfl ?_)) ⟨Nat.le_refl _, by simp only [List.drop_length, Nat.sub_self, Nat.add_zero, List.reverse_nil, List.append_nil]; exact hw.xQ⟩
          rintro ⟨k, wv3⟩ w ⟨hk1, hw⟩ ih2
          dsimp only at hk1 hw ih2 ⊢
          refine g_seq (g_seq ?_)
          refine g_region ?_
          refine xV rfl rfl rfl (v_move rfl) ?_
          refine xV rfl rfl rfl (v_geq rfl rfl) ?_
          refine rl_nil (g_le (xK (xK (Fr.le_refl _))) ?_)
          refine g_cond rfl (fun h4 => ?_) (fun h4 => ?_)
          · try with_reducible exact ft_elim h4
            all_goals
              try replace h4 := of_decide_eq_true h4
              refine g_skip (g_seq (g_block ?_))
              obtain ⟨k, rfl⟩ : ∃ k', k = k' + 1 := ⟨k - 1, by omega⟩
              rw [show (((k + 1 : Nat) : Int) - 1) = (k : Int) by omega]
              have hz := hw
              clear hw
              obtain ⟨b6, o6, y, ycs, rfl, hy, hat6, hl6, rfl, hyr⟩ := gk (k : Nat) (by omega) (by omega)
              rw [Int.toNat_natCast] at hy hat6
              have hdk : x.node.kids.drop k = y :: x.node.kids.drop (k + 1) := by obtain ⟨h9, h8⟩ := List.getElem?_eq_some_iff.1 hy; rw [List.drop_eq_getElem_cons h9, h8]
              dsimp only [Kd.cells] at hat6
              obtain ⟨wd, we, rfl, hwd1, hwd2, _⟩ := hz.own_shape
              have hw := hz
              refine g_region ?_
              refine xV rfl rfl rfl (v_move rfl) ?_
              refine xV rfl rfl rfl (v_fieldAddr0 T.fld_86_2_5 rfl) ?_
              refine xV rfl rfl rfl (v_fieldAddr T.fld_84_2_2 rfl) ?_
              refine rl_v rfl rfl rfl (by exact sat_cell hw (by (repeat first | with_reducible exact xH | apply xT); first | done | fail) rfl) (v_load T.scal_82 rfl) ?_
              refine xV rfl rfl rfl (v_move rfl) ?_
              refine xV rfl rfl rfl (v_indexAddr T.sl_82_104_5 rfl rfl (by omega) (by omega)) ?_
              refine rl_v rfl rfl rfl (by exact ro_ats hw (by (repeat first | with_reducible exact xH | apply xT); first | done | fail) (by assumption)) (v_loadAgg (vs := [_, _, _, _, _]) T.agg_104_5 rfl rfl) ?_
              refine rl_k rfl (k_buildSlice (cells := [_, _, _, _, _]) hw T.sl_82_104_5 T.zero_104 rfl rfl rfl rfl rfl rfl (fun bk14_7 w hw => ?_))
              refine rl_k rfl (k_append (news := [_, _, _, _, _]) hw T.sl_82_104_5 T.zero_104 T.bytes_104_48 rfl (by decide) rfl rfl (by (repeat first | with_reducible exact xH | apply xT); first | done | fail) rfl (by exact sat_cells hw (by (repeat first | with_reducible exact xH | apply xT); first | done | fail) ⟨rfl, rfl, rfl, rfl, rfl, trivial⟩) (by simp [Value.oneCell']) (by omega) (by simp only [maxLen]; omega) rfl (fun vv14_8 w hw hnil => ?_))
              refine xV rfl rfl rfl (v_assign rfl) ?_
              refine rl_nil (g_le (xK (xK (xK (xK (xK (xK (xK (xK (xK (xK (Fr.le_refl _))))))))))) ?_)
              refine g_inBlock ?_
              refine g_region ?_
              refine xV rfl rfl rfl (v_move rfl) ?_
              refine xV rfl rfl rfl (v_sub rfl rfl (by omega)) ?_
              refine xV rfl rfl rfl (v_assign rfl) ?_
              refine rl_nil (g_le (xK (xK (xK (Fr.le_refl _)))) ?_)
              have ek : ((rest.map Pd.kid).reverse ++ (x.node.kids.drop k).reverse).flatMap Kd.cells = ((rest.map Pd.kid).reverse ++ (x.node.kids.drop (k + 1)).reverse).flatMap Kd.cells ++ y.cells := by rw [hdk, List.reverse_cons, ← List.append_assoc, List.flatMap_append (ys := [y])]; simp
              exact g_le (by repeat (first | exact Fr.le_nil _ | refine Fr.le_cons rfl ?_)) (ih2 (k, vv14_8) w ⟨by simp only; omega, by dsimp only; rw [ek, show rest.length + (x.node.kids.length - k) = rest.length + (x.node.kids.length - (k + 1)) + 1 by omega]; exact hw.xQ⟩ (by simp only; omega))
          · try with_reducible exact tf_elim h4
            all_goals
              try replace h4 := of_decide_eq_false h4
              refine g_exit rfl (g_seq (g_seq ?_))
              obtain rfl : k = 0 := by omega
              have ewp : (rest.map Pd.kid).reverse ++ (x.node.kids.drop 0).reverse = ((p.subs ++ rest).map Pd.kid).reverse := by rw [List.drop_zero, hkid, List.map_append, List.reverse_append]
              have ewl : rest.length + (x.node.kids.length - 0) = (p.subs ++ rest).length := by rw [List.length_append, hkl]; omega
              have ewn : waitOf (i + 1) (p.subs ++ rest) = p.subs ++ rest := by unfold waitOf; rw [if_neg (by omega)]
              rw [ewp, ewl] at hw
              have hdr2 : now.drop (i + 1) = (p.subs ++ rest).flatMap (Pd.sn hh) := by rw [hdr, List.flatMap_append]
              have hpok2 : ∀ q ∈ p.subs ++ rest, q.ok hh := fun q hq => (List.mem_append.1 hq).elim (fun h => (hsub q h).1) (fun h => hpok q (List.mem_cons_of_mem _ h))
              have hpt3 : ∀ q ∈ rest, 2 ≤ szU q.h q.t.2 := by
                intro q hq
                rcases Nat.eq_zero_or_pos i with h0 | h0
                · have h7 := hp1 h0
                  have h8 := List.length_pos_of_mem hq
                  omega
                · exact hp2 h0 q (List.mem_cons_of_mem _ hq)
              have hpt2 : ∀ q ∈ p.subs ++ rest, 2 ≤ szU q.h q.t.2 := fun q hq => (List.mem_append.1 hq).elim (fun h => (hsub q h).2) (hpt3 q)
              refine g_region ?_
              refine xV rfl rfl rfl (v_fieldAddr0 T.fld_86_2_5 rfl) ?_
              refine xV rfl rfl rfl (v_fieldAddr T.fld_84_0_0 rfl) ?_
              refine rl_v rfl rfl rfl (by exact sat_cell hw (by (repeat first | with_reducible exact xH | apply xT); first | done | fail) rfl) (v_load T.scal_4 rfl) ?_
              refine xV rfl rfl rfl (v_not rfl) ?_
              refine rl_nil (g_le (xK (xK (xK (xK (Fr.le_refl _))))) ?_)
              refine g_cond rfl (fun h5 => ?_) (fun h5 => ?_)
              · try with_reducible exact ft_elim h5
                all_goals
                  try replace h5 := of_decide_eq_true h5
                  have hnl : ¬ x.node.leaf = true := by intro h; rw [h] at h5; simp at h5
                  refine g_exit rfl ?_
                  refine g_region ?_
                  refine xV rfl rfl rfl (v_add rfl rfl (by omega)) ?_
                  refine xV rfl rfl rfl (v_move rfl) ?_
                  refine rl_nil (g_le (xK (xK (Fr.le_refl _))) ?_)
                  have he0 : preF now (i + 1) = preF now i := by rw [hpre, hin hnl, List.append_nil]
                  exact g_le (by repeat (first | exact Fr.le_nil _ | refine Fr.le_cons rfl ?_)) (ih (i + 1, last, sm, wv3, p.subs ++ rest) w ⟨by simp only; omega, hdr2, by dsimp only; rw [he0]; exact hla, by dsimp only; rw [he0]; exact hsm, hpok2, fun _ => hpt2, fun h => absurd h (by simp), by dsimp only; rw [ewn]; exact hw.xQ⟩ (by simp only; omega))
              · try with_reducible exact tf_elim h5
                all_goals
                  try replace h5 := of_decide_eq_false h5
                  have hlt0 : x.node.leaf = true := by cases h : x.node.leaf with | true => rfl | false => (rw [h] at h5; simp at h5)
                  have hp0 := hlf.1 hlt0
                  have hxd0 : x.deep = (hh : Int) + 1 := by rw [hxd, hp0]; simp
                  rw [show sizeN x.node = x.node.entries.length from if_pos hlt0] at hsz
                  have hel2 : 0 < i → 2 ≤ x.node.entries.length := fun h => by have := hsz2 h; omega
                  refine g_skip (g_seq (g_seq ?_))
                  refine g_region ?_
                  refine xV rfl rfl rfl (v_fieldAddr0 T.fld_86_0_0 rfl) ?_
                  refine rl_v rfl rfl rfl (by exact sat_cell hw (by (repeat first | with_reducible exact xH | apply xT); first | done | fail) rfl) (v_load T.scal_3 rfl) ?_
                  refine xV rfl rfl rfl (v_move rfl) ?_
                  refine xV rfl rfl rfl (v_neqF rfl rfl (by omega)) ?_
                  refine xV rfl rfl rfl (v_move rfl) ?_
                  refine rl_split (s := 66) rfl (fun g16_4 => ?_) (fun g16_4 => ?_)
                  · try with_reducible exact ft_elim g16_4
                    all_goals
                      try replace g16_4 := of_decide_eq_true g16_4
                      omega
                  · try with_reducible exact tf_elim g16_4
                    all_goals
                      try replace g16_4 := of_decide_eq_false g16_4
                      refine rl_vg (met_on rfl rfl rfl rfl) rfl rfl (S := fun _ => True) trivial (v_move rfl) ?_
                      refine rl_vg (met_on rfl rfl rfl rfl) rfl rfl (S := fun _ => True) trivial (v_gtr rfl rfl) ?_
                      refine rl_vg (met_on rfl rfl rfl rfl) rfl rfl (S := fun _ => True) trivial (v_move rfl) ?_
                      refine rl_split (s := 69) rfl (fun g16_7 => ?_) (fun g16_7 => ?_)
                      · try with_reducible exact ft_elim g16_7
                        all_goals
                          try replace g16_7 := of_decide_eq_true g16_7
                          refine rl_vg (met_on rfl rfl rfl rfl) rfl rfl (S := fun _ => True) trivial (v_fieldAddr0 T.fld_86_2_5 rfl) ?_
                          refine rl_vg (met_on rfl rfl rfl rfl) rfl rfl (S := fun _ => True) trivial (v_fieldAddr T.fld_84_1_1 rfl) ?_
                          refine rl_vg (met_on rfl rfl rfl rfl) rfl rfl (by exact sat_cell hw (by (repeat first | with_reducible exact xH | apply xT); first | done | fail) rfl) (v_load T.scal_33 rfl) ?_
                          refine rl_vg (met_on rfl rfl rfl rfl) rfl rfl (S := fun _ => True) trivial (v_lenSlice T.sl_33_40_2 rfl) ?_
                          refine rl_vg (met_on rfl rfl rfl rfl) rfl rfl (S := fun _ => True) trivial (v_lssF rfl rfl (by omega)) ?_
                          refine rl_vg (met_on rfl rfl rfl rfl) rfl rfl (S := fun _ => True) trivial (v_pick_true rfl rfl) ?_
                          refine xV rfl rfl rfl (v_pick_false rfl rfl) ?_
                          refine rl_nil (g_le (xK (xK (xK (xK (xK (xK (xK (xK (xK (xK (xK (xK (xK (xK (xK (xK (xK (Fr.le_refl _)))))))))))))))))) ?_)
                          refine g_cond_false rfl ?_
                          refine g_skip (g_seq ?_)
                          refine g_region ?_
                          refine xV rfl rfl rfl (v_fieldAddr0 T.fld_86_2_5 rfl) ?_
                          refine xV rfl rfl rfl (v_fieldAddr T.fld_84_1_1 rfl) ?_
                          refine rl_v rfl rfl rfl (by exact sat_cell hw (by (repeat first | with_reducible exact xH | apply xT); first | done | fail) rfl) (v_load T.scal_33 rfl) ?_
                          refine xV rfl rfl rfl (v_lenSlice T.sl_33_40_2 rfl) ?_
                          refine xV rfl rfl rfl (v_move rfl) ?_
                          refine rl_nil (g_le (xK (xK (xK (xK (xK (Fr.le_refl _)))))) ?_)
                          refine g_block ?_
                          refine g_loopC (σ := Nat × ByteArray × Bool) (fun C x => (81, .int .i64 (x.1 : Nat)) :: (5, .string x.2.1) :: (6, .bool x.2.2) :: C) [(1, _), (4, _), (7, _), (8, _), (9, _), (11, _), (14, _), (15, _), (16, _), (17, _), (18, _), (19, _), (20, _), (21, _), (22, _), (40, _), (41, _), (42, _), (43, _), (44, _), (45, _), (46, _), (58, _), (59, _), (60, _), (61, _), (62, _), (63, _), (64, _), (65, _), (66, _), (67, _), (68, _), (69, _), (70, _), (71, _), (72, _), (73, _), (74, _), (75, _), (76, _), (77, _), (78, _), (79, _), (80, _)] (by repeat (first | exact Fr.le_nil _ | refine Fr.le_cons rfl ?_)) (fun z w => z.1 ≤ x.node.entries.length ∧ z.2.1 = lastF (preF now i ++ x.node.entries.take z.1) ∧ z.2.2 = decide (0 < (preF now i ++ x.node.entries.take z.1).length) ∧ Sat E w (OwnSl 104 5 wv3 (p.subs ++ rest).length (((p.subs ++ rest).map Pd.kid).reverse.flatMap Kd.cells) :: pt bk5_3 (.cells [.int .i64 x.deep, .int .u64 x.ref.key, .int .i64 x.ref.seg, .int .i64 x.ref.off, .int .i64 x.ref.len, .bool x.node.leaf, .slice xa x.node.entries.length xc, .slice xk x.node.kids.length xkc].toArray 86 (0, 0)) :: RO g :: L)) (fun z => x.node.entries.length - z.1) ?_ (0, last, sm) (by repeat (first | exact Fr.le_nil _ | refine Fr.le_cons rfl ?_)) ⟨by simp, by simpa using hla, by simpa using hsm, hw.xQ⟩
                          rintro ⟨j, last2, sm2⟩ w ⟨hj1, hla2, hsm2, hw⟩ ih3
                          dsimp only at hj1 hla2 hsm2 hw ih3 ⊢
                          refine g_seq ?_
                          refine g_region ?_
                          refine xV rfl rfl rfl (v_lss rfl rfl) ?_
                          refine rl_nil (g_le (xK (Fr.le_refl _)) ?_)
                          refine g_seq ?_
                          refine g_cond rfl (fun h7 => ?_) (fun h7 => ?_)
                          · try with_reducible exact ft_elim h7
                            all_goals
                              try replace h7 := of_decide_eq_true h7
                              refine g_skip (g_seq (g_block (g_seq ?_)))
                              have hz := hw
                              clear hw
                              obtain ⟨b8, o8, e, ecs, rfl, he, hat8, hl8, her⟩ := ge (j : Nat) (by omega) (by omega)
                              rw [Int.toNat_natCast] at he hat8
                              obtain ⟨va, vn, vc, rfl, her⟩ := en_told her
                              have hte : x.node.entries.take (j + 1) = x.node.entries.take j ++ [e] := by rw [List.take_add_one, he]; rfl
                              have hlt : sm2 = true → sl last2 e.name = true := by
                                intro hp
                                rw [hsm2] at hp
                                have hp := of_decide_eq_true hp
                                obtain ⟨h9, h8⟩ := List.getElem?_eq_some_iff.1 he
                                have hs := hsrt
                                rw [← List.take_append_drop j x.node.entries, List.drop_eq_getElem_cons h9, h8, List.append_assoc, ← List.append_assoc, List.cons_append] at hs
                                rw [hla2]
                                exact lastF_lt hs hp
                              have hw := hz
                              refine g_region ?_
                              refine xV rfl rfl rfl (v_indexAddr T.sl_33_40_2 rfl rfl (by omega) (by omega)) ?_
                              refine rl_v rfl rfl rfl (by exact ro_ats hw (by (repeat first | with_reducible exact xH | apply xT); first | done | fail) (by assumption)) (v_loadAgg (vs := [_, _]) T.agg_40_2 rfl rfl) ?_
                              refine rl_k rfl (k_alloc hw T.zero_40 rfl rfl (fun bk20_2 w hw => ?_))
                              refine rl_k rfl (k_storeWhole hw T.agg_40_2 rfl rfl (by simp [Value.oneCell']) rfl (by (repeat first | with_reducible exact xH | apply xT); first | done | fail) rfl (fun w hw => ?_))
                              refine rl_nil (g_le (xK (xK (xK (Fr.le_refl _)))) ?_)
                              refine g_seq (g_seq ?_)
                              refine g_region ?_
                              refine xV rfl rfl rfl (v_move rfl) ?_
                              refine xV rfl rfl rfl (v_move rfl) ?_
                              refine rl_split (s := 86) rfl (fun g21_1 => ?_) (fun g21_1 => ?_)
                              · try with_reducible exact ft_elim g21_1
                                all_goals
                                  try replace g21_1 := of_decide_eq_true g21_1
                                  refine rl_vg (met_on rfl rfl rfl rfl) rfl rfl (S := fun _ => True) trivial (v_fieldAddr0 T.fld_40_0_0 rfl) ?_
                                  refine rl_vg (met_on rfl rfl rfl rfl) rfl rfl (by exact sat_cell hw (by (repeat first | with_reducible exact xH | apply xT); first | done | fail) rfl) (v_load T.scal_9 rfl) ?_
                                  refine rl_vg (met_on rfl rfl rfl rfl) rfl rfl (S := fun _ => True) trivial (v_move rfl) ?_
                                  refine rl_vg (met_on rfl rfl rfl rfl) rfl rfl (S := fun _ => True) trivial (v_leqStr rfl rfl) ?_
                                  refine xV rfl rfl rfl (v_pick_true rfl rfl) ?_
                                  refine rl_nil (g_le (xK (xK (xK (xK (xK (xK (xK (xK (Fr.le_refl _))))))))) ?_)
                                  refine g_cond rfl (fun h8 => ?_) (fun h8 => ?_)
                                  · try with_reducible exact ft_elim h8
                                    all_goals
                                      try replace h8 := of_decide_eq_true h8
                                      rw [hlt g21_1] at h8; simp at h8
                                  · try with_reducible exact tf_elim h8
                                    all_goals
                                      try replace h8 := of_decide_eq_false h8
                                      refine g_skip ?_
                                      refine g_region ?_
                                      refine xV rfl rfl rfl (v_fieldAddr0 T.fld_40_0_0 rfl) ?_
                                      refine rl_v rfl rfl rfl (by exact sat_cell hw (by (repeat first | with_reducible exact xH | apply xT); first | done | fail) rfl) (v_load T.scal_9 rfl) ?_
                                      refine xV rfl rfl rfl (v_assign rfl) ?_
                                      refine xV rfl rfl rfl (v_assign rfl) ?_
                                      refine rl_nil (g_le (xK (xK (xK (xK (Fr.le_refl _))))) ?_)
                                      refine g_inBlock ?_
                                      refine g_region ?_
                                      refine xV rfl rfl rfl (v_add rfl rfl (by omega)) ?_
                                      refine xV rfl rfl rfl (v_move rfl) ?_
                                      refine rl_nil (g_le (xK (xK (Fr.le_refl _))) ?_)
                                      exact g_le (by repeat (first | exact Fr.le_nil _ | refine Fr.le_cons rfl ?_)) (ih3 (j + 1, e.name, true) w ⟨by simp only; omega, by dsimp only; rw [hte, ← List.append_assoc, lastF_snoc], by dsimp only; rw [hte, ← List.append_assoc]; simp; omega, hw.xQ⟩ (by simp only; omega))
                              · try with_reducible exact tf_elim g21_1
                                all_goals
                                  try replace g21_1 := of_decide_eq_false g21_1
                                  refine rl_off (met_off rfl rfl rfl rfl rfl) rfl rfl ?_
                                  refine rl_off (met_off rfl rfl rfl rfl rfl) rfl rfl ?_
                                  refine rl_off (met_off rfl rfl rfl rfl rfl) rfl rfl ?_
                                  refine rl_off (met_off rfl rfl rfl rfl rfl) rfl rfl ?_
                                  refine xV rfl rfl rfl (v_pick_false rfl rfl) ?_
                                  refine rl_nil (g_le (xK (xK (xK (xK (xK (xK (xK (xK (Fr.le_refl _))))))))) ?_)
                                  refine g_cond_false rfl ?_
                                  refine g_skip ?_
                                  refine g_region ?_
                                  refine xV rfl rfl rfl (v_fieldAddr0 T.fld_40_0_0 rfl) ?_
                                  refine rl_v rfl rfl rfl (by exact sat_cell hw (by (repeat first | with_reducible exact xH | apply xT); first | done | fail) rfl) (v_load T.scal_9 rfl) ?_
                                  refine xV rfl rfl rfl (v_assign rfl) ?_
                                  refine xV rfl rfl rfl (v_assign rfl) ?_
                                  refine rl_nil (g_le (xK (xK (xK (xK (Fr.le_refl _))))) ?_)
                                  refine g_inBlock ?_
                                  refine g_region ?_
                                  refine xV rfl rfl rfl (v_add rfl rfl (by omega)) ?_
                                  refine xV rfl rfl rfl (v_move rfl) ?_
                                  refine rl_nil (g_le (xK (xK (Fr.le_refl _))) ?_)
                                  exact g_le (by repeat (first | exact Fr.le_nil _ | refine Fr.le_cons rfl ?_)) (ih3 (j + 1, e.name, true) w ⟨by simp only; omega, by dsimp only; rw [hte, ← List.append_assoc, lastF_snoc], by dsimp only; rw [hte, ← List.append_assoc]; simp; omega, hw.xQ⟩ (by simp only; omega))
                          · try with_reducible exact tf_elim h7
                            all_goals
                              try replace h7 := of_decide_eq_false h7
                              refine g_exit rfl (g_inBlock ?_)
                              refine g_region ?_
                              refine xV rfl rfl rfl (v_add rfl rfl (by omega)) ?_
                              refine xV rfl rfl rfl (v_move rfl) ?_
                              refine rl_nil (g_le (xK (xK (Fr.le_refl _))) ?_)
                              have hj0 : x.node.entries.take j = x.node.entries := List.take_of_length_le (by omega)
                              rw [hj0, ← hpre] at hla2 hsm2
                              exact g_le (by repeat (first | exact Fr.le_nil _ | refine Fr.le_cons rfl ?_)) (ih (i + 1, last2, sm2, wv3, p.subs ++ rest) w ⟨by simp only; omega, hdr2, hla2, hsm2, hpok2, fun _ => hpt2, fun h => absurd h (by simp), by dsimp only; rw [ewn]; exact hw.xQ⟩ (by simp only; omega))
                      · try with_reducible exact tf_elim g16_7
                        all_goals
                          try replace g16_7 := of_decide_eq_false g16_7
                          refine rl_off (met_off rfl rfl rfl rfl rfl) rfl rfl ?_
                          refine rl_off (met_off rfl rfl rfl rfl rfl) rfl rfl ?_
                          refine rl_off (met_off rfl rfl rfl rfl rfl) rfl rfl ?_
                          refine rl_off (met_off rfl rfl rfl rfl rfl) rfl rfl ?_
                          refine rl_off (met_off rfl rfl rfl rfl rfl) rfl rfl ?_
                          refine rl_vg (met_on rfl rfl rfl rfl) rfl rfl (S := fun _ => True) trivial (v_pick_false rfl rfl) ?_
                          refine xV rfl rfl rfl (v_pick_false rfl rfl) ?_
                          refine rl_nil (g_le (xK (xK (xK (xK (xK (xK (xK (xK (xK (xK (xK (xK (xK (xK (xK (xK (xK (Fr.le_refl _)))))))))))))))))) ?_)
                          refine g_cond_false rfl ?_
                          refine g_skip (g_seq ?_)
                          refine g_region ?_
                          refine xV rfl rfl rfl (v_fieldAddr0 T.fld_86_2_5 rfl) ?_
                          refine xV rfl rfl rfl (v_fieldAddr T.fld_84_1_1 rfl) ?_
                          refine rl_v rfl rfl rfl (by exact sat_cell hw (by (repeat first | with_reducible exact xH | apply xT); first | done | fail) rfl) (v_load T.scal_33 rfl) ?_
                          refine xV rfl rfl rfl (v_lenSlice T.sl_33_40_2 rfl) ?_
                          refine xV rfl rfl rfl (v_move rfl) ?_
                          refine rl_nil (g_le (xK (xK (xK (xK (xK (Fr.le_refl _)))))) ?_)
                          refine g_block ?_
                          refine g_loopC (σ := Nat × ByteArray × Bool) (fun C x => (81, .int .i64 (x.1 : Nat)) :: (5, .string x.2.1) :: (6, .bool x.2.2) :: C) [(1, _), (4, _), (7, _), (8, _), (9, _), (11, _), (14, _), (15, _), (16, _), (17, _), (18, _), (19, _), (20, _), (21, _), (22, _), (40, _), (41, _), (42, _), (43, _), (44, _), (45, _), (46, _), (58, _), (59, _), (60, _), (61, _), (62, _), (63, _), (64, _), (65, _), (66, _), (67, _), (68, _), (69, _), (70, _), (71, _), (72, _), (73, _), (74, _), (75, _), (76, _), (77, _), (78, _), (79, _), (80, _)] (by repeat (first | exact Fr.le_nil _ | refine Fr.le_cons rfl ?_)) (fun z w => z.1 ≤ x.node.entries.length ∧ z.2.1 = lastF (preF now i ++ x.node.entries.take z.1) ∧ z.2.2 = decide (0 < (preF now i ++ x.node.entries.take z.1).length) ∧ Sat E w (OwnSl 104 5 wv3 (p.subs ++ rest).length (((p.subs ++ rest).map Pd.kid).reverse.flatMap Kd.cells) :: pt bk5_3 (.cells [.int .i64 x.deep, .int .u64 x.ref.key, .int .i64 x.ref.seg, .int .i64 x.ref.off, .int .i64 x.ref.len, .bool x.node.leaf, .slice xa x.node.entries.length xc, .slice xk x.node.kids.length xkc].toArray 86 (0, 0)) :: RO g :: L)) (fun z => x.node.entries.length - z.1) ?_ (0, last, sm) (by repeat (first | exact Fr.le_nil _ | refine Fr.le_cons rfl ?_)) ⟨by simp, by simpa using hla, by simpa using hsm, hw.xQ⟩
                          rintro ⟨j, last2, sm2⟩ w ⟨hj1, hla2, hsm2, hw⟩ ih3
                          dsimp only at hj1 hla2 hsm2 hw ih3 ⊢
                          refine g_seq ?_
                          refine g_region ?_
                          refine xV rfl rfl rfl (v_lss rfl rfl) ?_
                          refine rl_nil (g_le (xK (Fr.le_refl _)) ?_)
                          refine g_seq ?_
                          refine g_cond rfl (fun h7 => ?_) (fun h7 => ?_)
                          · try with_reducible exact ft_elim h7
                            all_goals
                              try replace h7 := of_decide_eq_true h7
                              refine g_skip (g_seq (g_block (g_seq ?_)))
                              have hz := hw
                              clear hw
                              obtain ⟨b8, o8, e, ecs, rfl, he, hat8, hl8, her⟩ := ge (j : Nat) (by omega) (by omega)
                              rw [Int.toNat_natCast] at he hat8
                              obtain ⟨va, vn, vc, rfl, her⟩ := en_told her
                              have hte : x.node.entries.take (j + 1) = x.node.entries.take j ++ [e] := by rw [List.take_add_one, he]; rfl
                              have hlt : sm2 = true → sl last2 e.name = true := by
                                intro hp
                                rw [hsm2] at hp
                                have hp := of_decide_eq_true hp
                                obtain ⟨h9, h8⟩ := List.getElem?_eq_some_iff.1 he
                                have hs := hsrt
                                rw [← List.take_append_drop j x.node.entries, List.drop_eq_getElem_cons h9, h8, List.append_assoc, ← List.append_assoc, List.cons_append] at hs
                                rw [hla2]
                                exact lastF_lt hs hp
                              have hw := hz
                              refine g_region ?_
                              refine xV rfl rfl rfl (v_indexAddr T.sl_33_40_2 rfl rfl (by omega) (by omega)) ?_
                              refine rl_v rfl rfl rfl (by exact ro_ats hw (by (repeat first | with_reducible exact xH | apply xT); first | done | fail) (by assumption)) (v_loadAgg (vs := [_, _]) T.agg_40_2 rfl rfl) ?_
                              refine rl_k rfl (k_alloc hw T.zero_40 rfl rfl (fun bk20_2 w hw => ?_))
                              refine rl_k rfl (k_storeWhole hw T.agg_40_2 rfl rfl (by simp [Value.oneCell']) rfl (by (repeat first | with_reducible exact xH | apply xT); first | done | fail) rfl (fun w hw => ?_))
                              refine rl_nil (g_le (xK (xK (xK (Fr.le_refl _)))) ?_)
                              refine g_seq (g_seq ?_)
                              refine g_region ?_
                              refine xV rfl rfl rfl (v_move rfl) ?_
                              refine xV rfl rfl rfl (v_move rfl) ?_
                              refine rl_split (s := 86) rfl (fun g21_1 => ?_) (fun g21_1 => ?_)
                              · try with_reducible exact ft_elim g21_1
                                all_goals
                                  try replace g21_1 := of_decide_eq_true g21_1
                                  refine rl_vg (met_on rfl rfl rfl rfl) rfl rfl (S := fun _ => True) trivial (v_fieldAddr0 T.fld_40_0_0 rfl) ?_
                                  refine rl_vg (met_on rfl rfl rfl rfl) rfl rfl (by exact sat_cell hw (by (repeat first | with_reducible exact xH | apply xT); first | done | fail) rfl) (v_load T.scal_9 rfl) ?_
                                  refine rl_vg (met_on rfl rfl rfl rfl) rfl rfl (S := fun _ => True) trivial (v_move rfl) ?_
                                  refine rl_vg (met_on rfl rfl rfl rfl) rfl rfl (S := fun _ => True) trivial (v_leqStr rfl rfl) ?_
                                  refine xV rfl rfl rfl (v_pick_true rfl rfl) ?_
                                  refine rl_nil (g_le (xK (xK (xK (xK (xK (xK (xK (xK (Fr.le_refl _))))))))) ?_)
                                  refine g_cond rfl (fun h8 => ?_) (fun h8 => ?_)
                                  · try with_reducible exact ft_elim h8
                                    all_goals
                                      try replace h8 := of_decide_eq_true h8
                                      rw [hlt g21_1] at h8; simp at h8
                                  · try with_reducible exact tf_elim h8
                                    all_goals
                                      try replace h8 := of_decide_eq_false h8
                                      refine g_skip ?_
                                      refine g_region ?_
                                      refine xV rfl rfl rfl (v_fieldAddr0 T.fld_40_0_0 rfl) ?_
                                      refine rl_v rfl rfl rfl (by exact sat_cell hw (by (repeat first | with_reducible exact xH | apply xT); first | done | fail) rfl) (v_load T.scal_9 rfl) ?_
                                      refine xV rfl rfl rfl (v_assign rfl) ?_
                                      refine xV rfl rfl rfl (v_assign rfl) ?_
                                      refine rl_nil (g_le (xK (xK (xK (xK (Fr.le_refl _))))) ?_)
                                      refine g_inBlock ?_
                                      refine g_region ?_
                                      refine xV rfl rfl rfl (v_add rfl rfl (by omega)) ?_
                                      refine xV rfl rfl rfl (v_move rfl) ?_
                                      refine rl_nil (g_le (xK (xK (Fr.le_refl _))) ?_)
                                      exact g_le (by repeat (first | exact Fr.le_nil _ | refine Fr.le_cons rfl ?_)) (ih3 (j + 1, e.name, true) w ⟨by simp only; omega, by dsimp only; rw [hte, ← List.append_assoc, lastF_snoc], by dsimp only; rw [hte, ← List.append_assoc]; simp; omega, hw.xQ⟩ (by simp only; omega))
                              · try with_reducible exact tf_elim g21_1
                                all_goals
                                  try replace g21_1 := of_decide_eq_false g21_1
                                  refine rl_off (met_off rfl rfl rfl rfl rfl) rfl rfl ?_
                                  refine rl_off (met_off rfl rfl rfl rfl rfl) rfl rfl ?_
                                  refine rl_off (met_off rfl rfl rfl rfl rfl) rfl rfl ?_
                                  refine rl_off (met_off rfl rfl rfl rfl rfl) rfl rfl ?_
                                  refine xV rfl rfl rfl (v_pick_false rfl rfl) ?_
                                  refine rl_nil (g_le (xK (xK (xK (xK (xK (xK (xK (xK (Fr.le_refl _))))))))) ?_)
                                  refine g_cond_false rfl ?_
                                  refine g_skip ?_
                                  refine g_region ?_
                                  refine xV rfl rfl rfl (v_fieldAddr0 T.fld_40_0_0 rfl) ?_
                                  refine rl_v rfl rfl rfl (by exact sat_cell hw (by (repeat first | with_reducible exact xH | apply xT); first | done | fail) rfl) (v_load T.scal_9 rfl) ?_
                                  refine xV rfl rfl rfl (v_assign rfl) ?_
                                  refine xV rfl rfl rfl (v_assign rfl) ?_
                                  refine rl_nil (g_le (xK (xK (xK (xK (Fr.le_refl _))))) ?_)
                                  refine g_inBlock ?_
                                  refine g_region ?_
                                  refine xV rfl rfl rfl (v_add rfl rfl (by omega)) ?_
                                  refine xV rfl rfl rfl (v_move rfl) ?_
                                  refine rl_nil (g_le (xK (xK (Fr.le_refl _))) ?_)
                                  exact g_le (by repeat (first | exact Fr.le_nil _ | refine Fr.le_cons rfl ?_)) (ih3 (j + 1, e.name, true) w ⟨by simp only; omega, by dsimp only; rw [hte, ← List.append_assoc, lastF_snoc], by dsimp only; rw [hte, ← List.append_assoc]; simp; omega, hw.xQ⟩ (by simp only; omega))
                          · try with_reducible exact tf_elim h7
                            all_goals
                              try replace h7 := of_decide_eq_false h7
                              refine g_exit rfl (g_inBlock ?_)
                              refine g_region ?_
                              refine xV rfl rfl rfl (v_add rfl rfl (by omega)) ?_
                              refine xV rfl rfl rfl (v_move rfl) ?_
                              refine rl_nil (g_le (xK (xK (Fr.le_refl _))) ?_)
                              have hj0 : x.node.entries.take j = x.node.entries := List.take_of_length_le (by omega)
                              rw [hj0, ← hpre] at hla2 hsm2
                              exact g_le (by repeat (first | exact Fr.le_nil _ | refine Fr.le_cons rfl ?_)) (ih (i + 1, last2, sm2, wv3, p.subs ++ rest) w ⟨by simp only; omega, hdr2, hla2, hsm2, hpok2, fun _ => hpt2, fun h => absurd h (by simp), by dsimp only; rw [ewn]; exact hw.xQ⟩ (by simp only; omega))
      · intro joinc2
        refine g_cond rfl (fun h2 => ?_) (fun h2 => ?_)
        · try with_reducible exact ft_elim h2
          all_goals
            try replace h2 := of_decide_eq_true h2
            refine g_seq ?_
            have hi0 : ¬ i = 0 := by omega
            have ew : waitOf i (p :: rest) = p :: rest := by unfold waitOf; rw [if_neg hi0]
            rw [ew] at hw hwa hwc1 ⊢
            simp only [List.map_cons, List.reverse_cons, List.length_cons] at hw hwa hwc1 ⊢
            have hz := hw
            clear hw
            obtain ⟨wb, rfl⟩ := hwa (by omega)
            have hsubk := subAt_flat (f := Kd.cells) (sz := 5) (fun _ => rfl) (show ((rest.map Pd.kid).reverse ++ [p.kid])[rest.length]? = some p.kid by rw [List.getElem?_append_right (by simp)]; simp)
            have eix : (((rest.length + 1 : Nat) : Int) - 1) = ((rest.length : Nat) : Int) := by omega
            have hw := hz
            refine g_region ?_
            refine xV rfl rfl rfl (v_move rfl) ?_
            refine xV rfl rfl rfl (v_move rfl) ?_
            refine xV rfl rfl rfl (v_lenSlice T.sl_82_104_5 rfl) ?_
            refine xV rfl rfl rfl (v_sub rfl rfl (by omega)) ?_
            rw [eix]
            refine xV rfl rfl rfl (v_indexAddr T.sl_82_104_5 rfl rfl (by omega) (by omega)) ?_
            refine xV rfl rfl rfl (v_fieldAddr T.fld_104_0_0 rfl) ?_
            refine rl_v rfl rfl rfl (by exact own_at0 hw (by (repeat first | with_reducible exact xH | apply xT); first | done | fail) (by assumption) rfl) (v_load T.scal_9 rfl) ?_
            refine xV rfl rfl rfl (v_assign rfl) ?_
            refine rl_nil (g_le (xK (xK (xK (xK (xK (xK (xK (xK (Fr.le_refl _))))))))) ?_)
            refine g_seq ?_
            refine g_region ?_
            refine xV rfl rfl rfl (v_move rfl) ?_
            refine xV rfl rfl rfl (v_move rfl) ?_
            refine xV rfl rfl rfl (v_lenSlice T.sl_82_104_5 rfl) ?_
            refine xV rfl rfl rfl (v_sub rfl rfl (by omega)) ?_
            rw [eix]
            refine xV rfl rfl rfl (v_sliceTo T.sl_82_104_5 rfl rfl (by omega) (by omega)) ?_
            refine xV rfl rfl rfl (v_assign rfl) ?_
            refine rl_nil (g_le (xK (xK (xK (xK (xK (xK (Fr.le_refl _))))))) ?_)
            refine g_seq ?_
            refine g_region ?_
            refine xV rfl rfl rfl (v_fieldAddr0 T.fld_86_2_5 rfl) ?_
            refine rl_v rfl rfl rfl (by exact sat_cells hw (by (repeat first | with_reducible exact xH | apply xT); first | done | fail) ⟨rfl, rfl, rfl, trivial⟩) (v_loadAgg (vs := [_, _, _]) T.agg_84_3 rfl rfl) ?_
            refine rl_k rfl (k_callf Try.func57 rfl rfl rfl rfl ?_)
            refine Calls.mono (low_calls hndx (hw.xQ)) ?_
            rintro _ w ⟨rfl, hw⟩
            refine ⟨_, rfl, ?_⟩
            refine xV rfl rfl rfl (v_move rfl) ?_
            refine xV rfl rfl rfl (v_neqStrF rfl rfl (by first | rfl | assumption)) ?_
            refine rl_nil (g_le (xK (xK (xK (xK (xK (Fr.le_refl _)))))) ?_)
            refine g_cond rfl (fun h3 => ?_) (fun h3 => ?_)
            · try with_reducible exact ft_elim h3
              all_goals
                try replace h3 := of_decide_eq_true h3
                rw [hlow] at h3; simp at h3
            · try with_reducible exact tf_elim h3
              all_goals
                try replace h3 := of_decide_eq_false h3
                refine g_skip ?_
                have hq := (hw.xP (A := OwnSl 104 5 (.slice (some ⟨wb, 0, none⟩) (rest.length + 1) wc) (rest.length + 1) (((rest.map Pd.kid).reverse ++ [p.kid]).flatMap Kd.cells))).own_take (j := rest.length) (by omega)
                have htk := take_kids (rest.map Pd.kid).reverse p.kid
                rw [List.length_reverse, List.length_map] at htk
                rw [htk] at hq
                exact joinc2 (.slice (some ⟨wb, 0, none⟩) rest.length wc) w _ (by repeat (first | exact Fr.le_nil _ | refine Fr.le_cons rfl ?_)) (hq.xQ)
        · try with_reducible exact tf_elim h2
          all_goals
            try replace h2 := of_decide_eq_false h2
            refine g_skip ?_
            have hr0 : rest = [] := List.eq_nil_of_length_eq_zero (by have := hp1 (by omega); omega)
            have ew : waitOf i (p :: rest) = rest := by unfold waitOf; rw [if_pos (by omega), hr0]
            rw [ew] at hw hwc1 ⊢
            exact joinc2 _ w _ (by repeat (first | exact Fr.le_nil _ | refine Fr.le_cons rfl ?_)) (hw.xQ)
  · try with_reducible exact tf_elim h1
    all_goals
      try replace h1 := of_decide_eq_false h1
      refine g_exit rfl (g_seq ?_)
      refine g_region ?_
      refine xV rfl rfl rfl (v_assign rfl) ?_
      refine rl_nil (g_le (xK (Fr.le_refl _)) ?_)
      refine g_ret1 Try.func40 rfl rfl ?_
      exact ⟨rfl, hw.xQ⟩
end Go.Proofs.Ytdiocmjhencbpaa
