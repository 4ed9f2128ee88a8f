/-
  Calls at whole trees in memory.
-/
import Derived.Test.YtmbngahboaljpaaH09
import Derived.Test.YtmbngahboaljpaaT07g
namespace Go.Proofs.Ytmbngahboaljpaa
set_option maxRecDepth 8000
set_option linter.unusedSimpArgs false
set_option linter.unusedVariables false
open Go Xe
theorem op7_told {g : Hp} {ecs : List Value} {o : Op7} (h : rdOp7 g ecs o) : ∃ sa sn sc, ecs = [.int .i64 o.do_, .string o.name, .string o.value, .slice sa sn sc, .int .i64 o.back] ∧ o.name.size ≤ reachBytes ∧ o.value.size ≤ reachBytes ∧ (rdSl 8 1 (rdInt .i64)) g [.slice sa sn sc] o.segs ∧ (Lit.int .i64 o.do_).wf = true ∧ (Lit.int .i64 o.back).wf = true := by
  obtain ⟨c0, c1, c2, c3, c4, rfl, ⟨h0, w0⟩, ⟨h1, w1⟩, ⟨h2, w2⟩, h3, ⟨h4, w4⟩⟩ := h
  simp only [List.cons.injEq, and_true] at h0 h1 h2 h4
  subst h0 h1 h2 h4
  obtain ⟨sa, sn, sc, rfl⟩ : ∃ sa sn sc, c3 = .slice sa sn sc := by
    rcases h3 with ⟨a, h, _⟩ | ⟨b, o, c, h, _⟩
    · simp only [List.cons.injEq, and_true] at h; exact ⟨_, _, _, h⟩
    · simp only [List.cons.injEq, and_true] at h; exact ⟨_, _, _, h⟩
  exact ⟨sa, sn, sc, rfl, w1, w2, h3, w0, w4⟩
theorem sec_ok {v : ByteArray} (h : v.size ≤ reachBytes) : (⟨1, v, ByteArray.empty⟩ : Vn).ok := ⟨show (Lit.int .i64 1).wf = true by decide, h, show ByteArray.empty.size ≤ reachBytes by decide⟩
def secO (o : Op7) : En := ⟨o.name, [⟨1, o.value, ByteArray.empty⟩]⟩
theorem secret_calls {E : Env} {w : World} {L : List As} {d b : Int} {name value : ByteArray} {sv : Value} (hw : Sat E w L) (hone : sv.oneCell' = true) :
    Calls Try.prog 19 #[.agg #[.int .i64 d, .string name, .string value, sv, .int .i64 b]] w fun e w' => ∃ vb, e = .returned (.agg #[.string name, .slice (some ⟨vb, 0, none⟩) 1 1]) ∧ Sat E w' (pt vb (.cells (⟨1, value, ByteArray.empty⟩ : Vn).cells.toArray 53 (0, 0)) :: L) := by
  refine calls_of_g (n := 10) Try.func19 rfl rfl rfl ?_
  change G _ _ _ _ _ [(0, _)] _
  refine g_seq ?_
  refine g_region ?_
  refine rl_k rfl (k_box hw rfl rfl rfl (fun bk0_0 w hw => ?_))
  refine rl_k rfl (k_alloc hw T.zero_49 rfl rfl (fun bk0_1 w hw => ?_))
  refine rl_nil (g_le (xK (xK (Fr.le_refl _))) ?_)
  refine g_seq ?_
  refine g_region ?_
  refine xV rfl rfl rfl (v_fieldAddr0 T.fld_46_1_1 rfl) ?_
  refine rl_v rfl rfl rfl (by exact sat_cell hw (by (repeat first | with_reducible exact xH | apply xT); first | done | fail) rfl) (v_load T.scal_9 rfl) ?_
  refine xV rfl rfl rfl (v_fieldAddr0 T.fld_46_2_2 rfl) ?_
  refine rl_v rfl rfl rfl (by exact sat_cell hw (by (repeat first | with_reducible exact xH | apply xT); first | done | fail) rfl) (v_load T.scal_9 rfl) ?_
  refine xV rfl rfl rfl (v_build rfl (T.build_53_0_1 ..)) ?_
  refine rl_k rfl (k_buildSlice (cells := [_, _, _]) hw T.sl_47_53_3 T.zero_53 rfl rfl rfl rfl rfl rfl (fun bk1_5 w hw => ?_))
  refine xV rfl rfl rfl (v_build rfl (T.build_49_0_1 ..)) ?_
  refine rl_k rfl (k_storeWhole hw T.agg_49_2 rfl rfl (by simp [Value.oneCell']) rfl (by (repeat first | with_reducible exact xH | apply xT); first | done | fail) rfl (fun w hw => ?_))
  refine rl_nil (g_le (xS rfl (xS rfl (xS rfl (xS rfl (xS rfl (xS rfl (xS rfl (Fr.le_refl _)))))))) ?_)
  refine g_resC Try.func19 rfl ⟨_, rfl, holds_agg (vs := [_, _]) T.agg_49_2 rfl (by exact sat_cells hw (by (repeat first | with_reducible exact xH | apply xT); first | done | fail) ⟨rfl, rfl, trivial⟩)⟩ ?_
  exact ⟨_, rfl, hw.xQ⟩
theorem tempty_calls {E : Env} {w : World} {L : List As} {g : Hp} {h : Nat} {A : As} (hI : HeapI h g [] A) (hw : Sat E w (A :: RO g :: L)) :
    Calls Try.prog 17 #[.iface 26 (.pointer (some ⟨h, 0, none⟩))] w fun v w' => ∃ g' A', g.le g' ∧ HeapI h g' [nodeU 0 ([] : List En)] A' ∧ v = .returned (.tuple #[.agg (refO 0).cells.toArray, .int .i64 0]) ∧ TreeAt [nodeU 0 ([] : List En)] (refO 0) 0 ([] : List En) ∧ (refO 0).ok ∧ Sat E w' (A' :: RO g' :: L) := by
  have e1 : wrH [] ⟨true, [], []⟩ = (refO 0, 0, [nodeU 0 ([] : List En)]) := by unfold wrH; rw [if_neg (by simp)]; rfl
  refine Calls.mono (Empty_calls (heapPg h) hI hw) ?_
  rw [show (heapPg h).ops = heapO from rfl]
  simp only [e1]
  rintro _ w ⟨g1, A1, hg1, hI1, rfl, hok, hw⟩
  exact ⟨g1, A1, hg1, hI1, rfl, ⟨pageAt_mk (i := 0) rfl, trivial, trivial, List.Pairwise.nil, Nat.zero_le _, .inl rfl⟩, hok, hw⟩
theorem tall_calls {E : Env} {w : World} {L : List As} {g : Hp} {h : Nat} {s : List Nd} {A : As} {root : Rf} {hh : Nat} {u : Un hh} (t : TreeAt s root hh u) (h8 : hh < 8) (hr : root.ok) (hI : HeapI h g s A) (hw : Sat E w (A :: RO g :: L)) :
    Calls Try.prog 23 #[.iface 26 (.pointer (some ⟨h, 0, none⟩)), .agg root.cells.toArray] w fun v w' => ∃ g' A' la lc, g.le g' ∧ HeapI h g' s A' ∧ v = .returned (.tuple #[.slice la (seenU hh 1 root u).length lc, .int .i64 0]) ∧ (rdSl 96 8 rdSn) g' [.slice la (seenU hh 1 root u).length lc] (seenU hh 1 root u) ∧ Sat E w' (A' :: RO g' :: L) := by
  refine Calls.mono (All_calls (heapPg h) (s := s) root hr hI hw) ?_
  rw [show (heapPg h).ops = heapO from rfl, all_tree t h8]
  dsimp only
  rintro _ w ⟨g1, A1, lv, hg1, hI1, rfl, _, _, hgd⟩
  obtain ⟨ts, hln, hgood, hw⟩ := hgd rfl
  obtain ⟨la, lc, rfl, _, _, _⟩ := hw.own_shape
  obtain ⟨g2, hg2, hsn, hw⟩ := sns_freeze (fun x hx => ⟨hgood x hx, seen_wf h8 x hx⟩) hln (hw.xQ : Sat E w (RO g1 :: OwnSl 61 8 (.slice la (seenU hh 1 root u).length lc) (seenU hh 1 root u).length (snCells (seenU hh 1 root u) ts) :: eachOf NdOf ts (seenU hh 1 root u) :: A1 :: L))
  exact ⟨g2, A1, la, lc, hg1.trans hg2, HeapI.mono hg2 hI1, rfl, hsn, hw.xQ⟩
theorem tput_calls {E : Env} {w : World} {L : List As} {g : Hp} {h : Nat} {s : List Nd} {A : As} {root : Rf} {hh : Nat} {u : Un hh} {e : En} {ecs : List Value} (hecs : rdEn g ecs e) (t : TreeAt s root hh u) (hn : (entsU hh u).length < 255) (hb : s.length + 17 ≤ 20000) (hr : root.ok) (hI : HeapI h g s A) (hw : Sat E w (A :: RO g :: L)) :
    Calls Try.prog 20 #[.iface 26 (.pointer (some ⟨h, 0, none⟩)), .agg root.cells.toArray, .agg ecs.toArray] w fun v w' => ∃ g' A' s' root' h' u', g.le g' ∧ HeapI h g' s' A' ∧ v = .returned (.tuple #[.agg root'.cells.toArray, .int .i64 0]) ∧ root'.ok ∧ StepR s root hh u (insE (entsU hh u) e) (2 * hh + 3) s' root' h' u' ∧ (h' = hh ∨ h' = hh + 1) ∧ hh < 7 ∧ Sat E w' (A' :: RO g' :: L) := by
  obtain ⟨s', root', h', u', h1, h2, h3, h4⟩ := step_put e t hn hb
  refine Calls.mono (Put_calls (heapPg h) (s := s) root hr hecs hI hw) ?_
  rw [show (heapPg h).ops = heapO from rfl, h1]
  dsimp only
  rintro _ w ⟨g1, A1, hg1, hI1, rfl, hok, hw⟩
  exact ⟨g1, A1, s', root', h', u', hg1, hI1, rfl, hok, h2, h3, h4, hw⟩
theorem tdel_calls {E : Env} {w : World} {L : List As} {g : Hp} {h : Nat} {s : List Nd} {A : As} {root : Rf} {hh : Nat} {u : Un hh} (name : ByteArray) (t : TreeAt s root hh u) (hn : (entsU hh u).length < 255) (hb : s.length + 17 ≤ 20000) (hr : root.ok) (hI : HeapI h g s A) (hw : Sat E w (A :: RO g :: L)) :
    Calls Try.prog 30 #[.iface 26 (.pointer (some ⟨h, 0, none⟩)), .agg root.cells.toArray, .string name] w fun v w' => ∃ g' A' b s' root' h' u', g.le g' ∧ HeapI h g' s' A' ∧ v = .returned (.tuple #[.agg root'.cells.toArray, .bool b, .int .i64 0]) ∧ root'.ok ∧ StepR s root hh u (delE (entsU hh u) name) (2 * hh + 2) s' root' h' u' ∧ (h' = hh ∨ hh = h' + 1) ∧ hh < 7 ∧ (b = true ↔ ∃ e ∈ entsU hh u, e.name = name) ∧ (b = false → s' = s ∧ root' = root ∧ h' = hh) ∧ Sat E w' (A' :: RO g' :: L) := by
  obtain ⟨b, s', root', h', u', h1, h2, h3, h4, h5, h6⟩ := step_del name t hn hb
  refine Calls.mono (Delete_calls (heapPg h) (s := s) root hr name hI hw) ?_
  rw [show (heapPg h).ops = heapO from rfl, h1]
  dsimp only
  rintro _ w ⟨g1, A1, hg1, hI1, rfl, hok, hw⟩
  exact ⟨g1, A1, b, s', root', h', u', hg1, hI1, rfl, hok, h2, h3, h4, h5, h6, hw⟩
theorem tget_calls {E : Env} {w : World} {L : List As} {g : Hp} {h : Nat} {s : List Nd} {A : As} {root : Rf} {hh : Nat} {u : Un hh} (name : ByteArray) (t : TreeAt s root hh u) (h8 : hh < 8) (hr : root.ok) (hI : HeapI h g s A) (hw : Sat E w (A :: RO g :: L)) :
    Calls Try.prog 22 #[.iface 26 (.pointer (some ⟨h, 0, none⟩)), .agg root.cells.toArray, .string name] w fun v w' => ∃ g' A' vv, g.le g' ∧ HeapI h g' s A' ∧ v = .returned (.tuple #[.agg #[.string ((findE (entsU hh u) name).getD en0).name, vv], .bool (findE (entsU hh u) name).isSome, .int .i64 0]) ∧ ((findE (entsU hh u) name).getD en0).fine ∧ Sat E w' (VnsAt vv ((findE (entsU hh u) name).getD en0).versions :: A' :: RO g' :: L) := by
  refine Calls.mono (Get_calls (heapPg h) (s := s) root hr name hI hw) ?_
  rw [show (heapPg h).ops = heapO from rfl, get_tree name t h8]
  cases hf : findE (entsU hh u) name with
  | none => exact fun _ w hh => hh
  | some e => exact fun _ w hh => hh
theorem tmove_calls {E : Env} {w : World} {L : List As} {g : Hp} {h : Nat} {s : List Nd} {A : As} {root : Rf} {hh : Nat} {u : Un hh} {segs : List Int} {sa : Option Addr} {sn sc : Nat} (hsegs : (rdSl 8 1 (rdInt .i64)) g [.slice sa sn sc] segs) (t : TreeAt s root hh u) (h8 : hh < 8) (hb : s.length + (pagesU hh u).length + 1 ≤ 20000) (hr : root.ok) (hI : HeapI h g s A) (hw : Sat E w (A :: RO g :: L)) :
    Calls Try.prog 26 #[.iface 26 (.pointer (some ⟨h, 0, none⟩)), .agg root.cells.toArray, .slice sa sn sc] w fun v w' => ∃ g' A' s' root' n u', g.le g' ∧ HeapI h g' s' A' ∧ v = .returned (.tuple #[.agg root'.cells.toArray, .int .i64 (n : Nat), .int .i64 0]) ∧ root'.ok ∧ MoveR s segs hh root u root' u' n s' ∧ TreeAt s' root' hh u' ∧ Sat E w' (A' :: RO g' :: L) := by
  obtain ⟨root', n, u', s', h1, h2, _⟩ := move_spec segs hh h8 t.pg t.laid t.ok (t.two.imp id (by omega)) hb
  refine Calls.mono (Move_calls (heapPg h) (s := s) root hr hsegs hI hw) ?_
  rw [show (heapPg h).ops = heapO from rfl, h1]
  dsimp only
  rintro _ w ⟨g1, A1, hg1, hI1, rfl, hok, hw⟩
  exact ⟨g1, A1, s', root', n, u', hg1, hI1, rfl, hok, h2, ⟨h2.pg, h2.laid, h2.ok, by rw [h2.ents]; exact t.srt, by rw [h2.sz]; exact t.most, t.two.imp id (by rw [h2.sz]; exact id)⟩, hw⟩
end Go.Proofs.Ytmbngahboaljpaa
