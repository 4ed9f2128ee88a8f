/-
  Pages on a log (layer 16): what they hold; Write.
-/
import Derived.Test.YtlgpdglnfjndhaaP17
namespace Go.Proofs.Ytlgpdglnfjndhaa
set_option maxRecDepth 8000
set_option linter.unusedSimpArgs false
set_option linter.unusedVariables false
open Go Xe Go.Lib
/-- What pages hold: the log, the medium, the power, the draws, the cache. -/
structure PS where
  o : Int
  ss : List Sg
  md : Md
  pw : Pw
  list : List Int
  tk : Nat
  ch : Ch
structure PN where
  l : Nat
  c : Nat
  d : Nat
  m : Nat
  p : Nat
  b : Nat
  k : Nat
  lv : Value
  dv : Value
  cells : List Value
def PgA (pp : Nat) (q : Qt) (S : PS) (g : Hp) : As := ex fun a : PN => pu (Els rdHd 8 g a.cells S.ch.l) (stars (PgsAt pp (a : PN).l (a).c (a).d q :: pt (a).l (.cells [Value.pointer (some ⟨(a).m, 0, none⟩), .int .i64 ((S : PS).o), .slice (some ⟨(a).b, 0, none⟩) (((S).ss) : List Sg).length (a).k].toArray 39 (0, 0)) :: OwnSl 108 3 (.slice (some ⟨(a).b, 0, none⟩) (((S).ss)).length (a).k) (((S).ss)).length ((((S).ss)).flatMap Sg.cells) :: MdAt (a).m (a).p (S).md :: PwAt (a).p (S).pw :: pt (a).c (.cells [Value.int .i64 (((S).ch) : Ch).room, (a).lv, .int .i64 (((S).ch) : Ch).hits, .int .i64 (((S).ch) : Ch).misses].toArray 104 (0, 0)) :: OwnSl 119 8 (a).lv (((S).ch) : Ch).l.length (a).cells :: pt (a).d (.cells [(a).dv, .int .i64 (((S).tk : Nat) : Int)].toArray 89 (0, 0)) :: OwnSl 49 1 (a).dv ((S).list : List Int).length (((S).list).map (Value.int .u64)) :: []))
theorem pg_open {E : Env} {w : World} {L : List As} {pp : Nat} {q : Qt} {S : PS} {g : Hp} (h : Sat E w (PgA pp q S g :: L)) : ∃ a : PN, Els rdHd 8 g a.cells S.ch.l ∧ Sat E w (PgsAt pp (a : PN).l (a).c (a).d q :: pt (a).l (.cells [Value.pointer (some ⟨(a).m, 0, none⟩), .int .i64 ((S : PS).o), .slice (some ⟨(a).b, 0, none⟩) (((S).ss) : List Sg).length (a).k].toArray 39 (0, 0)) :: OwnSl 108 3 (.slice (some ⟨(a).b, 0, none⟩) (((S).ss)).length (a).k) (((S).ss)).length ((((S).ss)).flatMap Sg.cells) :: MdAt (a).m (a).p (S).md :: PwAt (a).p (S).pw :: pt (a).c (.cells [Value.int .i64 (((S).ch) : Ch).room, (a).lv, .int .i64 (((S).ch) : Ch).hits, .int .i64 (((S).ch) : Ch).misses].toArray 104 (0, 0)) :: OwnSl 119 8 (a).lv (((S).ch) : Ch).l.length (a).cells :: pt (a).d (.cells [(a).dv, .int .i64 (((S).tk : Nat) : Int)].toArray 89 (0, 0)) :: OwnSl 49 1 (a).dv ((S).list : List Int).length (((S).list).map (Value.int .u64)) :: L) := by
  obtain ⟨a, h⟩ := h.ex
  obtain ⟨h1, h⟩ := h.pu
  exact ⟨a, h1, Sat.flat (X := PgsAt pp (a : PN).l (a).c (a).d q :: pt (a).l (.cells [Value.pointer (some ⟨(a).m, 0, none⟩), .int .i64 ((S : PS).o), .slice (some ⟨(a).b, 0, none⟩) (((S).ss) : List Sg).length (a).k].toArray 39 (0, 0)) :: OwnSl 108 3 (.slice (some ⟨(a).b, 0, none⟩) (((S).ss)).length (a).k) (((S).ss)).length ((((S).ss)).flatMap Sg.cells) :: MdAt (a).m (a).p (S).md :: PwAt (a).p (S).pw :: pt (a).c (.cells [Value.int .i64 (((S).ch) : Ch).room, (a).lv, .int .i64 (((S).ch) : Ch).hits, .int .i64 (((S).ch) : Ch).misses].toArray 104 (0, 0)) :: OwnSl 119 8 (a).lv (((S).ch) : Ch).l.length (a).cells :: pt (a).d (.cells [(a).dv, .int .i64 (((S).tk : Nat) : Int)].toArray 89 (0, 0)) :: OwnSl 49 1 (a).dv ((S).list : List Int).length (((S).list).map (Value.int .u64)) :: []) h⟩
theorem pg_close {E : Env} {w : World} {L : List As} {pp : Nat} {q : Qt} {S : PS} {g : Hp} (a : PN) (h1 : Els rdHd 8 g a.cells S.ch.l) (h : Sat E w (PgsAt pp (a : PN).l (a).c (a).d q :: pt (a).l (.cells [Value.pointer (some ⟨(a).m, 0, none⟩), .int .i64 ((S : PS).o), .slice (some ⟨(a).b, 0, none⟩) (((S).ss) : List Sg).length (a).k].toArray 39 (0, 0)) :: OwnSl 108 3 (.slice (some ⟨(a).b, 0, none⟩) (((S).ss)).length (a).k) (((S).ss)).length ((((S).ss)).flatMap Sg.cells) :: MdAt (a).m (a).p (S).md :: PwAt (a).p (S).pw :: pt (a).c (.cells [Value.int .i64 (((S).ch) : Ch).room, (a).lv, .int .i64 (((S).ch) : Ch).hits, .int .i64 (((S).ch) : Ch).misses].toArray 104 (0, 0)) :: OwnSl 119 8 (a).lv (((S).ch) : Ch).l.length (a).cells :: pt (a).d (.cells [(a).dv, .int .i64 (((S).tk : Nat) : Int)].toArray 89 (0, 0)) :: OwnSl 49 1 (a).dv ((S).list : List Int).length (((S).list).map (Value.int .u64)) :: L)) : Sat E w (PgA pp q S g :: L) :=
  (Sat.mk_pu h1 (Sat.unflat (X := PgsAt pp (a : PN).l (a).c (a).d q :: pt (a).l (.cells [Value.pointer (some ⟨(a).m, 0, none⟩), .int .i64 ((S : PS).o), .slice (some ⟨(a).b, 0, none⟩) (((S).ss) : List Sg).length (a).k].toArray 39 (0, 0)) :: OwnSl 108 3 (.slice (some ⟨(a).b, 0, none⟩) (((S).ss)).length (a).k) (((S).ss)).length ((((S).ss)).flatMap Sg.cells) :: MdAt (a).m (a).p (S).md :: PwAt (a).p (S).pw :: pt (a).c (.cells [Value.int .i64 (((S).ch) : Ch).room, (a).lv, .int .i64 (((S).ch) : Ch).hits, .int .i64 (((S).ch) : Ch).misses].toArray 104 (0, 0)) :: OwnSl 119 8 (a).lv (((S).ch) : Ch).l.length (a).cells :: pt (a).d (.cells [(a).dv, .int .i64 (((S).tk : Nat) : Int)].toArray 89 (0, 0)) :: OwnSl 49 1 (a).dv ((S).list : List Int).length (((S).list).map (Value.int .u64)) :: []) h)).mk_ex a
theorem pg_mono {E : Env} {w : World} {L : List As} {pp : Nat} {q : Qt} {S : PS} {g g' : Hp} (hg : g.le g') (h : Sat E w (PgA pp q S g :: L)) : Sat E w (PgA pp q S g' :: L) := by
  obtain ⟨a, h1, h⟩ := pg_open h
  exact pg_close a (h1.mono mono_Hd hg) h
structure PS.ok (S : PS) : Prop where
  md : S.md.ok
  len : S.ss.length = S.md.segs.length
  o0 : 0 ≤ S.o
  o1 : S.o < S.ss.length
  us : ∀ x ∈ S.ss, 0 ≤ x.used ∧ x.used ≤ S.md.size
  pw : S.pw.ok
  past : S.md.past.length ≤ 4000000000
  tk : S.tk ≤ 1000000000
  ch : S.ch.l.length ≤ 100000
  dr : ∀ n ∈ S.list, U64 n
/-- What a page's bytes come to in the log. -/
def PS.app (S : PS) (q : Qt) (n : Nd) : Ap := appL S.o S.ss S.md S.pw (wrT (boxT (drawI S.list S.tk) (tmNd n)))
def PS.laid (S : PS) (r : Ap) : PS := ⟨r.o, r.ss, r.md, r.pw, S.list, S.tk + 1, S.ch⟩
def PS.ref (S : PS) (r : Ap) : Rf := ⟨drawI S.list S.tk, r.at_.1, r.at_.2.1, r.at_.2.2⟩
def PS.wr (S : PS) (q : Qt) (n : Nd) : Rf × Int × PS :=
  if rightN q n ≠ 0 then (rf0, rightN q n, S) else
  if (S.app q n).bad ≠ 0 then (rf0, (S.app q n).bad, S.laid (S.app q n)) else
  (S.ref (S.app q n), 0, { S.laid (S.app q n) with ch := (S.ch.put (S.ref (S.app q n)) n).2 })
theorem i64_wf {n : Int} (h0 : -9223372036854775808 ≤ n) (h1 : n ≤ 9223372036854775807) : (Lit.int .i64 n).wf = true := by
  have e1 : IntKind.i64.min = -9223372036854775808 := rfl
  have e2 : IntKind.i64.max = 9223372036854775807 := rfl
  simp only [Lit.wf, e1, e2, Bool.and_eq_true, decide_eq_true_eq]
  omega
theorem u64_wf' {n : Int} (h : U64 n) : (Lit.int .u64 n).wf = true := by
  have e3 : IntKind.u64.min = 0 := rfl
  have e4 : IntKind.u64.max = 18446744073709551615 := rfl
  simp only [Lit.wf, e3, e4, Bool.and_eq_true, decide_eq_true_eq]
  exact h
theorem app_at {o : Int} {ss : List Sg} {md : Md} {pw : Pw} {v : ByteArray} (hmd : md.ok) (hl : ss.length = md.segs.length) (h0 : 0 ≤ o) (h1 : o < ss.length) (hu : ∀ x ∈ ss, 0 ≤ x.used ∧ x.used ≤ md.size) :
    (0 ≤ (appL o ss md pw v).at_.1 ∧ (appL o ss md pw v).at_.1 ≤ 4096) ∧ (0 ≤ (appL o ss md pw v).at_.2.1 ∧ (appL o ss md pw v).at_.2.1 ≤ 1048576) ∧ (0 ≤ (appL o ss md pw v).at_.2.2 ∧ (appL o ss md pw v).at_.2.2 ≤ 1048576) := by
  obtain ⟨m1, m2, m3, m4, _⟩ := hmd
  have hso : 0 ≤ (sgAt ss o).used ∧ (sgAt ss o).used ≤ md.size := by
    have h2 : o.toNat < ss.length := by omega
    unfold sgAt
    rw [List.getElem?_eq_getElem h2]
    exact hu _ (List.getElem_mem h2)
  have hib := sgidx_bound (p := fun x : Sg => decide (x.kind = 1)) (l := ss) (i := 0) (by omega)
  unfold appL
  split
  · simp
  · rename_i hv
    have hv2 : (v.size : Int) ≤ md.size := by omega
    split
    · simp
    · split
      · simp
      · refine ⟨?_, ?_, by simp only; omega⟩
        · simp only [tgtL] at *
          split <;> simp_all <;> omega
        · simp only [tgtL] at *
          split <;> simp_all <;> omega
theorem ref_ok {S : PS} (h : S.ok) (v : ByteArray) : (S.ref (appL S.o S.ss S.md S.pw v)).ok := by
  obtain ⟨⟨a1, a2⟩, ⟨b1, b2⟩, c1, c2⟩ := app_at (pw := S.pw) (v := v) h.md h.len h.o0 h.o1 h.us
  exact ⟨u64_wf' (drawI_ok h.dr h.tk), i64_wf (by simp only [PS.ref]; omega) (by simp only [PS.ref]; omega), i64_wf (by simp only [PS.ref]; omega) (by simp only [PS.ref]; omega), i64_wf (by simp only [PS.ref]; omega) (by simp only [PS.ref]; omega)⟩
theorem ord_f10_r1_P18 : orderOfB Try.f10 1 [5] (.a 0 (.a 1 (.a 2 (.v 3 (.k 4 (.k 5 (.k 6 .done))))))) = true := by kernel_rfl
theorem ord_f10_r5_P18 : orderOfB Try.f10 5 [6] (.a 0 (.a 1 (.a 2 (.a 4 (.v 3 (.k 5 (.k 6 (.k 7 (.a 8 (.a 9 (.k 10 (.k 11 .done)))))))))))) = true := by kernel_rfl
theorem ord_f10_r12_P18 : orderOfB Try.f10 12 [6] (.a 0 (.a 1 (.a 2 (.v 3 (.v 4 (.k 5 (.k 6 .done))))))) = true := by kernel_rfl
set_option maxHeartbeats 2000000 in
theorem pwrite_calls {E : Env} {w : World} {L : List As} {g : Hp} {pp : Nat} {q : Qt} {S : PS} {ncs : List Value} {n : Nd} (hS : S.ok) (hn : rdNd g ncs n) (hw : Sat E w (PgA pp q S g :: RO g :: L)) :
    Calls Try.prog 10 #[.pointer (some ⟨pp, 0, none⟩), .agg ncs.toArray] w fun e w' => ∃ g', g.le g' ∧ e = .returned (.tuple #[.agg (S.wr q n).1.cells.toArray, .int .i64 (S.wr q n).2.1]) ∧ Sat E w' (PgA pp q (S.wr q n).2.2 g' :: RO g' :: L) := by
  obtain ⟨a, hels, hw⟩ := pg_open hw
  obtain ⟨ea, en, ec, ka, kn, kc, rfl, hnd⟩ := nd_told hn
  have hkeys := keys_rd hn
  have hdr := drawI_ok hS.dr hS.tk
  have hp9 := hS.past
  have ht9 := hS.tk
  have hrk := ref_ok hS (wrT (boxT (drawI S.list S.tk) (tmNd n)))
  refine calls_of_g (n := 70) Try.func10 rfl rfl rfl ?_
  change G _ _ _ _ _ [(0, _), (1, _)] _
  refine g_seq ?_
  refine g_region ?_
  refine rl_k rfl (k_box hw rfl rfl rfl (fun bk0_0 w hw => ?_))
  refine rl_k rfl (k_alloc hw T.zero_51 rfl rfl (fun bk0_1 w hw => ?_))
  refine xV rfl rfl rfl (v_assign rfl) ?_
  refine rl_nil (g_le (xK (xK (xK (Fr.le_refl _)))) ?_)
  refine g_seq (g_seq ?_)
  refine g_drawR ord_f10_r1_P18 (by kernel_rfl) T.mixed hw (fun w hw => ?_)
  refine rs_a 0 rfl rfl rfl rfl (v_move rfl) ?_
  refine rs_a 1 rfl rfl rfl rfl (v_nilCheck rfl) ?_
  refine rs_a 2 rfl rfl rfl rfl (v_fieldAddr0 T.fld_35_3_3 rfl) ?_
  refine rs_v 3 rfl rfl rfl rfl (OpV.mono (v_loadAgg (vs := [_, _, _, _, _, _, _]) T.agg_23_7 rfl rfl) (fun w hw => by exact sat_cells hw (by (repeat first | with_reducible exact xH | apply xT); first | done | fail) ⟨rfl, rfl, rfl, rfl, rfl, rfl, rfl, trivial⟩)) (by exact hw) ?_
  refine rs_kv 4 rfl rfl rfl rfl (by exact sat_cells hw (by (repeat first | with_reducible exact xH | apply xT); first | done | fail) ⟨rfl, rfl, rfl, trivial⟩) (v_loadAgg (vs := [_, _, _]) T.agg_48_3 rfl rfl) ?_
  refine rs_k 5 rfl rfl (k_callf Try.func26 rfl rfl rfl rfl ?_)
  refine Calls.mono (rightN_calls q hnd (hw.xQ)) ?_
  rintro _ w ⟨rfl, hw⟩
  refine ⟨_, rfl, ?_⟩
  refine ⟨fun hn => absurd (by decide) hn, ?_⟩
  refine rs_kv 6 rfl rfl rfl rfl (S' := fun _ => True) trivial (v_assign rfl) ?_
  refine rs_done (g_le (xK (xS rfl (xS rfl (xS rfl (xS rfl (xS rfl (xS rfl (Fr.le_refl _)))))))) ?_)
  refine g_seq ?_
  refine g_region ?_
  refine xV rfl rfl rfl (v_move rfl) ?_
  refine xV rfl rfl rfl (v_neq rfl rfl) ?_
  refine rl_nil (g_le (xK (xS rfl (Fr.le_refl _))) ?_)
  refine g_cond rfl (fun h1 => ?_) (fun h1 => ?_)
  · try with_reducible exact ft_elim h1
    all_goals
      try replace h1 := of_decide_eq_true h1
      refine g_seq ?_
      refine g_region ?_
      refine xV rfl rfl rfl (v_build rfl (T.build_51 ..)) ?_
      refine xV rfl rfl rfl (v_move rfl) ?_
      refine rl_k rfl (k_storeWhole hw T.agg_51_4 rfl rfl (by simp [Value.oneCell']) rfl (by (repeat first | with_reducible exact xH | apply xT); first | done | fail) rfl (fun w hw => ?_))
      refine xV rfl rfl rfl (v_assign rfl) ?_
      refine rl_nil (g_le (xK (xS rfl (xS rfl (Fr.le_refl _)))) ?_)
      refine g_res2 Try.func10 rfl ⟨_, rfl, holds_agg (vs := [_, _, _, _]) T.agg_51_4 rfl (by exact sat_cells hw (by (repeat first | with_reducible exact xH | apply xT); first | done | fail) ⟨rfl, rfl, rfl, rfl, trivial⟩)⟩ rfl ?_
      have e9 : S.wr q n = (rf0, rightN q n, S) := by unfold PS.wr; rw [if_pos h1]
      rw [e9]
      exact ⟨g, Hp.le_refl _, rfl, pg_close a hels (hw.xQ)⟩
  · try with_reducible exact tf_elim h1
    all_goals
      try replace h1 := of_decide_eq_false h1
      have h9 : rightN q n = 0 := by omega
      refine g_skip (g_seq ?_)
      refine g_region ?_
      refine xV rfl rfl rfl (v_move rfl) ?_
      refine xV rfl rfl rfl (v_nilCheck rfl) ?_
      refine xV rfl rfl rfl (v_fieldAddr0 T.fld_35_2_2 rfl) ?_
      refine rl_v rfl rfl rfl (by exact sat_cell hw (by (repeat first | with_reducible exact xH | apply xT); first | done | fail) rfl) (v_load T.scal_33 rfl) ?_
      refine rl_k rfl (k_callf Try.func27 rfl rfl rfl rfl ?_)
      refine Calls.mono (next_calls ht9 (hw.xQ)) ?_
      rintro _ w ⟨rfl, hw⟩
      refine ⟨_, rfl, ?_⟩
      refine xV rfl rfl rfl (v_assign rfl) ?_
      refine rl_nil (g_le (xK (xS rfl (xS rfl (xS rfl (xS rfl (xS rfl (Fr.le_refl _))))))) ?_)
      refine g_seq ?_
      refine g_drawR ord_f10_r5_P18 (by kernel_rfl) T.mixed hw (fun w hw => ?_)
      refine rs_a 0 rfl rfl rfl rfl (v_move rfl) ?_
      refine rs_a 1 rfl rfl rfl rfl (v_nilCheck rfl) ?_
      refine rs_a 2 rfl rfl rfl rfl (v_fieldAddr0 T.fld_35_3_3 rfl) ?_
      refine rs_a 4 rfl rfl rfl rfl (v_move rfl) ?_
      refine rs_v 3 rfl rfl rfl rfl (OpV.mono (v_loadAgg (vs := [_, _, _, _, _, _, _]) T.agg_23_7 rfl rfl) (fun w hw => by exact sat_cells hw (by (repeat first | with_reducible exact xH | apply xT); first | done | fail) ⟨rfl, rfl, rfl, rfl, rfl, rfl, rfl, trivial⟩)) (by exact hw) ?_
      refine rs_kv 5 rfl rfl rfl rfl (by exact sat_cells hw (by (repeat first | with_reducible exact xH | apply xT); first | done | fail) ⟨rfl, rfl, rfl, trivial⟩) (v_loadAgg (vs := [_, _, _]) T.agg_48_3 rfl rfl) ?_
      refine rs_k 6 rfl rfl (k_callf Try.func28 rfl rfl rfl rfl ?_)
      refine Calls.mono (sealN_calls q (drawI S.list S.tk) hdr.1 hdr.2 hnd (hw.xQ)) ?_
      rw [show sealN q (drawI S.list S.tk) n = (wrT (boxT (drawI S.list S.tk) (tmNd n)), 0) by unfold sealN; rw [if_neg h1]]
      rintro _ w ⟨g1, hg1, rfl, hw⟩
      refine ⟨_, rfl, ?_⟩
      refine ⟨fun hn => absurd (by decide) hn, ?_⟩
      refine rs_kv 7 rfl rfl rfl rfl (S' := fun _ => True) trivial (v_move rfl) ?_
      refine rs_a 8 rfl rfl rfl rfl (v_extract rfl rfl) ?_
      refine rs_a 9 rfl rfl rfl rfl (v_extract rfl rfl) ?_
      refine rs_kv 10 rfl rfl rfl rfl (S' := fun _ => True) trivial (v_assign rfl) ?_
      refine rs_kv 11 rfl rfl rfl rfl (S' := fun _ => True) trivial (v_assign rfl) ?_
      refine rs_done (g_le (xK (xK (xS rfl (xS rfl (xS rfl (xS rfl (xS rfl (xS rfl (xS rfl (xS rfl (xS rfl (xS rfl (Fr.le_refl _))))))))))))) ?_)
      refine g_seq (g_seq ?_)
      refine g_region ?_
      refine xV rfl rfl rfl (v_move rfl) ?_
      refine xV rfl rfl rfl (v_neqF rfl rfl (by omega)) ?_
      refine rl_nil (g_le (xK (xS rfl (Fr.le_refl _))) ?_)
      refine g_cond_false rfl ?_
      refine g_skip (g_seq ?_)
      refine g_region ?_
      refine xV rfl rfl rfl (v_move rfl) ?_
      refine xV rfl rfl rfl (v_nilCheck rfl) ?_
      refine xV rfl rfl rfl (v_fieldAddr0 T.fld_35_0_0 rfl) ?_
      refine rl_v rfl rfl rfl (by exact sat_cell hw (by (repeat first | with_reducible exact xH | apply xT); first | done | fail) rfl) (v_load T.scal_31 rfl) ?_
      refine xV rfl rfl rfl (v_move rfl) ?_
      refine rl_k rfl (k_callf Try.func29 rfl rfl rfl rfl ?_)
      refine Calls.mono (append_calls (wrT (boxT (drawI S.list S.tk) (tmNd n))) hS.len ⟨hS.o0, hS.o1⟩ hS.us hS.pw (by omega) (hw.xQ)) ?_
      rw [show appL S.o S.ss S.md S.pw (wrT (boxT (drawI S.list S.tk) (tmNd n))) = S.app q n from rfl] at hrk ⊢
      generalize hr : S.app q n = r at hrk ⊢
      rintro _ w ⟨rfl, hw⟩
      refine ⟨_, rfl, ?_⟩
      refine xV rfl rfl rfl (v_move rfl) ?_
      refine xV rfl rfl rfl (v_extract rfl rfl) ?_
      refine xV rfl rfl rfl (v_extract rfl rfl) ?_
      refine rl_k rfl (k_alloc hw T.zero_84 rfl rfl (fun bk8_9 w hw => ?_))
      refine rl_k rfl (k_storeWhole hw T.agg_84_3 rfl rfl (by simp [Value.oneCell']) rfl (by (repeat first | with_reducible exact xH | apply xT); first | done | fail) rfl (fun w hw => ?_))
      refine xV rfl rfl rfl (v_assign rfl) ?_
      refine rl_nil (g_le (xK (xK (xS rfl (xS rfl (xS rfl (xS rfl (xS rfl (xS rfl (xS rfl (xS rfl (xS rfl (Fr.le_refl _)))))))))))) ?_)
      refine g_seq (g_seq ?_)
      refine g_region ?_
      refine xV rfl rfl rfl (v_move rfl) ?_
      refine xV rfl rfl rfl (v_neq rfl rfl) ?_
      refine rl_nil (g_le (xK (xS rfl (Fr.le_refl _))) ?_)
      refine g_cond rfl (fun h3 => ?_) (fun h3 => ?_)
      · try with_reducible exact ft_elim h3
        all_goals
          try replace h3 := of_decide_eq_true h3
          refine g_seq ?_
          refine g_region ?_
          refine xV rfl rfl rfl (v_build rfl (T.build_51 ..)) ?_
          refine xV rfl rfl rfl (v_move rfl) ?_
          refine rl_k rfl (k_storeWhole hw T.agg_51_4 rfl rfl (by simp [Value.oneCell']) rfl (by (repeat first | with_reducible exact xH | apply xT); first | done | fail) rfl (fun w hw => ?_))
          refine xV rfl rfl rfl (v_assign rfl) ?_
          refine rl_nil (g_le (xK (xS rfl (xS rfl (Fr.le_refl _)))) ?_)
          refine g_res2 Try.func10 rfl ⟨_, rfl, holds_agg (vs := [_, _, _, _]) T.agg_51_4 rfl (by exact sat_cells hw (by (repeat first | with_reducible exact xH | apply xT); first | done | fail) ⟨rfl, rfl, rfl, rfl, trivial⟩)⟩ rfl ?_
          have e9 : S.wr q n = (rf0, r.bad, S.laid r) := by unfold PS.wr; rw [if_neg h1, hr, if_pos h3]
          rw [e9]
          refine ⟨g1, hg1, rfl, pg_close a (hels.mono mono_Hd hg1) ?_⟩
          dsimp only [PS.laid]
          exact hw.xQ
      · try with_reducible exact tf_elim h3
        all_goals
          try replace h3 := of_decide_eq_false h3
          refine g_skip (g_seq ?_)
          refine g_region ?_
          refine xV rfl rfl rfl (v_move rfl) ?_
          refine xV rfl rfl rfl (v_fieldAddr0 T.fld_84_0_0 rfl) ?_
          refine rl_v rfl rfl rfl (by exact sat_cell hw (by (repeat first | with_reducible exact xH | apply xT); first | done | fail) rfl) (v_load T.scal_3 rfl) ?_
          refine xV rfl rfl rfl (v_fieldAddr0 T.fld_84_1_1 rfl) ?_
          refine rl_v rfl rfl rfl (by exact sat_cell hw (by (repeat first | with_reducible exact xH | apply xT); first | done | fail) rfl) (v_load T.scal_3 rfl) ?_
          refine xV rfl rfl rfl (v_fieldAddr0 T.fld_84_2_2 rfl) ?_
          refine rl_v rfl rfl rfl (by exact sat_cell hw (by (repeat first | with_reducible exact xH | apply xT); first | done | fail) rfl) (v_load T.scal_3 rfl) ?_
          refine xV rfl rfl rfl (v_build rfl (T.build_51_0_1_2_3 ..)) ?_
          refine rl_k rfl (k_alloc hw T.zero_51 rfl rfl (fun bk11_8 w hw => ?_))
          refine rl_k rfl (k_storeWhole hw T.agg_51_4 rfl rfl (by simp [Value.oneCell']) rfl (by (repeat first | with_reducible exact xH | apply xT); first | done | fail) rfl (fun w hw => ?_))
          refine rl_nil (g_le (xK (xS rfl (xS rfl (xS rfl (xS rfl (xS rfl (xS rfl (xS rfl (xS rfl (Fr.le_refl _)))))))))) ?_)
          refine g_seq ?_
          refine g_drawR ord_f10_r12_P18 (by kernel_rfl) T.mixed hw (fun w hw => ?_)
          refine rs_a 0 rfl rfl rfl rfl (v_move rfl) ?_
          refine rs_a 1 rfl rfl rfl rfl (v_nilCheck rfl) ?_
          refine rs_a 2 rfl rfl rfl rfl (v_fieldAddr0 T.fld_35_1_1 rfl) ?_
          refine rs_v 3 rfl rfl rfl rfl (OpV.mono (v_load T.scal_32 rfl) (fun w hw => by exact sat_cell hw (by (repeat first | with_reducible exact xH | apply xT); first | done | fail) rfl)) (by exact hw) ?_
          refine rs_v 4 rfl rfl rfl rfl (OpV.mono (v_loadAgg (vs := [_, _, _, _]) T.agg_51_4 rfl rfl) (fun w hw => by exact sat_cells hw (by (repeat first | with_reducible exact xH | apply xT); first | done | fail) ⟨rfl, rfl, rfl, rfl, trivial⟩)) (by exact hw) ?_
          refine rs_kv 5 rfl rfl rfl rfl (by exact sat_cells hw (by (repeat first | with_reducible exact xH | apply xT); first | done | fail) ⟨rfl, rfl, rfl, trivial⟩) (v_loadAgg (vs := [_, _, _]) T.agg_48_3 rfl rfl) ?_
          refine rs_k 6 rfl rfl (k_callf Try.func30 rfl rfl rfl rfl ?_)
          refine Calls.mono (cput_calls (S.ref r) hrk (mono_Nd hg1 hnd) (hels.mono mono_Hd hg1) hS.ch (hw.xQ)) ?_
          rintro _ w ⟨g2, lv2, cells2, hg2, rfl, hels2, hw⟩
          refine ⟨_, rfl, ?_⟩
          refine ⟨fun hn => absurd (by decide) hn, ?_⟩
          refine rs_done (g_le (xS rfl (xS rfl (xS rfl (xS rfl (xS rfl (xS rfl (xS rfl (Fr.le_refl _)))))))) ?_)
          refine g_seq ?_
          refine g_region ?_
          refine rl_v rfl rfl rfl (by exact sat_cells hw (by (repeat first | with_reducible exact xH | apply xT); first | done | fail) ⟨rfl, rfl, rfl, rfl, trivial⟩) (v_loadAgg (vs := [_, _, _, _]) T.agg_51_4 rfl rfl) ?_
          refine rl_k rfl (k_storeWhole hw T.agg_51_4 rfl rfl (by simp [Value.oneCell']) rfl (by (repeat first | with_reducible exact xH | apply xT); first | done | fail) rfl (fun w hw => ?_))
          refine xV rfl rfl rfl (v_assign rfl) ?_
          refine rl_nil (g_le (xK (xS rfl (Fr.le_refl _))) ?_)
          refine g_res2 Try.func10 rfl ⟨_, rfl, holds_agg (vs := [_, _, _, _]) T.agg_51_4 rfl (by exact sat_cells hw (by (repeat first | with_reducible exact xH | apply xT); first | done | fail) ⟨rfl, rfl, rfl, rfl, trivial⟩)⟩ rfl ?_
          have e9 : S.wr q n = (S.ref r, 0, { S.laid r with ch := (S.ch.put (S.ref r) n).2 }) := by unfold PS.wr; rw [if_neg h1, hr, if_neg h3]
          rw [e9]
          refine ⟨g2, hg1.trans hg2, rfl, pg_close ⟨a.l, a.c, a.d, a.m, a.p, a.b, a.k, lv2, a.dv, cells2⟩ hels2 ?_⟩
          dsimp only [PS.laid]
          exact hw.xQ
end Go.Proofs.Ytlgpdglnfjndhaa
