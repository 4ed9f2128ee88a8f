/-
  Pages on a log (layer 16): what they hold; Write.
-/
import Derived.Test.YtlgpdglnfjndhaaP17
import Derived.Test.YtlgpdglnfjndhaaC15g
import Derived.Test.YtlgpdglnfjndhaaU06f
namespace Go.Proofs.Ytlgpdglnfjndhaa
set_option maxRecDepth 8000
set_option linter.unusedSimpArgs false
set_option linter.unusedVariables false
open Go Xe Go.Lib
/-- What pages hold: the log, the medium, the power, the draws, the cache. -/
structure PS where
  o : Int
  ss : List Sg
  md : Md
  pw : Pw
  list : List Int
  tk : Nat
  ch : Ch
structure PN where
  l : Nat
  c : Nat
  d : Nat
  m : Nat
  p : Nat
  b : Nat
  k : Nat
  lv : Value
  dv : Value
  cells : List Value
def PgA (pp : Nat) (q : Qt) (S : PS) : As := ex fun a : PN => ex fun gc : Hp => pu (Els rdHd 8 gc a.cells S.ch.l) (stars (PgsAt pp (a : PN).l (a).c (a).d q :: pt (a).l (.cells [Value.pointer (some ⟨(a).m, 0, none⟩), .int .i64 ((S : PS).o), .slice (some ⟨(a).b, 0, none⟩) (((S).ss) : List Sg).length (a).k].toArray 39 (0, 0)) :: OwnSl 108 3 (.slice (some ⟨(a).b, 0, none⟩) (((S).ss)).length (a).k) (((S).ss)).length ((((S).ss)).flatMap Sg.cells) :: MdAt (a).m (a).p (S).md :: PwAt (a).p (S).pw :: pt (a).c (.cells [Value.int .i64 (((S).ch) : Ch).room, (a).lv, .int .i64 (((S).ch) : Ch).hits, .int .i64 (((S).ch) : Ch).misses].toArray 104 (0, 0)) :: OwnSl 119 8 (a).lv (((S).ch) : Ch).l.length (a).cells :: pt (a).d (.cells [(a).dv, .int .i64 (((S).tk : Nat) : Int)].toArray 89 (0, 0)) :: OwnSl 49 1 (a).dv ((S).list : List Int).length (((S).list).map (Value.int .u64)) :: RO gc :: []))
theorem pg_open {E : Env} {w : World} {L : List As} {pp : Nat} {q : Qt} {S : PS} (h : Sat E w (PgA pp q S :: L)) : ∃ (a : PN) (gc : Hp), Els rdHd 8 gc a.cells S.ch.l ∧ Sat E w (PgsAt pp (a : PN).l (a).c (a).d q :: pt (a).l (.cells [Value.pointer (some ⟨(a).m, 0, none⟩), .int .i64 ((S : PS).o), .slice (some ⟨(a).b, 0, none⟩) (((S).ss) : List Sg).length (a).k].toArray 39 (0, 0)) :: OwnSl 108 3 (.slice (some ⟨(a).b, 0, none⟩) (((S).ss)).length (a).k) (((S).ss)).length ((((S).ss)).flatMap Sg.cells) :: MdAt (a).m (a).p (S).md :: PwAt (a).p (S).pw :: pt (a).c (.cells [Value.int .i64 (((S).ch) : Ch).room, (a).lv, .int .i64 (((S).ch) : Ch).hits, .int .i64 (((S).ch) : Ch).misses].toArray 104 (0, 0)) :: OwnSl 119 8 (a).lv (((S).ch) : Ch).l.length (a).cells :: pt (a).d (.cells [(a).dv, .int .i64 (((S).tk : Nat) : Int)].toArray 89 (0, 0)) :: OwnSl 49 1 (a).dv ((S).list : List Int).length (((S).list).map (Value.int .u64)) :: RO gc :: L) := by
  obtain ⟨a, h⟩ := h.ex
  obtain ⟨gc, h⟩ := h.ex
  obtain ⟨h1, h⟩ := h.pu
  exact ⟨a, gc, h1, Sat.flat (X := PgsAt pp (a : PN).l (a).c (a).d q :: pt (a).l (.cells [Value.pointer (some ⟨(a).m, 0, none⟩), .int .i64 ((S : PS).o), .slice (some ⟨(a).b, 0, none⟩) (((S).ss) : List Sg).length (a).k].toArray 39 (0, 0)) :: OwnSl 108 3 (.slice (some ⟨(a).b, 0, none⟩) (((S).ss)).length (a).k) (((S).ss)).length ((((S).ss)).flatMap Sg.cells) :: MdAt (a).m (a).p (S).md :: PwAt (a).p (S).pw :: pt (a).c (.cells [Value.int .i64 (((S).ch) : Ch).room, (a).lv, .int .i64 (((S).ch) : Ch).hits, .int .i64 (((S).ch) : Ch).misses].toArray 104 (0, 0)) :: OwnSl 119 8 (a).lv (((S).ch) : Ch).l.length (a).cells :: pt (a).d (.cells [(a).dv, .int .i64 (((S).tk : Nat) : Int)].toArray 89 (0, 0)) :: OwnSl 49 1 (a).dv ((S).list : List Int).length (((S).list).map (Value.int .u64)) :: RO gc :: []) h⟩
theorem pg_close {E : Env} {w : World} {L : List As} {pp : Nat} {q : Qt} {S : PS} (a : PN) {gc : Hp} (h1 : Els rdHd 8 gc a.cells S.ch.l) (h : Sat E w (PgsAt pp (a : PN).l (a).c (a).d q :: pt (a).l (.cells [Value.pointer (some ⟨(a).m, 0, none⟩), .int .i64 ((S : PS).o), .slice (some ⟨(a).b, 0, none⟩) (((S).ss) : List Sg).length (a).k].toArray 39 (0, 0)) :: OwnSl 108 3 (.slice (some ⟨(a).b, 0, none⟩) (((S).ss)).length (a).k) (((S).ss)).length ((((S).ss)).flatMap Sg.cells) :: MdAt (a).m (a).p (S).md :: PwAt (a).p (S).pw :: pt (a).c (.cells [Value.int .i64 (((S).ch) : Ch).room, (a).lv, .int .i64 (((S).ch) : Ch).hits, .int .i64 (((S).ch) : Ch).misses].toArray 104 (0, 0)) :: OwnSl 119 8 (a).lv (((S).ch) : Ch).l.length (a).cells :: pt (a).d (.cells [(a).dv, .int .i64 (((S).tk : Nat) : Int)].toArray 89 (0, 0)) :: OwnSl 49 1 (a).dv ((S).list : List Int).length (((S).list).map (Value.int .u64)) :: RO gc :: L)) : Sat E w (PgA pp q S :: L) :=
  ((Sat.mk_pu h1 (Sat.unflat (X := PgsAt pp (a : PN).l (a).c (a).d q :: pt (a).l (.cells [Value.pointer (some ⟨(a).m, 0, none⟩), .int .i64 ((S : PS).o), .slice (some ⟨(a).b, 0, none⟩) (((S).ss) : List Sg).length (a).k].toArray 39 (0, 0)) :: OwnSl 108 3 (.slice (some ⟨(a).b, 0, none⟩) (((S).ss)).length (a).k) (((S).ss)).length ((((S).ss)).flatMap Sg.cells) :: MdAt (a).m (a).p (S).md :: PwAt (a).p (S).pw :: pt (a).c (.cells [Value.int .i64 (((S).ch) : Ch).room, (a).lv, .int .i64 (((S).ch) : Ch).hits, .int .i64 (((S).ch) : Ch).misses].toArray 104 (0, 0)) :: OwnSl 119 8 (a).lv (((S).ch) : Ch).l.length (a).cells :: pt (a).d (.cells [(a).dv, .int .i64 (((S).tk : Nat) : Int)].toArray 89 (0, 0)) :: OwnSl 49 1 (a).dv ((S).list : List Int).length (((S).list).map (Value.int .u64)) :: RO gc :: []) h)).mk_ex gc).mk_ex a
structure PS.ok (S : PS) : Prop where
  md : S.md.ok
  len : S.ss.length = S.md.segs.length
  o0 : 0 ≤ S.o
  o1 : S.o < S.ss.length
  us : ∀ x ∈ S.ss, 0 ≤ x.used ∧ x.used ≤ S.md.size
  pw : S.pw.ok
  past : S.md.past.length ≤ 4000000000
  tk : S.tk ≤ 1000000000
  ch : S.ch.l.length ≤ 100000
  dr : ∀ n ∈ S.list, U64 n
/-- What a page's bytes come to in the log. -/
def PS.app (S : PS) (q : Qt) (n : Nd) : Ap := appL S.o S.ss S.md S.pw (wrT (boxT (drawI S.list S.tk) (tmNd n)))
def PS.laid (S : PS) (r : Ap) : PS := ⟨r.o, r.ss, r.md, r.pw, S.list, S.tk + 1, S.ch⟩
def PS.ref (S : PS) (r : Ap) : Rf := ⟨drawI S.list S.tk, r.at_.1, r.at_.2.1, r.at_.2.2⟩
def PS.wr (S : PS) (q : Qt) (n : Nd) : Rf × Int × PS :=
  if rightN q n ≠ 0 then (rf0, rightN q n, S) else
  if (S.app q n).bad ≠ 0 then (rf0, (S.app q n).bad, S.laid (S.app q n)) else
  (S.ref (S.app q n), 0, { S.laid (S.app q n) with ch := (S.ch.put (S.ref (S.app q n)) n).2 })
theorem i64_wf {n : Int} (h0 : -9223372036854775808 ≤ n) (h1 : n ≤ 9223372036854775807) : (Lit.int .i64 n).wf = true := by
  have e1 : IntKind.i64.min = -9223372036854775808 := rfl
  have e2 : IntKind.i64.max = 9223372036854775807 := rfl
  simp only [Lit.wf, e1, e2, Bool.and_eq_true, decide_eq_true_eq]
  omega
theorem u64_wf' {n : Int} (h : U64 n) : (Lit.int .u64 n).wf = true := by
  have e3 : IntKind.u64.min = 0 := rfl
  have e4 : IntKind.u64.max = 18446744073709551615 := rfl
  simp only [Lit.wf, e3, e4, Bool.and_eq_true, decide_eq_true_eq]
  exact h
theorem app_at {o : Int} {ss : List Sg} {md : Md} {pw : Pw} {v : ByteArray} (hmd : md.ok) (hl : ss.length = md.segs.length) (h0 : 0 ≤ o) (h1 : o < ss.length) (hu : ∀ x ∈ ss, 0 ≤ x.used ∧ x.used ≤ md.size) :
    (0 ≤ (appL o ss md pw v).at_.1 ∧ (appL o ss md pw v).at_.1 ≤ 4096) ∧ (0 ≤ (appL o ss md pw v).at_.2.1 ∧ (appL o ss md pw v).at_.2.1 ≤ 1048576) ∧ (0 ≤ (appL o ss md pw v).at_.2.2 ∧ (appL o ss md pw v).at_.2.2 ≤ 1048576) := by
  obtain ⟨m1, m2, m3, m4, _⟩ := hmd
  have hso : 0 ≤ (sgAt ss o).used ∧ (sgAt ss o).used ≤ md.size := by
    have h2 : o.toNat < ss.length := by omega
    unfold sgAt
    rw [List.getElem?_eq_getElem h2]
    exact hu _ (List.getElem_mem h2)
  have hib := sgidx_bound (p := fun x : Sg => decide (x.kind = 1)) (l := ss) (i := 0) (by omega)
  unfold appL
  split
  · simp
  · rename_i hv
    have hv2 : (v.size : Int) ≤ md.size := by omega
    split
    · simp
    · split
      · simp
      · refine ⟨?_, ?_, by simp only; omega⟩
        · simp only [tgtL] at *
          split <;> simp_all <;> omega
        · simp only [tgtL] at *
          split <;> simp_all <;> omega
theorem ref_ok {S : PS} (h : S.ok) (v : ByteArray) : (S.ref (appL S.o S.ss S.md S.pw v)).ok := by
  obtain ⟨⟨a1, a2⟩, ⟨b1, b2⟩, c1, c2⟩ := app_at (pw := S.pw) (v := v) h.md h.len h.o0 h.o1 h.us
  exact ⟨u64_wf' (drawI_ok h.dr h.tk), i64_wf (by simp only [PS.ref]; omega) (by simp only [PS.ref]; omega), i64_wf (by simp only [PS.ref]; omega) (by simp only [PS.ref]; omega), i64_wf (by simp only [PS.ref]; omega) (by simp only [PS.ref]; omega)⟩
theorem ord_f10_r1_P18 : orderOfB Try.f10 1 [5] (.a 0 (.a 1 (.a 2 (.v 3 (.k 4 (.k 5 (.k 6 .done))))))) = true := by kernel_rfl
theorem ord_f10_r5_P18 : orderOfB Try.f10 5 [6] (.a 0 (.a 1 (.a 2 (.a 4 (.v 3 (.k 5 (.k 6 (.k 7 (.a 8 (.a 9 (.k 10 (.k 11 .done)))))))))))) = true := by kernel_rfl
theorem ord_f10_r12_P18 : orderOfB Try.f10 12 [6] (.a 0 (.a 1 (.a 2 (.v 3 (.v 4 (.k 5 (.k 6 .done))))))) = true := by kernel_rfl
set_option maxHeartbeats 2000000 in
theorem pwrite_calls {E : Env} {w : World} {L : List As} {g : Hp} {pp : Nat} {q : Qt} {S : PS} {ncs : List Value} {n : Nd} (hS : S.ok) (hn : rdNd g ncs n) (hw : Sat E w (PgA pp q S :: RO g :: L)) :
    Calls Try.prog 10 #[.pointer (some ⟨pp, 0, none⟩), .agg ncs.toArray] w fun e w' => e = .returned (.tuple #[.agg (S.wr q n).1.cells.toArray, .int .i64 (S.wr q n).2.1]) ∧ Sat E w' (PgA pp q (S.wr q n).2.2 :: RO g :: L) := by
  obtain ⟨a, gc, hels, hw⟩ := pg_open hw
  obtain ⟨ea, en, ec, ka, kn, kc, rfl, hnd⟩ := nd_told hn
  have hkeys := keys_rd hn
  have hdr := drawI_ok hS.dr hS.tk
  have hp9 := hS.past
  have ht9 := hS.tk
  have hrk := ref_ok hS (wrT (boxT (drawI S.list S.tk) (tmNd n)))
  refine calls_of_g (n := 70) Try.func10 rfl rfl rfl ?_
  change G _ _ _ _ _ [(0, _), (1, _)] _
  refine g_seq ?_
  refine g_region ?_
  refine rl_k rfl (k_box hw rfl rfl rfl (fun bk0_0 w hw => ?_))
  refine rl_k rfl (k_alloc hw T.zero_51 rfl rfl (fun bk0_1 w hw => ?_))
  refine xV rfl rfl rfl (v_assign rfl) ?_
  refine rl_nil (g_le (xK (xK (xK (Fr.le_refl _)))) ?_)
  refine g_seq (g_seq ?_)
  refine g_drawR ord_f10_r1_P18 (by kernel_rfl) T.mixed hw (fun w hw => ?_)
  refine rs_a 0 rfl rfl rfl rfl (v_move rfl) ?_
  refine rs_a 1 rfl rfl rfl rfl (v_nilCheck rfl) ?_
  refine rs_a 2 rfl rfl rfl rfl (v_fieldAddr0 T.fld_35_3_3 rfl) ?_
  refine rs_v 3 rfl rfl rfl rfl (OpV.mono (v_loadAgg (vs := [_, _, _, _, _, _, _]) T.agg_23_7 rfl rfl) (fun w hw => by exact sat_cells hw (by (repeat first | with_reducible exact xH | apply xT); first | done | fail) ⟨rfl, rfl, rfl, rfl, rfl, rfl, rfl, trivial⟩)) (by exact hw) ?_
  refine rs_kv 4 rfl rfl rfl rfl (by exact sat_cells hw (by (repeat first | with_reducible exact xH | apply xT); first | done | fail) ⟨rfl, rfl, rfl, trivial⟩) (v_loadAgg (vs := [_, _, _]) T.agg_48_3 rfl rfl) ?_
  refine rs_k 5 rfl rfl (k_callf Try.func26 rfl rfl rfl rfl ?_)
  refine Calls.mono (rightN_calls q hnd (hw.xP (A := RO g))) ?_
  rintro _ w ⟨rfl, hw⟩
  refine ⟨_, rfl, ?_⟩
  refine ⟨fun hn => absurd (by decide) hn, ?_⟩
  refine rs_kv 6 rfl rfl rfl rfl (S' := fun _ => True) trivial (v_assign rfl) ?_
  refine rs_done (g_le (xK (xS rfl (xS rfl (xS rfl (xS rfl (xS rfl (xS rfl (Fr.le_refl _)))))))) ?_)
  refine g_seq ?_
  refine g_region ?_
  refine xV rfl rfl rfl (v_move rfl) ?_
  refine xV rfl rfl rfl (v_neq rfl rfl) ?_
  refine rl_nil (g_le (xK (xS rfl (Fr.le_refl _))) ?_)
  refine g_cond rfl (fun h1 => ?_) (fun h1 => ?_)
  · try with_reducible exact ft_elim h1
    all_goals
      try replace h1 := of_decide_eq_true h1
      refine g_seq ?_
      refine g_region ?_
      refine xV rfl rfl rfl (v_build rfl (T.build_51 ..)) ?_
      refine xV rfl rfl rfl (v_move rfl) ?_
      refine rl_k rfl (k_storeWhole hw T.agg_51_4 rfl rfl (by simp [Value.oneCell']) rfl (by (repeat first | with_reducible exact xH | apply xT); first | done | fail) rfl (fun w hw => ?_))
      refine xV rfl rfl rfl (v_assign rfl) ?_
      refine rl_nil (g_le (xK (xS rfl (xS rfl (Fr.le_refl _)))) ?_)
      refine g_res2 Try.func10 rfl ⟨_, rfl, holds_agg (vs := [_, _, _, _]) T.agg_51_4 rfl (by exact sat_cells hw (by (repeat first | with_reducible exact xH | apply xT); first | done | fail) ⟨rfl, rfl, rfl, rfl, trivial⟩)⟩ rfl ?_
      have e9 : S.wr q n = (rf0, rightN q n, S) := by unfold PS.wr; rw [if_pos h1]
      rw [e9]
      exact ⟨rfl, pg_close a hels (hw.xQ)⟩
  · try with_reducible exact tf_elim h1
    all_goals
      try replace h1 := of_decide_eq_false h1
      have h9 : rightN q n = 0 := by omega
      refine g_skip (g_seq ?_)
      refine g_region ?_
      refine xV rfl rfl rfl (v_move rfl) ?_
      refine xV rfl rfl rfl (v_nilCheck rfl) ?_
      refine xV rfl rfl rfl (v_fieldAddr0 T.fld_35_2_2 rfl) ?_
      refine rl_v rfl rfl rfl (by exact sat_cell hw (by (repeat first | with_reducible exact xH | apply xT); first | done | fail) rfl) (v_load T.scal_33 rfl) ?_
      refine rl_k rfl (k_callf Try.func27 rfl rfl rfl rfl ?_)
      refine Calls.mono (next_calls ht9 (hw.xQ)) ?_
      rintro _ w ⟨rfl, hw⟩
      refine ⟨_, rfl, ?_⟩
      refine xV rfl rfl rfl (v_assign rfl) ?_
      refine rl_nil (g_le (xK (xS rfl (xS rfl (xS rfl (xS rfl (xS rfl (Fr.le_refl _))))))) ?_)
      refine g_seq ?_
      refine g_drawR ord_f10_r5_P18 (by kernel_rfl) T.mixed hw (fun w hw => ?_)
      refine rs_a 0 rfl rfl rfl rfl (v_move rfl) ?_
      refine rs_a 1 rfl rfl rfl rfl (v_nilCheck rfl) ?_
      refine rs_a 2 rfl rfl rfl rfl (v_fieldAddr0 T.fld_35_3_3 rfl) ?_
      refine rs_a 4 rfl rfl rfl rfl (v_move rfl) ?_
      refine rs_v 3 rfl rfl rfl rfl (OpV.mono (v_loadAgg (vs := [_, _, _, _, _, _, _]) T.agg_23_7 rfl rfl) (fun w hw => by exact sat_cells hw (by (repeat first | with_reducible exact xH | apply xT); first | done | fail) ⟨rfl, rfl, rfl, rfl, rfl, rfl, rfl, trivial⟩)) (by exact hw) ?_
      refine rs_kv 5 rfl rfl rfl rfl (by exact sat_cells hw (by (repeat first | with_reducible exact xH | apply xT); first | done | fail) ⟨rfl, rfl, rfl, trivial⟩) (v_loadAgg (vs := [_, _, _]) T.agg_48_3 rfl rfl) ?_
      refine rs_k 6 rfl rfl (k_callf Try.func28 rfl rfl rfl rfl ?_)
      refine Calls.mono (sealN_calls q (drawI S.list S.tk) hdr.1 hdr.2 hnd (hw.xP (A := RO g))) ?_
      rw [show sealN q (drawI S.list S.tk) n = (wrT (boxT (drawI S.list S.tk) (tmNd n)), 0) by unfold sealN; rw [if_neg h1]]
      rintro _ w ⟨g1, hg1, rfl, hw⟩
      have hw := hw.shrink hg1
      refine ⟨_, rfl, ?_⟩
      refine ⟨fun hn => absurd (by decide) hn, ?_⟩
      refine rs_kv 7 rfl rfl rfl rfl (S' := fun _ => True) trivial (v_move rfl) ?_
      refine rs_a 8 rfl rfl rfl rfl (v_extract rfl rfl) ?_
      refine rs_a 9 rfl rfl rfl rfl (v_extract rfl rfl) ?_
      refine rs_kv 10 rfl rfl rfl rfl (S' := fun _ => True) trivial (v_assign rfl) ?_
      refine rs_kv 11 rfl rfl rfl rfl (S' := fun _ => True) trivial (v_assign rfl) ?_
      refine rs_done (g_le (xK (xK (xS rfl (xS rfl (xS rfl (xS rfl (xS rfl (xS rfl (xS rfl (xS rfl (xS rfl (xS rfl (Fr.le_refl _))))))))))))) ?_)
      refine g_seq (g_seq ?_)
      refine g_region ?_
      refine xV rfl rfl rfl (v_move rfl) ?_
      refine xV rfl rfl rfl (v_neqF rfl rfl (by omega)) ?_
      refine rl_nil (g_le (xK (xS rfl (Fr.le_refl _))) ?_)
      refine g_cond_false rfl ?_
      refine g_skip (g_seq ?_)
      refine g_region ?_
      refine xV rfl rfl rfl (v_move rfl) ?_
      refine xV rfl rfl rfl (v_nilCheck rfl) ?_
      refine xV rfl rfl rfl (v_fieldAddr0 T.fld_35_0_0 rfl) ?_
      refine rl_v rfl rfl rfl (by exact sat_cell hw (by (repeat first | with_reducible exact xH | apply xT); first | done | fail) rfl) (v_load T.scal_31 rfl) ?_
      refine xV rfl rfl rfl (v_move rfl) ?_
      refine rl_k rfl (k_callf Try.func29 rfl rfl rfl rfl ?_)
      refine Calls.mono (append_calls (wrT (boxT (drawI S.list S.tk) (tmNd n))) hS.len ⟨hS.o0, hS.o1⟩ hS.us hS.pw (by omega) (hw.xQ)) ?_
      rw [show appL S.o S.ss S.md S.pw (wrT (boxT (drawI S.list S.tk) (tmNd n))) = S.app q n from rfl] at hrk ⊢
      generalize hr : S.app q n = r at hrk ⊢
      rintro _ w ⟨rfl, hw⟩
      refine ⟨_, rfl, ?_⟩
      refine xV rfl rfl rfl (v_move rfl) ?_
      refine xV rfl rfl rfl (v_extract rfl rfl) ?_
      refine xV rfl rfl rfl (v_extract rfl rfl) ?_
      refine rl_k rfl (k_alloc hw T.zero_84 rfl rfl (fun bk8_9 w hw => ?_))
      refine rl_k rfl (k_storeWhole hw T.agg_84_3 rfl rfl (by simp [Value.oneCell']) rfl (by (repeat first | with_reducible exact xH | apply xT); first | done | fail) rfl (fun w hw => ?_))
      refine xV rfl rfl rfl (v_assign rfl) ?_
      refine rl_nil (g_le (xK (xK (xS rfl (xS rfl (xS rfl (xS rfl (xS rfl (xS rfl (xS rfl (xS rfl (xS rfl (Fr.le_refl _)))))))))))) ?_)
      refine g_seq (g_seq ?_)
      refine g_region ?_
      refine xV rfl rfl rfl (v_move rfl) ?_
      refine xV rfl rfl rfl (v_neq rfl rfl) ?_
      refine rl_nil (g_le (xK (xS rfl (Fr.le_refl _))) ?_)
      refine g_cond rfl (fun h3 => ?_) (fun h3 => ?_)
      · try with_reducible exact ft_elim h3
        all_goals
          try replace h3 := of_decide_eq_true h3
          refine g_seq ?_
          refine g_region ?_
          refine xV rfl rfl rfl (v_build rfl (T.build_51 ..)) ?_
          refine xV rfl rfl rfl (v_move rfl) ?_
          refine rl_k rfl (k_storeWhole hw T.agg_51_4 rfl rfl (by simp [Value.oneCell']) rfl (by (repeat first | with_reducible exact xH | apply xT); first | done | fail) rfl (fun w hw => ?_))
          refine xV rfl rfl rfl (v_assign rfl) ?_
          refine rl_nil (g_le (xK (xS rfl (xS rfl (Fr.le_refl _)))) ?_)
          refine g_res2 Try.func10 rfl ⟨_, rfl, holds_agg (vs := [_, _, _, _]) T.agg_51_4 rfl (by exact sat_cells hw (by (repeat first | with_reducible exact xH | apply xT); first | done | fail) ⟨rfl, rfl, rfl, rfl, trivial⟩)⟩ rfl ?_
          have e9 : S.wr q n = (rf0, r.bad, S.laid r) := by unfold PS.wr; rw [if_neg h1, hr, if_pos h3]
          rw [e9]
          refine ⟨rfl, pg_close a hels ?_⟩
          dsimp only [PS.laid]
          exact hw.xQ
      · try with_reducible exact tf_elim h3
        all_goals
          try replace h3 := of_decide_eq_false h3
          refine g_skip (g_seq ?_)
          refine g_region ?_
          refine xV rfl rfl rfl (v_move rfl) ?_
          refine xV rfl rfl rfl (v_fieldAddr0 T.fld_84_0_0 rfl) ?_
          refine rl_v rfl rfl rfl (by exact sat_cell hw (by (repeat first | with_reducible exact xH | apply xT); first | done | fail) rfl) (v_load T.scal_3 rfl) ?_
          refine xV rfl rfl rfl (v_fieldAddr0 T.fld_84_1_1 rfl) ?_
          refine rl_v rfl rfl rfl (by exact sat_cell hw (by (repeat first | with_reducible exact xH | apply xT); first | done | fail) rfl) (v_load T.scal_3 rfl) ?_
          refine xV rfl rfl rfl (v_fieldAddr0 T.fld_84_2_2 rfl) ?_
          refine rl_v rfl rfl rfl (by exact sat_cell hw (by (repeat first | with_reducible exact xH | apply xT); first | done | fail) rfl) (v_load T.scal_3 rfl) ?_
          refine xV rfl rfl rfl (v_build rfl (T.build_51_0_1_2_3 ..)) ?_
          refine rl_k rfl (k_alloc hw T.zero_51 rfl rfl (fun bk11_8 w hw => ?_))
          refine rl_k rfl (k_storeWhole hw T.agg_51_4 rfl rfl (by simp [Value.oneCell']) rfl (by (repeat first | with_reducible exact xH | apply xT); first | done | fail) rfl (fun w hw => ?_))
          refine rl_nil (g_le (xK (xS rfl (xS rfl (xS rfl (xS rfl (xS rfl (xS rfl (xS rfl (xS rfl (Fr.le_refl _)))))))))) ?_)
          refine g_seq ?_
          refine g_drawR ord_f10_r12_P18 (by kernel_rfl) T.mixed hw (fun w hw => ?_)
          refine rs_a 0 rfl rfl rfl rfl (v_move rfl) ?_
          refine rs_a 1 rfl rfl rfl rfl (v_nilCheck rfl) ?_
          refine rs_a 2 rfl rfl rfl rfl (v_fieldAddr0 T.fld_35_1_1 rfl) ?_
          refine rs_v 3 rfl rfl rfl rfl (OpV.mono (v_load T.scal_32 rfl) (fun w hw => by exact sat_cell hw (by (repeat first | with_reducible exact xH | apply xT); first | done | fail) rfl)) (by exact hw) ?_
          refine rs_v 4 rfl rfl rfl rfl (OpV.mono (v_loadAgg (vs := [_, _, _, _]) T.agg_51_4 rfl rfl) (fun w hw => by exact sat_cells hw (by (repeat first | with_reducible exact xH | apply xT); first | done | fail) ⟨rfl, rfl, rfl, rfl, trivial⟩)) (by exact hw) ?_
          refine rs_kv 5 rfl rfl rfl rfl (by exact sat_cells hw (by (repeat first | with_reducible exact xH | apply xT); first | done | fail) ⟨rfl, rfl, rfl, trivial⟩) (v_loadAgg (vs := [_, _, _]) T.agg_48_3 rfl rfl) ?_
          refine rs_k 6 rfl rfl (k_callf Try.func30 rfl rfl rfl rfl ?_)
          refine Calls.mono (cput2_calls (g := gc) (gl := g) (S.ref r) hrk hnd hels hS.ch (hw.xQ)) ?_
          rintro _ w ⟨g2, lv2, cells2, hg2, rfl, hels2, hw⟩
          refine ⟨_, rfl, ?_⟩
          refine ⟨fun hn => absurd (by decide) hn, ?_⟩
          refine rs_done (g_le (xS rfl (xS rfl (xS rfl (xS rfl (xS rfl (xS rfl (xS rfl (Fr.le_refl _)))))))) ?_)
          refine g_seq ?_
          refine g_region ?_
          refine rl_v rfl rfl rfl (by exact sat_cells hw (by (repeat first | with_reducible exact xH | apply xT); first | done | fail) ⟨rfl, rfl, rfl, rfl, trivial⟩) (v_loadAgg (vs := [_, _, _, _]) T.agg_51_4 rfl rfl) ?_
          refine rl_k rfl (k_storeWhole hw T.agg_51_4 rfl rfl (by simp [Value.oneCell']) rfl (by (repeat first | with_reducible exact xH | apply xT); first | done | fail) rfl (fun w hw => ?_))
          refine xV rfl rfl rfl (v_assign rfl) ?_
          refine rl_nil (g_le (xK (xS rfl (Fr.le_refl _))) ?_)
          refine g_res2 Try.func10 rfl ⟨_, rfl, holds_agg (vs := [_, _, _, _]) T.agg_51_4 rfl (by exact sat_cells hw (by (repeat first | with_reducible exact xH | apply xT); first | done | fail) ⟨rfl, rfl, rfl, rfl, trivial⟩)⟩ rfl ?_
          have e9 : S.wr q n = (S.ref r, 0, { S.laid r with ch := (S.ch.put (S.ref r) n).2 }) := by unfold PS.wr; rw [if_neg h1, hr, if_neg h3]
          rw [e9]
          refine ⟨rfl, pg_close ⟨a.l, a.c, a.d, a.m, a.p, a.b, a.k, lv2, a.dv, cells2⟩ hels2 ?_⟩
          dsimp only [PS.laid]
          exact hw.xQ
def PS.raw (S : PS) (q : Qt) (r : Rf) : Nd × Int :=
  if (S.md.read r.seg r.off r.len).2 ≠ 0 then (nd0, (S.md.read r.seg r.off r.len).2) else if (openN q r.key (S.md.read r.seg r.off r.len).1).2 ≠ 0 then (nd0, 160) else ((openN q r.key (S.md.read r.seg r.off r.len).1).1, 0)
def PS.got (S : PS) (c : Ch) : PS := { S with ch := c }
def PS.rd (S : PS) (q : Qt) (r : Rf) : Nd × Int × PS :=
  if ¬ refR r then (nd0, 61, S) else
  if (S.ch.get r).2.1 = true then ((S.ch.get r).1, 0, S.got (S.ch.get r).2.2) else
  if (S.raw q r).2 ≠ 0 then (nd0, (S.raw q r).2, S.got (S.ch.get r).2.2) else ((S.raw q r).1, 0, S.got ((S.ch.get r).2.2.put r (S.raw q r).1).2)
theorem cgetO_calls {E : Env} {w : World} {L : List As} {g : Hp} {c : Nat} {s : Ch} {lv : Value} {cells : List Value} (r : Rf) (hels : Els rdHd 8 g cells s.l) (hb : s.l.length ≤ 100000) (hw : Sat E w (pt c (.cells [Value.int .i64 (s : Ch).room, lv, .int .i64 (s : Ch).hits, .int .i64 (s : Ch).misses].toArray 104 (0, 0)) :: OwnSl 119 8 lv (s : Ch).l.length cells :: RO g :: L)) :
    Calls Try.prog 36 #[.pointer (some ⟨c, 0, none⟩), .agg r.cells.toArray] w fun e w' => ∃ lv' cells' ea ec ka kc vs, e = .returned (.tuple #[.agg #[.bool (s.get r).1.leaf, .slice ea (s.get r).1.entries.length ec, .slice ka (s.get r).1.kids.length kc], .bool (s.get r).2.1]) ∧ (s.get r).1.fine ∧ Els rdHd 8 g cells' (s.get r).2.2.l ∧
      Sat E w' (OwnSl 126 2 (.slice ea (s.get r).1.entries.length ec) ((s.get r).1).entries.length (enCells ((s.get r).1).entries vs) :: eachOf VnsOf vs ((s.get r).1).entries :: KdsAt (.slice ka (s.get r).1.kids.length kc) ((s.get r).1).kids :: pt c (.cells [Value.int .i64 ((s.get r).2.2 : Ch).room, lv', .int .i64 ((s.get r).2.2 : Ch).hits, .int .i64 ((s.get r).2.2 : Ch).misses].toArray 104 (0, 0)) :: OwnSl 119 8 lv' ((s.get r).2.2 : Ch).l.length cells' :: RO g :: L) := by
  have hpb := s.pl_bound r
  by_cases h : s.pl r = -1
  · rw [Ch.get_no h]
    refine Calls.mono (cgetNo_calls r h hels hb hw) ?_
    rintro _ w ⟨rfl, hw⟩
    exact ⟨lv, cells, none, 0, none, 0, [], rfl, nd0_fine6, hels, own_nd6 hw⟩
  · have hlt : (s.pl r).toNat < s.l.length := by omega
    have hx : s.l[(s.pl r).toNat]? = some s.l[(s.pl r).toNat] := List.getElem?_eq_getElem hlt
    rw [Ch.get_yes (i := (s.pl r).toNat) (by omega) hx]
    obtain ⟨_, _, _, _, _, _, _, _, hnd0, _, _⟩ := hd_cells hels hx
    refine Calls.mono (cgetYes_calls r (s.pl r).toNat (by omega) hx hels hb hw) ?_
    rintro _ w ⟨lv', cells', ev, kv, vs, rfl, hels', hw⟩
    obtain ⟨a4, c4, rfl, _, _, _⟩ := (hw.pick .at2).own_shape
    obtain ⟨a5, c5, rfl, _, _, _⟩ := (hw.pick .at4).own_shape
    exact ⟨lv', cells', _, _, _, _, vs, rfl, Nd.fine_of hnd0, hels', hw.xQ⟩
theorem ord_f16_r3_P18 : orderOfB Try.f16 3 [5, 10] (.a 0 (.a 1 (.a 2 (.v 3 (.v 4 (.b2 5 9 (.a 6 (.a 7 (.a 8 (.k 9 (.k 10 (.k 11 .done)))))) (.k 5 (.k 6 (.a 7 (.a 8 (.k 10 (.k 11 .done)))))))))))) = true := by kernel_rfl
theorem ord_f16_r6_P18 : orderOfB Try.f16 6 [13] (.a 0 (.a 1 (.a 2 (.a 7 (.a 9 (.a 11 (.v 3 (.a 4 (.a 5 (.v 6 (.v 8 (.v 10 (.k 12 (.k 13 (.k 14 (.a 15 (.a 16 (.k 17 (.k 18 .done))))))))))))))))))) = true := by kernel_rfl
theorem ord_f16_r9_P18 : orderOfB Try.f16 9 [7, 12] (.a 0 (.a 1 (.a 2 (.a 4 (.a 6 (.v 3 (.v 5 (.b2 7 11 (.a 8 (.a 9 (.a 10 (.k 11 (.k 12 (.k 13 .done)))))) (.k 7 (.k 8 (.a 9 (.a 10 (.k 12 (.k 13 .done)))))))))))))) = true := by kernel_rfl
theorem ord_f16_r12_P18 : orderOfB Try.f16 12 [6] (.a 0 (.a 1 (.a 2 (.v 3 (.v 4 (.k 5 (.k 6 .done))))))) = true := by kernel_rfl
set_option maxHeartbeats 2000000 in
theorem pread_calls {E : Env} {w : World} {L : List As} {pp : Nat} {q : Qt} {S : PS} (hS : S.ok) (r : Rf) (hr : r.ok) (hw : Sat E w (PgA pp q S :: L)) :
    Calls Try.prog 16 #[.pointer (some ⟨pp, 0, none⟩), .agg r.cells.toArray] w fun e w' => ∃ ea ec ka kc vs, e = .returned (.tuple #[.agg #[.bool (S.rd q r).1.leaf, .slice ea (S.rd q r).1.entries.length ec, .slice ka (S.rd q r).1.kids.length kc], .int .i64 (S.rd q r).2.1]) ∧ (S.rd q r).1.fine ∧
      Sat E w' (OwnSl 126 2 (.slice ea (S.rd q r).1.entries.length ec) ((S.rd q r).1).entries.length (enCells ((S.rd q r).1).entries vs) :: eachOf VnsOf vs ((S.rd q r).1).entries :: KdsAt (.slice ka (S.rd q r).1.kids.length kc) ((S.rd q r).1).kids :: PgA pp q (S.rd q r).2.2 :: L) := by
  obtain ⟨a, gc, hels, hw⟩ := pg_open hw
  have hgf := S.ch.get_facts r
  have hch := hS.ch
  have hsz : (S.md.read r.seg r.off r.len).1.size ≤ reachBytes := by
    unfold Md.read
    split
    · rename_i h1
      split
      · show (0 : Nat) ≤ _; omega
      · have h2 := Md.seg_le hS.md h1
        have h3 := hS.md.2.2.2.1
        simp only [ByteArray.size_extract, reachBytes]; omega
    · show (0 : Nat) ≤ _; omega
  have hro : -9223372036854775808 ≤ r.off ∧ r.off ≤ 9223372036854775807 := by
    have h1 := hr.2.2.1
    have e1 : IntKind.i64.min = -9223372036854775808 := rfl
    have e2 : IntKind.i64.max = 9223372036854775807 := rfl
    simp only [Lit.wf, e1, e2, Bool.and_eq_true, decide_eq_true_eq] at h1
    exact h1
  refine calls_of_g (n := 69) Try.func16 rfl rfl rfl ?_
  change G _ _ _ _ _ [(0, _), (1, _)] _
  refine g_seq ?_
  refine g_region ?_
  refine rl_k rfl (k_box hw rfl rfl rfl (fun bk0_0 w hw => ?_))
  refine rl_k rfl (k_alloc hw T.zero_48 rfl rfl (fun bk0_1 w hw => ?_))
  refine xV rfl rfl rfl (v_assign rfl) ?_
  refine rl_nil (g_le (xK (xK (xK (Fr.le_refl _)))) ?_)
  refine g_seq (g_seq ?_)
  refine g_region ?_
  refine rl_v rfl rfl rfl (by exact sat_cells hw (by (repeat first | with_reducible exact xH | apply xT); first | done | fail) ⟨rfl, rfl, rfl, rfl, trivial⟩) (v_loadAgg (vs := [_, _, _, _]) T.agg_51_4 rfl rfl) ?_
  refine rl_k rfl (k_callf Try.func35 rfl rfl rfl rfl ?_)
  refine Calls.mono (refRight_calls r (hw.xQ)) ?_
  rintro _ w ⟨rfl, hw⟩
  refine ⟨_, rfl, ?_⟩
  refine xV rfl rfl rfl (v_not rfl) ?_
  refine rl_nil (g_le (xK (xS rfl (xS rfl (Fr.le_refl _)))) ?_)
  refine g_cond rfl (fun h1 => ?_) (fun h1 => ?_)
  · try with_reducible exact ft_elim h1
    all_goals
      try replace h1 := of_decide_eq_true h1
      refine g_seq ?_
      refine g_region ?_
      refine xV rfl rfl rfl (v_build rfl (T.build_48 ..)) ?_
      refine rl_k rfl (k_storeWhole hw T.agg_48_3 rfl rfl (by simp [Value.oneCell']) rfl (by (repeat first | with_reducible exact xH | apply xT); first | done | fail) rfl (fun w hw => ?_))
      refine xV rfl rfl rfl (v_assign rfl) ?_
      refine rl_nil (g_le (xK (xS rfl (Fr.le_refl _))) ?_)
      refine g_res2 Try.func16 rfl ⟨_, rfl, holds_agg (vs := [_, _, _]) T.agg_48_3 rfl (by exact sat_cells hw (by (repeat first | with_reducible exact xH | apply xT); first | done | fail) ⟨rfl, rfl, rfl, trivial⟩)⟩ rfl ?_
      have e9 : S.rd q r = (nd0, 61, S) := by unfold PS.rd; rw [if_pos (by simpa using h1)]
      rw [e9]
      exact ⟨none, 0, none, 0, [], rfl, nd0_fine6, own_nd6 (pg_close a hels (hw.xQ))⟩
  · try with_reducible exact tf_elim h1
    all_goals
      try replace h1 := of_decide_eq_false h1
      have hrr : refR r := by simpa using h1
      refine g_skip (g_seq (g_seq ?_))
      have hgo := fun {w : World} {L : List As} => cgetO_calls (E := E) (w := w) (L := L) (c := a.c) (lv := a.lv) r hels hch
      have hrd : S.rd q r = if (S.ch.get r).2.1 = true then ((S.ch.get r).1, 0, S.got (S.ch.get r).2.2) else if (S.raw q r).2 ≠ 0 then (nd0, (S.raw q r).2, S.got (S.ch.get r).2.2) else ((S.raw q r).1, 0, S.got ((S.ch.get r).2.2.put r (S.raw q r).1).2) := by unfold PS.rd; rw [if_neg (by simpa using hrr)]
      generalize S.ch.get r = gt at hgo hrd hgf
      obtain ⟨xn, yes, c2⟩ := gt
      dsimp only at hgo hrd hgf
      have hw := ((hw.xP (A := RO gc)).xP (A := OwnSl 119 8 a.lv S.ch.l.length a.cells)).xP (A := pt a.c (.cells [Value.int .i64 S.ch.room, a.lv, .int .i64 S.ch.hits, .int .i64 S.ch.misses].toArray 104 (0, 0)))
      refine g_drawB ord_f16_r3_P18 (by kernel_rfl) T.mixed (fun w hw => (((hw.pick .at0).drop.pick .at0).drop.pick .at0).drop) hw (fun w hw => ?_)
      refine rs_a 0 rfl rfl rfl rfl (v_move rfl) ?_
      refine rs_a 1 rfl rfl rfl rfl (v_nilCheck rfl) ?_
      refine rs_a 2 rfl rfl rfl rfl (v_fieldAddr0 T.fld_35_1_1 rfl) ?_
      refine rs_v 3 rfl rfl rfl rfl (OpV.mono (v_load T.scal_32 rfl) (fun w hw => by exact sat_cell hw (by (repeat first | with_reducible exact xH | apply xT); first | done | fail) rfl)) (by exact Sat.sub hw (by (repeat (first | with_reducible exact Sub.refl _ | exact Sub.nil _ | (apply Sub.cons; focus ((repeat (first | with_reducible exact Pick.here _ | apply Pick.there)); (first | done | fail))) | with_reducible apply Sub.drop)); first | done | fail)) ?_
      refine rs_v 4 rfl rfl rfl rfl (OpV.mono (v_loadAgg (vs := [_, _, _, _]) T.agg_51_4 rfl rfl) (fun w hw => by exact sat_cells hw (by (repeat first | with_reducible exact xH | apply xT); first | done | fail) ⟨rfl, rfl, rfl, rfl, trivial⟩)) (by exact Sat.sub hw (by (repeat (first | with_reducible exact Sub.refl _ | exact Sub.nil _ | (apply Sub.cons; focus ((repeat (first | with_reducible exact Pick.here _ | apply Pick.there)); (first | done | fail))) | with_reducible apply Sub.drop)); first | done | fail)) ?_
      refine rs_b2 5 9 rfl rfl rfl rfl ?_ ?_ 
      · skip
        refine (k_callf Try.func36 rfl rfl rfl rfl ?_)
        refine Calls.mono (hgo (hw.xQ)) ?_
        rintro _ w ⟨lv2, cells2, ea, ec, ka, kc, vs, rfl, hfi, hels2, hw⟩
        refine ⟨_, rfl, ?_⟩
        refine ⟨fun hn => absurd (by decide) hn, ?_⟩
        refine rs_a 6 rfl rfl rfl rfl (v_move rfl) ?_
        refine rs_a 7 rfl rfl rfl rfl (v_extract rfl rfl) ?_
        refine rs_a 8 rfl rfl rfl rfl (v_extract rfl rfl) ?_
        refine rs_k 9 rfl rfl (k_alloc hw T.zero_48 rfl rfl (fun bk3_9 w hw => ?_))
        refine ⟨fun _ => (by exact Sat.sub hw (by (repeat (first | with_reducible exact Sub.refl _ | exact Sub.nil _ | (apply Sub.cons; focus ((repeat (first | with_reducible exact Pick.here _ | apply Pick.there)); (first | done | fail))) | with_reducible apply Sub.drop)); first | done | fail)), ?_⟩
        refine rs_k 10 rfl rfl (k_storeWhole hw T.agg_48_3 rfl rfl (by simp [Value.oneCell']) rfl (by (repeat first | with_reducible exact xH | apply xT); first | done | fail) rfl (fun w hw => ?_))
        refine ⟨fun hn => absurd (by decide) hn, ?_⟩
        refine rs_kv 11 rfl rfl rfl rfl (S' := fun _ => True) trivial (v_assign rfl) ?_
        refine rs_done (g_le (xK (xK (xS rfl (xS rfl (xS rfl (xS rfl (xS rfl (xS rfl (xS rfl (xS rfl (xS rfl (Fr.le_refl _)))))))))))) ?_)
        refine g_seq ?_
        refine g_region ?_
        refine xV rfl rfl rfl (v_move rfl) ?_
        refine rl_nil (g_le (xK (Fr.le_refl _)) ?_)
        refine g_cond rfl (fun h2 => ?_) (fun h2 => ?_)
        · try with_reducible exact ft_elim h2
          all_goals
            try replace h2 := of_decide_eq_true h2
            refine g_seq ?_
            refine g_region ?_
            refine rl_v rfl rfl rfl (by exact sat_cells hw (by (repeat first | with_reducible exact xH | apply xT); first | done | fail) ⟨rfl, rfl, rfl, trivial⟩) (v_loadAgg (vs := [_, _, _]) T.agg_48_3 rfl rfl) ?_
            refine rl_k rfl (k_storeWhole hw T.agg_48_3 rfl rfl (by simp [Value.oneCell']) rfl (by (repeat first | with_reducible exact xH | apply xT); first | done | fail) rfl (fun w hw => ?_))
            refine xV rfl rfl rfl (v_assign rfl) ?_
            refine rl_nil (g_le (xK (xS rfl (Fr.le_refl _))) ?_)
            refine g_res2 Try.func16 rfl ⟨_, rfl, holds_agg (vs := [_, _, _]) T.agg_48_3 rfl (by exact sat_cells hw (by (repeat first | with_reducible exact xH | apply xT); first | done | fail) ⟨rfl, rfl, rfl, trivial⟩)⟩ rfl ?_
            rw [hrd, if_pos h2]
            refine ⟨ea, ec, ka, kc, vs, rfl, hfi, ?_⟩
            exact (pg_close (S := S.got c2) ⟨a.l, a.c, a.d, a.m, a.p, a.b, a.k, lv2, a.dv, cells2⟩ hels2 (by dsimp only [PS.got]; exact hw.xQ) : Sat E w (PgA pp q (S.got c2) :: OwnSl 126 2 (.slice ea xn.entries.length ec) (xn).entries.length (enCells (xn).entries vs) :: eachOf VnsOf vs (xn).entries :: KdsAt (.slice ka xn.kids.length kc) (xn).kids :: L)).xQ
        · try with_reducible exact tf_elim h2
          all_goals
            try replace h2 := of_decide_eq_false h2
            rw [if_neg (by simp [h2])] at hrd
            unfold PS.raw at hrd
            refine g_skip (g_seq ?_)
            refine g_drawR ord_f16_r6_P18 (by kernel_rfl) T.mixed hw (fun w hw => ?_)
            refine rs_a 0 rfl rfl rfl rfl (v_move rfl) ?_
            refine rs_a 1 rfl rfl rfl rfl (v_nilCheck rfl) ?_
            refine rs_a 2 rfl rfl rfl rfl (v_fieldAddr0 T.fld_35_0_0 rfl) ?_
            refine rs_a 7 rfl rfl rfl rfl (v_fieldAddr0 T.fld_51_1_1 rfl) ?_
            refine rs_a 9 rfl rfl rfl rfl (v_fieldAddr0 T.fld_51_2_2 rfl) ?_
            refine rs_a 11 rfl rfl rfl rfl (v_fieldAddr0 T.fld_51_3_3 rfl) ?_
            refine rs_v 3 rfl rfl rfl rfl (OpV.mono (v_load T.scal_31 rfl) (fun w hw => by exact sat_cell hw (by (repeat first | with_reducible exact xH | apply xT); first | done | fail) rfl)) (by exact hw) ?_
            refine rs_a 4 rfl rfl rfl rfl (v_nilCheck rfl) ?_
            refine rs_a 5 rfl rfl rfl rfl (v_fieldAddr0 T.fld_39_0_0 rfl) ?_
            refine rs_v 6 rfl rfl rfl rfl (OpV.mono (v_load T.scal_36 rfl) (fun w hw => by exact sat_cell hw (by (repeat first | with_reducible exact xH | apply xT); first | done | fail) rfl)) (by exact hw) ?_
            refine rs_v 8 rfl rfl rfl rfl (OpV.mono (v_load T.scal_3 rfl) (fun w hw => by exact sat_cell hw (by (repeat first | with_reducible exact xH | apply xT); first | done | fail) rfl)) (by exact hw) ?_
            refine rs_v 10 rfl rfl rfl rfl (OpV.mono (v_load T.scal_3 rfl) (fun w hw => by exact sat_cell hw (by (repeat first | with_reducible exact xH | apply xT); first | done | fail) rfl)) (by exact hw) ?_
            refine rs_kv 12 rfl rfl rfl rfl (by exact sat_cell hw (by (repeat first | with_reducible exact xH | apply xT); first | done | fail) rfl) (v_load T.scal_3 rfl) ?_
            refine rs_k 13 rfl rfl (k_callf Try.func37 rfl rfl rfl rfl ?_)
            refine Calls.mono (mread_calls a.m a.p S.md r.seg r.off r.len hro (hw.xP (A := MdAt a.m a.p S.md))) ?_
            generalize S.md.read r.seg r.off r.len = rr at hrd hsz ⊢
            obtain ⟨st, bad⟩ := rr
            dsimp only at hrd hsz ⊢
            rintro _ w ⟨rfl, hw⟩
            refine ⟨_, rfl, ?_⟩
            refine ⟨fun hn => absurd (by decide) hn, ?_⟩
            refine rs_kv 14 rfl rfl rfl rfl (S' := fun _ => True) trivial (v_move rfl) ?_
            refine rs_a 15 rfl rfl rfl rfl (v_extract rfl rfl) ?_
            refine rs_a 16 rfl rfl rfl rfl (v_extract rfl rfl) ?_
            refine rs_kv 17 rfl rfl rfl rfl (S' := fun _ => True) trivial (v_assign rfl) ?_
            refine rs_kv 18 rfl rfl rfl rfl (S' := fun _ => True) trivial (v_assign rfl) ?_
            refine rs_done (g_le (xK (xK (xS rfl (xS rfl (xS rfl (xS rfl (xS rfl (xS rfl (xS rfl (xS rfl (xS rfl (xS rfl (xS rfl (xS rfl (xS rfl (xS rfl (xS rfl (xS rfl (xS rfl (Fr.le_refl _)))))))))))))))))))) ?_)
            refine g_seq (g_seq ?_)
            refine g_region ?_
            refine xV rfl rfl rfl (v_move rfl) ?_
            refine xV rfl rfl rfl (v_neq rfl rfl) ?_
            refine rl_nil (g_le (xK (xS rfl (Fr.le_refl _))) ?_)
            refine g_cond rfl (fun h3 => ?_) (fun h3 => ?_)
            · try with_reducible exact ft_elim h3
              all_goals
                try replace h3 := of_decide_eq_true h3
                refine g_seq ?_
                refine g_region ?_
                refine xV rfl rfl rfl (v_build rfl (T.build_48 ..)) ?_
                refine xV rfl rfl rfl (v_move rfl) ?_
                refine rl_k rfl (k_storeWhole hw T.agg_48_3 rfl rfl (by simp [Value.oneCell']) rfl (by (repeat first | with_reducible exact xH | apply xT); first | done | fail) rfl (fun w hw => ?_))
                refine xV rfl rfl rfl (v_assign rfl) ?_
                refine rl_nil (g_le (xK (xS rfl (xS rfl (Fr.le_refl _)))) ?_)
                refine g_res2 Try.func16 rfl ⟨_, rfl, holds_agg (vs := [_, _, _]) T.agg_48_3 rfl (by exact sat_cells hw (by (repeat first | with_reducible exact xH | apply xT); first | done | fail) ⟨rfl, rfl, rfl, trivial⟩)⟩ rfl ?_
                rw [if_pos h3] at hrd
                dsimp only at hrd
                rw [if_pos h3] at hrd
                rw [hrd]
                exact ⟨none, 0, none, 0, [], rfl, nd0_fine6, own_nd6 (pg_close (S := S.got c2) ⟨a.l, a.c, a.d, a.m, a.p, a.b, a.k, lv2, a.dv, cells2⟩ hels2 (by dsimp only [PS.got]; exact hw.xQ))⟩
            · try with_reducible exact tf_elim h3
              all_goals
                try replace h3 := of_decide_eq_false h3
                rw [if_neg h3] at hrd
                refine g_skip (g_seq ?_)
                have hop := fun {w : World} {L : List As} => openN_calls (E := E) (w := w) (L := L) (g := gc) q r.key hsz
                generalize openN q r.key st = oo at hrd hop
                obtain ⟨x, er⟩ := oo
                dsimp only at hrd hop
                refine g_drawR ord_f16_r9_P18 (by kernel_rfl) T.mixed hw (fun w hw => ?_)
                refine rs_a 0 rfl rfl rfl rfl (v_move rfl) ?_
                refine rs_a 1 rfl rfl rfl rfl (v_nilCheck rfl) ?_
                refine rs_a 2 rfl rfl rfl rfl (v_fieldAddr0 T.fld_35_3_3 rfl) ?_
                refine rs_a 4 rfl rfl rfl rfl (v_fieldAddr0 T.fld_51_0_0 rfl) ?_
                refine rs_a 6 rfl rfl rfl rfl (v_move rfl) ?_
                refine rs_v 3 rfl rfl rfl rfl (OpV.mono (v_loadAgg (vs := [_, _, _, _, _, _, _]) T.agg_23_7 rfl rfl) (fun w hw => by exact sat_cells hw (by (repeat first | with_reducible exact xH | apply xT); first | done | fail) ⟨rfl, rfl, rfl, rfl, rfl, rfl, rfl, trivial⟩)) (by exact hw) ?_
                refine rs_v 5 rfl rfl rfl rfl (OpV.mono (v_load T.scal_49 rfl) (fun w hw => by exact sat_cell hw (by (repeat first | with_reducible exact xH | apply xT); first | done | fail) rfl)) (by exact hw) ?_
                refine rs_b2 7 11 rfl rfl rfl rfl ?_ ?_ 
                · skip
                  refine (k_callf Try.func38 rfl rfl rfl rfl ?_)
                  refine Calls.mono (hop (hw.xP (A := RO gc))) ?_
                  rintro _ w ⟨ev, kv, vs3, rfl, hfi3, hw⟩
                  have hz := hw
                  clear hw
                  obtain ⟨xa, xc, rfl, _, _, _⟩ := hz.own_shape
                  obtain ⟨ya, yc, rfl, _, _, _⟩ := (hz.pick .at2).own_shape
                  have hw := hz
                  clear hz
                  refine ⟨_, rfl, ?_⟩
                  refine ⟨fun hn => absurd (by decide) hn, ?_⟩
                  refine rs_a 8 rfl rfl rfl rfl (v_move rfl) ?_
                  refine rs_a 9 rfl rfl rfl rfl (v_extract rfl rfl) ?_
                  refine rs_a 10 rfl rfl rfl rfl (v_extract rfl rfl) ?_
                  refine rs_k 11 rfl rfl (k_alloc hw T.zero_48 rfl rfl (fun bk9_11 w hw => ?_))
                  refine ⟨fun _ => (by exact Sat.sub hw (by (repeat (first | with_reducible exact Sub.refl _ | exact Sub.nil _ | (apply Sub.cons; focus ((repeat (first | with_reducible exact Pick.here _ | apply Pick.there)); (first | done | fail))) | with_reducible apply Sub.drop)); first | done | fail)), ?_⟩
                  refine rs_k 12 rfl rfl (k_storeWhole hw T.agg_48_3 rfl rfl (by simp [Value.oneCell']) rfl (by (repeat first | with_reducible exact xH | apply xT); first | done | fail) rfl (fun w hw => ?_))
                  refine ⟨fun hn => absurd (by decide) hn, ?_⟩
                  refine rs_kv 13 rfl rfl rfl rfl (S' := fun _ => True) trivial (v_assign rfl) ?_
                  refine rs_done (g_le (xK (xK (xS rfl (xS rfl (xS rfl (xS rfl (xS rfl (xS rfl (xS rfl (xS rfl (xS rfl (xS rfl (xS rfl (Fr.le_refl _)))))))))))))) ?_)
                  refine g_seq (g_seq ?_)
                  refine g_region ?_
                  refine xV rfl rfl rfl (v_move rfl) ?_
                  refine xV rfl rfl rfl (v_neq rfl rfl) ?_
                  refine rl_nil (g_le (xK (xS rfl (Fr.le_refl _))) ?_)
                  refine g_cond rfl (fun h4 => ?_) (fun h4 => ?_)
                  · try with_reducible exact ft_elim h4
                    all_goals
                      try replace h4 := of_decide_eq_true h4
                      refine g_seq ?_
                      refine g_region ?_
                      refine xV rfl rfl rfl (v_build rfl (T.build_48 ..)) ?_
                      refine rl_k rfl (k_storeWhole hw T.agg_48_3 rfl rfl (by simp [Value.oneCell']) rfl (by (repeat first | with_reducible exact xH | apply xT); first | done | fail) rfl (fun w hw => ?_))
                      refine xV rfl rfl rfl (v_assign rfl) ?_
                      refine rl_nil (g_le (xK (xS rfl (Fr.le_refl _))) ?_)
                      refine g_res2 Try.func16 rfl ⟨_, rfl, holds_agg (vs := [_, _, _]) T.agg_48_3 rfl (by exact sat_cells hw (by (repeat first | with_reducible exact xH | apply xT); first | done | fail) ⟨rfl, rfl, rfl, trivial⟩)⟩ rfl ?_
                      rw [if_pos h4] at hrd
                      dsimp only at hrd
                      rw [if_pos (by simp)] at hrd
                      rw [hrd]
                      exact ⟨none, 0, none, 0, [], rfl, nd0_fine6, own_nd6 (pg_close (S := S.got c2) ⟨a.l, a.c, a.d, a.m, a.p, a.b, a.k, lv2, a.dv, cells2⟩ hels2 (by dsimp only [PS.got]; exact hw.xQ))⟩
                  · try with_reducible exact tf_elim h4
                    all_goals
                      try replace h4 := of_decide_eq_false h4
                      rw [if_neg h4] at hrd
                      dsimp only at hrd
                      rw [if_neg (by simp)] at hrd
                      obtain ⟨hN, hA, hnd, hw⟩ := nd_lend (x := x) (ev := .slice xa x.entries.length xc) (kv := .slice ya x.kids.length yc) (vs := vs3) hfi3 (hw.xQ)
                      refine g_skip (g_seq ?_)
                      refine g_drawR ord_f16_r12_P18 (by kernel_rfl) T.mixed hw (fun w hw => ?_)
                      refine rs_a 0 rfl rfl rfl rfl (v_move rfl) ?_
                      refine rs_a 1 rfl rfl rfl rfl (v_nilCheck rfl) ?_
                      refine rs_a 2 rfl rfl rfl rfl (v_fieldAddr0 T.fld_35_1_1 rfl) ?_
                      refine rs_v 3 rfl rfl rfl rfl (OpV.mono (v_load T.scal_32 rfl) (fun w hw => by exact sat_cell hw (by (repeat first | with_reducible exact xH | apply xT); first | done | fail) rfl)) (by exact hw) ?_
                      refine rs_v 4 rfl rfl rfl rfl (OpV.mono (v_loadAgg (vs := [_, _, _, _]) T.agg_51_4 rfl rfl) (fun w hw => by exact sat_cells hw (by (repeat first | with_reducible exact xH | apply xT); first | done | fail) ⟨rfl, rfl, rfl, rfl, trivial⟩)) (by exact hw) ?_
                      refine rs_kv 5 rfl rfl rfl rfl (by exact sat_cells hw (by (repeat first | with_reducible exact xH | apply xT); first | done | fail) ⟨rfl, rfl, rfl, trivial⟩) (v_loadAgg (vs := [_, _, _]) T.agg_48_3 rfl rfl) ?_
                      refine rs_k 6 rfl rfl (k_callf Try.func30 rfl rfl rfl rfl ?_)
                      refine Calls.mono (cput2_calls (g := gc) (gl := hN) r hr hnd hels2 (by omega) (hw.xQ)) ?_
                      rintro _ w ⟨g2, lv3, cells3, hg2, rfl, hels3, hw⟩
                      refine ⟨_, rfl, ?_⟩
                      refine ⟨fun hn => absurd (by decide) hn, ?_⟩
                      refine rs_done (g_le (xS rfl (xS rfl (xS rfl (xS rfl (xS rfl (xS rfl (xS rfl (Fr.le_refl _)))))))) ?_)
                      refine g_seq ?_
                      refine g_region ?_
                      refine rl_v rfl rfl rfl (by exact sat_cells hw (by (repeat first | with_reducible exact xH | apply xT); first | done | fail) ⟨rfl, rfl, rfl, trivial⟩) (v_loadAgg (vs := [_, _, _]) T.agg_48_3 rfl rfl) ?_
                      refine rl_k rfl (k_storeWhole hw T.agg_48_3 rfl rfl (by simp [Value.oneCell']) rfl (by (repeat first | with_reducible exact xH | apply xT); first | done | fail) rfl (fun w hw => ?_))
                      refine xV rfl rfl rfl (v_assign rfl) ?_
                      refine rl_nil (g_le (xK (xS rfl (Fr.le_refl _))) ?_)
                      refine g_res2 Try.func16 rfl ⟨_, rfl, holds_agg (vs := [_, _, _]) T.agg_48_3 rfl (by exact sat_cells hw (by (repeat first | with_reducible exact xH | apply xT); first | done | fail) ⟨rfl, rfl, rfl, trivial⟩)⟩ rfl ?_
                      have hw := nd_back hA (hw.xP (A := RO hN))
                      rw [hrd]
                      refine ⟨xa, xc, ya, yc, vs3, rfl, hfi3, ?_⟩
                      exact (pg_close (S := S.got (c2.put r x).2) ⟨a.l, a.c, a.d, a.m, a.p, a.b, a.k, lv3, a.dv, cells3⟩ hels3 (by dsimp only [PS.got]; exact hw.xQ) : Sat E w (PgA pp q (S.got (c2.put r x).2) :: OwnSl 126 2 (.slice xa x.entries.length xc) (x).entries.length (enCells (x).entries vs3) :: eachOf VnsOf vs3 (x).entries :: KdsAt (.slice ya x.kids.length yc) (x).kids :: L)).xQ
                · skip
                  refine (k_alloc hw T.zero_48 rfl rfl (fun bk9_11 w hw => ?_))
                  refine ⟨fun _ => (by exact Sat.sub hw (by (repeat (first | with_reducible exact Sub.refl _ | exact Sub.nil _ | (apply Sub.cons; focus ((repeat (first | with_reducible exact Pick.here _ | apply Pick.there)); (first | done | fail))) | with_reducible apply Sub.drop)); first | done | fail)), ?_⟩
                  refine rs_k 7 rfl rfl (k_callf Try.func38 rfl rfl rfl rfl ?_)
                  refine Calls.mono (hop (hw.xP (A := RO gc))) ?_
                  rintro _ w ⟨ev, kv, vs3, rfl, hfi3, hw⟩
                  have hz := hw
                  clear hw
                  obtain ⟨xa, xc, rfl, _, _, _⟩ := hz.own_shape
                  obtain ⟨ya, yc, rfl, _, _, _⟩ := (hz.pick .at2).own_shape
                  have hw := hz
                  clear hz
                  refine ⟨_, rfl, ?_⟩
                  refine ⟨fun hn => absurd (by decide) hn, ?_⟩
                  refine rs_kv 8 rfl rfl rfl rfl (S' := fun _ => True) trivial (v_move rfl) ?_
                  refine rs_a 9 rfl rfl rfl rfl (v_extract rfl rfl) ?_
                  refine rs_a 10 rfl rfl rfl rfl (v_extract rfl rfl) ?_
                  refine rs_k 12 rfl rfl (k_storeWhole hw T.agg_48_3 rfl rfl (by simp [Value.oneCell']) rfl (by (repeat first | with_reducible exact xH | apply xT); first | done | fail) rfl (fun w hw => ?_))
                  refine ⟨fun hn => absurd (by decide) hn, ?_⟩
                  refine rs_kv 13 rfl rfl rfl rfl (S' := fun _ => True) trivial (v_assign rfl) ?_
                  refine rs_done (g_le (xK (xS rfl (xS rfl (xS rfl (xS rfl (xK (xS rfl (xS rfl (xS rfl (xS rfl (xS rfl (xS rfl (xS rfl (Fr.le_refl _)))))))))))))) ?_)
                  refine g_seq (g_seq ?_)
                  refine g_region ?_
                  refine xV rfl rfl rfl (v_move rfl) ?_
                  refine xV rfl rfl rfl (v_neq rfl rfl) ?_
                  refine rl_nil (g_le (xK (xS rfl (Fr.le_refl _))) ?_)
                  refine g_cond rfl (fun h4 => ?_) (fun h4 => ?_)
                  · try with_reducible exact ft_elim h4
                    all_goals
                      try replace h4 := of_decide_eq_true h4
                      refine g_seq ?_
                      refine g_region ?_
                      refine xV rfl rfl rfl (v_build rfl (T.build_48 ..)) ?_
                      refine rl_k rfl (k_storeWhole hw T.agg_48_3 rfl rfl (by simp [Value.oneCell']) rfl (by (repeat first | with_reducible exact xH | apply xT); first | done | fail) rfl (fun w hw => ?_))
                      refine xV rfl rfl rfl (v_assign rfl) ?_
                      refine rl_nil (g_le (xK (xS rfl (Fr.le_refl _))) ?_)
                      refine g_res2 Try.func16 rfl ⟨_, rfl, holds_agg (vs := [_, _, _]) T.agg_48_3 rfl (by exact sat_cells hw (by (repeat first | with_reducible exact xH | apply xT); first | done | fail) ⟨rfl, rfl, rfl, trivial⟩)⟩ rfl ?_
                      rw [if_pos h4] at hrd
                      dsimp only at hrd
                      rw [if_pos (by simp)] at hrd
                      rw [hrd]
                      exact ⟨none, 0, none, 0, [], rfl, nd0_fine6, own_nd6 (pg_close (S := S.got c2) ⟨a.l, a.c, a.d, a.m, a.p, a.b, a.k, lv2, a.dv, cells2⟩ hels2 (by dsimp only [PS.got]; exact hw.xQ))⟩
                  · try with_reducible exact tf_elim h4
                    all_goals
                      try replace h4 := of_decide_eq_false h4
                      rw [if_neg h4] at hrd
                      dsimp only at hrd
                      rw [if_neg (by simp)] at hrd
                      obtain ⟨hN, hA, hnd, hw⟩ := nd_lend (x := x) (ev := .slice xa x.entries.length xc) (kv := .slice ya x.kids.length yc) (vs := vs3) hfi3 (hw.xQ)
                      refine g_skip (g_seq ?_)
                      refine g_drawR ord_f16_r12_P18 (by kernel_rfl) T.mixed hw (fun w hw => ?_)
                      refine rs_a 0 rfl rfl rfl rfl (v_move rfl) ?_
                      refine rs_a 1 rfl rfl rfl rfl (v_nilCheck rfl) ?_
                      refine rs_a 2 rfl rfl rfl rfl (v_fieldAddr0 T.fld_35_1_1 rfl) ?_
                      refine rs_v 3 rfl rfl rfl rfl (OpV.mono (v_load T.scal_32 rfl) (fun w hw => by exact sat_cell hw (by (repeat first | with_reducible exact xH | apply xT); first | done | fail) rfl)) (by exact hw) ?_
                      refine rs_v 4 rfl rfl rfl rfl (OpV.mono (v_loadAgg (vs := [_, _, _, _]) T.agg_51_4 rfl rfl) (fun w hw => by exact sat_cells hw (by (repeat first | with_reducible exact xH | apply xT); first | done | fail) ⟨rfl, rfl, rfl, rfl, trivial⟩)) (by exact hw) ?_
                      refine rs_kv 5 rfl rfl rfl rfl (by exact sat_cells hw (by (repeat first | with_reducible exact xH | apply xT); first | done | fail) ⟨rfl, rfl, rfl, trivial⟩) (v_loadAgg (vs := [_, _, _]) T.agg_48_3 rfl rfl) ?_
                      refine rs_k 6 rfl rfl (k_callf Try.func30 rfl rfl rfl rfl ?_)
                      refine Calls.mono (cput2_calls (g := gc) (gl := hN) r hr hnd hels2 (by omega) (hw.xQ)) ?_
                      rintro _ w ⟨g2, lv3, cells3, hg2, rfl, hels3, hw⟩
                      refine ⟨_, rfl, ?_⟩
                      refine ⟨fun hn => absurd (by decide) hn, ?_⟩
                      refine rs_done (g_le (xS rfl (xS rfl (xS rfl (xS rfl (xS rfl (xS rfl (xS rfl (Fr.le_refl _)))))))) ?_)
                      refine g_seq ?_
                      refine g_region ?_
                      refine rl_v rfl rfl rfl (by exact sat_cells hw (by (repeat first | with_reducible exact xH | apply xT); first | done | fail) ⟨rfl, rfl, rfl, trivial⟩) (v_loadAgg (vs := [_, _, _]) T.agg_48_3 rfl rfl) ?_
                      refine rl_k rfl (k_storeWhole hw T.agg_48_3 rfl rfl (by simp [Value.oneCell']) rfl (by (repeat first | with_reducible exact xH | apply xT); first | done | fail) rfl (fun w hw => ?_))
                      refine xV rfl rfl rfl (v_assign rfl) ?_
                      refine rl_nil (g_le (xK (xS rfl (Fr.le_refl _))) ?_)
                      refine g_res2 Try.func16 rfl ⟨_, rfl, holds_agg (vs := [_, _, _]) T.agg_48_3 rfl (by exact sat_cells hw (by (repeat first | with_reducible exact xH | apply xT); first | done | fail) ⟨rfl, rfl, rfl, trivial⟩)⟩ rfl ?_
                      have hw := nd_back hA (hw.xP (A := RO hN))
                      rw [hrd]
                      refine ⟨xa, xc, ya, yc, vs3, rfl, hfi3, ?_⟩
                      exact (pg_close (S := S.got (c2.put r x).2) ⟨a.l, a.c, a.d, a.m, a.p, a.b, a.k, lv3, a.dv, cells3⟩ hels3 (by dsimp only [PS.got]; exact hw.xQ) : Sat E w (PgA pp q (S.got (c2.put r x).2) :: OwnSl 126 2 (.slice xa x.entries.length xc) (x).entries.length (enCells (x).entries vs3) :: eachOf VnsOf vs3 (x).entries :: KdsAt (.slice ya x.kids.length yc) (x).kids :: L)).xQ
      · skip
        refine (k_alloc hw T.zero_48 rfl rfl (fun bk3_9 w hw => ?_))
        refine ⟨fun _ => (by exact Sat.sub hw (by (repeat (first | with_reducible exact Sub.refl _ | exact Sub.nil _ | (apply Sub.cons; focus ((repeat (first | with_reducible exact Pick.here _ | apply Pick.there)); (first | done | fail))) | with_reducible apply Sub.drop)); first | done | fail)), ?_⟩
        refine rs_k 5 rfl rfl (k_callf Try.func36 rfl rfl rfl rfl ?_)
        refine Calls.mono (hgo (hw.xQ)) ?_
        rintro _ w ⟨lv2, cells2, ea, ec, ka, kc, vs, rfl, hfi, hels2, hw⟩
        refine ⟨_, rfl, ?_⟩
        refine ⟨fun hn => absurd (by decide) hn, ?_⟩
        refine rs_kv 6 rfl rfl rfl rfl (S' := fun _ => True) trivial (v_move rfl) ?_
        refine rs_a 7 rfl rfl rfl rfl (v_extract rfl rfl) ?_
        refine rs_a 8 rfl rfl rfl rfl (v_extract rfl rfl) ?_
        refine rs_k 10 rfl rfl (k_storeWhole hw T.agg_48_3 rfl rfl (by simp [Value.oneCell']) rfl (by (repeat first | with_reducible exact xH | apply xT); first | done | fail) rfl (fun w hw => ?_))
        refine ⟨fun hn => absurd (by decide) hn, ?_⟩
        refine rs_kv 11 rfl rfl rfl rfl (S' := fun _ => True) trivial (v_assign rfl) ?_
        refine rs_done (g_le (xK (xS rfl (xS rfl (xS rfl (xS rfl (xK (xS rfl (xS rfl (xS rfl (xS rfl (xS rfl (Fr.le_refl _)))))))))))) ?_)
        refine g_seq ?_
        refine g_region ?_
        refine xV rfl rfl rfl (v_move rfl) ?_
        refine rl_nil (g_le (xK (Fr.le_refl _)) ?_)
        refine g_cond rfl (fun h2 => ?_) (fun h2 => ?_)
        · try with_reducible exact ft_elim h2
          all_goals
            try replace h2 := of_decide_eq_true h2
            refine g_seq ?_
            refine g_region ?_
            refine rl_v rfl rfl rfl (by exact sat_cells hw (by (repeat first | with_reducible exact xH | apply xT); first | done | fail) ⟨rfl, rfl, rfl, trivial⟩) (v_loadAgg (vs := [_, _, _]) T.agg_48_3 rfl rfl) ?_
            refine rl_k rfl (k_storeWhole hw T.agg_48_3 rfl rfl (by simp [Value.oneCell']) rfl (by (repeat first | with_reducible exact xH | apply xT); first | done | fail) rfl (fun w hw => ?_))
            refine xV rfl rfl rfl (v_assign rfl) ?_
            refine rl_nil (g_le (xK (xS rfl (Fr.le_refl _))) ?_)
            refine g_res2 Try.func16 rfl ⟨_, rfl, holds_agg (vs := [_, _, _]) T.agg_48_3 rfl (by exact sat_cells hw (by (repeat first | with_reducible exact xH | apply xT); first | done | fail) ⟨rfl, rfl, rfl, trivial⟩)⟩ rfl ?_
            rw [hrd, if_pos h2]
            refine ⟨ea, ec, ka, kc, vs, rfl, hfi, ?_⟩
            exact (pg_close (S := S.got c2) ⟨a.l, a.c, a.d, a.m, a.p, a.b, a.k, lv2, a.dv, cells2⟩ hels2 (by dsimp only [PS.got]; exact hw.xQ) : Sat E w (PgA pp q (S.got c2) :: OwnSl 126 2 (.slice ea xn.entries.length ec) (xn).entries.length (enCells (xn).entries vs) :: eachOf VnsOf vs (xn).entries :: KdsAt (.slice ka xn.kids.length kc) (xn).kids :: L)).xQ
        · try with_reducible exact tf_elim h2
          all_goals
            try replace h2 := of_decide_eq_false h2
            rw [if_neg (by simp [h2])] at hrd
            unfold PS.raw at hrd
            refine g_skip (g_seq ?_)
            refine g_drawR ord_f16_r6_P18 (by kernel_rfl) T.mixed hw (fun w hw => ?_)
            refine rs_a 0 rfl rfl rfl rfl (v_move rfl) ?_
            refine rs_a 1 rfl rfl rfl rfl (v_nilCheck rfl) ?_
            refine rs_a 2 rfl rfl rfl rfl (v_fieldAddr0 T.fld_35_0_0 rfl) ?_
            refine rs_a 7 rfl rfl rfl rfl (v_fieldAddr0 T.fld_51_1_1 rfl) ?_
            refine rs_a 9 rfl rfl rfl rfl (v_fieldAddr0 T.fld_51_2_2 rfl) ?_
            refine rs_a 11 rfl rfl rfl rfl (v_fieldAddr0 T.fld_51_3_3 rfl) ?_
            refine rs_v 3 rfl rfl rfl rfl (OpV.mono (v_load T.scal_31 rfl) (fun w hw => by exact sat_cell hw (by (repeat first | with_reducible exact xH | apply xT); first | done | fail) rfl)) (by exact hw) ?_
            refine rs_a 4 rfl rfl rfl rfl (v_nilCheck rfl) ?_
            refine rs_a 5 rfl rfl rfl rfl (v_fieldAddr0 T.fld_39_0_0 rfl) ?_
            refine rs_v 6 rfl rfl rfl rfl (OpV.mono (v_load T.scal_36 rfl) (fun w hw => by exact sat_cell hw (by (repeat first | with_reducible exact xH | apply xT); first | done | fail) rfl)) (by exact hw) ?_
            refine rs_v 8 rfl rfl rfl rfl (OpV.mono (v_load T.scal_3 rfl) (fun w hw => by exact sat_cell hw (by (repeat first | with_reducible exact xH | apply xT); first | done | fail) rfl)) (by exact hw) ?_
            refine rs_v 10 rfl rfl rfl rfl (OpV.mono (v_load T.scal_3 rfl) (fun w hw => by exact sat_cell hw (by (repeat first | with_reducible exact xH | apply xT); first | done | fail) rfl)) (by exact hw) ?_
            refine rs_kv 12 rfl rfl rfl rfl (by exact sat_cell hw (by (repeat first | with_reducible exact xH | apply xT); first | done | fail) rfl) (v_load T.scal_3 rfl) ?_
            refine rs_k 13 rfl rfl (k_callf Try.func37 rfl rfl rfl rfl ?_)
            refine Calls.mono (mread_calls a.m a.p S.md r.seg r.off r.len hro (hw.xP (A := MdAt a.m a.p S.md))) ?_
            generalize S.md.read r.seg r.off r.len = rr at hrd hsz ⊢
            obtain ⟨st, bad⟩ := rr
            dsimp only at hrd hsz ⊢
            rintro _ w ⟨rfl, hw⟩
            refine ⟨_, rfl, ?_⟩
            refine ⟨fun hn => absurd (by decide) hn, ?_⟩
            refine rs_kv 14 rfl rfl rfl rfl (S' := fun _ => True) trivial (v_move rfl) ?_
            refine rs_a 15 rfl rfl rfl rfl (v_extract rfl rfl) ?_
            refine rs_a 16 rfl rfl rfl rfl (v_extract rfl rfl) ?_
            refine rs_kv 17 rfl rfl rfl rfl (S' := fun _ => True) trivial (v_assign rfl) ?_
            refine rs_kv 18 rfl rfl rfl rfl (S' := fun _ => True) trivial (v_assign rfl) ?_
            refine rs_done (g_le (xK (xK (xS rfl (xS rfl (xS rfl (xS rfl (xS rfl (xS rfl (xS rfl (xS rfl (xS rfl (xS rfl (xS rfl (xS rfl (xS rfl (xS rfl (xS rfl (xS rfl (xS rfl (Fr.le_refl _)))))))))))))))))))) ?_)
            refine g_seq (g_seq ?_)
            refine g_region ?_
            refine xV rfl rfl rfl (v_move rfl) ?_
            refine xV rfl rfl rfl (v_neq rfl rfl) ?_
            refine rl_nil (g_le (xK (xS rfl (Fr.le_refl _))) ?_)
            refine g_cond rfl (fun h3 => ?_) (fun h3 => ?_)
            · try with_reducible exact ft_elim h3
              all_goals
                try replace h3 := of_decide_eq_true h3
                refine g_seq ?_
                refine g_region ?_
                refine xV rfl rfl rfl (v_build rfl (T.build_48 ..)) ?_
                refine xV rfl rfl rfl (v_move rfl) ?_
                refine rl_k rfl (k_storeWhole hw T.agg_48_3 rfl rfl (by simp [Value.oneCell']) rfl (by (repeat first | with_reducible exact xH | apply xT); first | done | fail) rfl (fun w hw => ?_))
                refine xV rfl rfl rfl (v_assign rfl) ?_
                refine rl_nil (g_le (xK (xS rfl (xS rfl (Fr.le_refl _)))) ?_)
                refine g_res2 Try.func16 rfl ⟨_, rfl, holds_agg (vs := [_, _, _]) T.agg_48_3 rfl (by exact sat_cells hw (by (repeat first | with_reducible exact xH | apply xT); first | done | fail) ⟨rfl, rfl, rfl, trivial⟩)⟩ rfl ?_
                rw [if_pos h3] at hrd
                dsimp only at hrd
                rw [if_pos h3] at hrd
                rw [hrd]
                exact ⟨none, 0, none, 0, [], rfl, nd0_fine6, own_nd6 (pg_close (S := S.got c2) ⟨a.l, a.c, a.d, a.m, a.p, a.b, a.k, lv2, a.dv, cells2⟩ hels2 (by dsimp only [PS.got]; exact hw.xQ))⟩
            · try with_reducible exact tf_elim h3
              all_goals
                try replace h3 := of_decide_eq_false h3
                rw [if_neg h3] at hrd
                refine g_skip (g_seq ?_)
                have hop := fun {w : World} {L : List As} => openN_calls (E := E) (w := w) (L := L) (g := gc) q r.key hsz
                generalize openN q r.key st = oo at hrd hop
                obtain ⟨x, er⟩ := oo
                dsimp only at hrd hop
                refine g_drawR ord_f16_r9_P18 (by kernel_rfl) T.mixed hw (fun w hw => ?_)
                refine rs_a 0 rfl rfl rfl rfl (v_move rfl) ?_
                refine rs_a 1 rfl rfl rfl rfl (v_nilCheck rfl) ?_
                refine rs_a 2 rfl rfl rfl rfl (v_fieldAddr0 T.fld_35_3_3 rfl) ?_
                refine rs_a 4 rfl rfl rfl rfl (v_fieldAddr0 T.fld_51_0_0 rfl) ?_
                refine rs_a 6 rfl rfl rfl rfl (v_move rfl) ?_
                refine rs_v 3 rfl rfl rfl rfl (OpV.mono (v_loadAgg (vs := [_, _, _, _, _, _, _]) T.agg_23_7 rfl rfl) (fun w hw => by exact sat_cells hw (by (repeat first | with_reducible exact xH | apply xT); first | done | fail) ⟨rfl, rfl, rfl, rfl, rfl, rfl, rfl, trivial⟩)) (by exact hw) ?_
                refine rs_v 5 rfl rfl rfl rfl (OpV.mono (v_load T.scal_49 rfl) (fun w hw => by exact sat_cell hw (by (repeat first | with_reducible exact xH | apply xT); first | done | fail) rfl)) (by exact hw) ?_
                refine rs_b2 7 11 rfl rfl rfl rfl ?_ ?_ 
                · skip
                  refine (k_callf Try.func38 rfl rfl rfl rfl ?_)
                  refine Calls.mono (hop (hw.xP (A := RO gc))) ?_
                  rintro _ w ⟨ev, kv, vs3, rfl, hfi3, hw⟩
                  have hz := hw
                  clear hw
                  obtain ⟨xa, xc, rfl, _, _, _⟩ := hz.own_shape
                  obtain ⟨ya, yc, rfl, _, _, _⟩ := (hz.pick .at2).own_shape
                  have hw := hz
                  clear hz
                  refine ⟨_, rfl, ?_⟩
                  refine ⟨fun hn => absurd (by decide) hn, ?_⟩
                  refine rs_a 8 rfl rfl rfl rfl (v_move rfl) ?_
                  refine rs_a 9 rfl rfl rfl rfl (v_extract rfl rfl) ?_
                  refine rs_a 10 rfl rfl rfl rfl (v_extract rfl rfl) ?_
                  refine rs_k 11 rfl rfl (k_alloc hw T.zero_48 rfl rfl (fun bk9_11 w hw => ?_))
                  refine ⟨fun _ => (by exact Sat.sub hw (by (repeat (first | with_reducible exact Sub.refl _ | exact Sub.nil _ | (apply Sub.cons; focus ((repeat (first | with_reducible exact Pick.here _ | apply Pick.there)); (first | done | fail))) | with_reducible apply Sub.drop)); first | done | fail)), ?_⟩
                  refine rs_k 12 rfl rfl (k_storeWhole hw T.agg_48_3 rfl rfl (by simp [Value.oneCell']) rfl (by (repeat first | with_reducible exact xH | apply xT); first | done | fail) rfl (fun w hw => ?_))
                  refine ⟨fun hn => absurd (by decide) hn, ?_⟩
                  refine rs_kv 13 rfl rfl rfl rfl (S' := fun _ => True) trivial (v_assign rfl) ?_
                  refine rs_done (g_le (xK (xK (xS rfl (xS rfl (xS rfl (xS rfl (xS rfl (xS rfl (xS rfl (xS rfl (xS rfl (xS rfl (xS rfl (Fr.le_refl _)))))))))))))) ?_)
                  refine g_seq (g_seq ?_)
                  refine g_region ?_
                  refine xV rfl rfl rfl (v_move rfl) ?_
                  refine xV rfl rfl rfl (v_neq rfl rfl) ?_
                  refine rl_nil (g_le (xK (xS rfl (Fr.le_refl _))) ?_)
                  refine g_cond rfl (fun h4 => ?_) (fun h4 => ?_)
                  · try with_reducible exact ft_elim h4
                    all_goals
                      try replace h4 := of_decide_eq_true h4
                      refine g_seq ?_
                      refine g_region ?_
                      refine xV rfl rfl rfl (v_build rfl (T.build_48 ..)) ?_
                      refine rl_k rfl (k_storeWhole hw T.agg_48_3 rfl rfl (by simp [Value.oneCell']) rfl (by (repeat first | with_reducible exact xH | apply xT); first | done | fail) rfl (fun w hw => ?_))
                      refine xV rfl rfl rfl (v_assign rfl) ?_
                      refine rl_nil (g_le (xK (xS rfl (Fr.le_refl _))) ?_)
                      refine g_res2 Try.func16 rfl ⟨_, rfl, holds_agg (vs := [_, _, _]) T.agg_48_3 rfl (by exact sat_cells hw (by (repeat first | with_reducible exact xH | apply xT); first | done | fail) ⟨rfl, rfl, rfl, trivial⟩)⟩ rfl ?_
                      rw [if_pos h4] at hrd
                      dsimp only at hrd
                      rw [if_pos (by simp)] at hrd
                      rw [hrd]
                      exact ⟨none, 0, none, 0, [], rfl, nd0_fine6, own_nd6 (pg_close (S := S.got c2) ⟨a.l, a.c, a.d, a.m, a.p, a.b, a.k, lv2, a.dv, cells2⟩ hels2 (by dsimp only [PS.got]; exact hw.xQ))⟩
                  · try with_reducible exact tf_elim h4
                    all_goals
                      try replace h4 := of_decide_eq_false h4
                      rw [if_neg h4] at hrd
                      dsimp only at hrd
                      rw [if_neg (by simp)] at hrd
                      obtain ⟨hN, hA, hnd, hw⟩ := nd_lend (x := x) (ev := .slice xa x.entries.length xc) (kv := .slice ya x.kids.length yc) (vs := vs3) hfi3 (hw.xQ)
                      refine g_skip (g_seq ?_)
                      refine g_drawR ord_f16_r12_P18 (by kernel_rfl) T.mixed hw (fun w hw => ?_)
                      refine rs_a 0 rfl rfl rfl rfl (v_move rfl) ?_
                      refine rs_a 1 rfl rfl rfl rfl (v_nilCheck rfl) ?_
                      refine rs_a 2 rfl rfl rfl rfl (v_fieldAddr0 T.fld_35_1_1 rfl) ?_
                      refine rs_v 3 rfl rfl rfl rfl (OpV.mono (v_load T.scal_32 rfl) (fun w hw => by exact sat_cell hw (by (repeat first | with_reducible exact xH | apply xT); first | done | fail) rfl)) (by exact hw) ?_
                      refine rs_v 4 rfl rfl rfl rfl (OpV.mono (v_loadAgg (vs := [_, _, _, _]) T.agg_51_4 rfl rfl) (fun w hw => by exact sat_cells hw (by (repeat first | with_reducible exact xH | apply xT); first | done | fail) ⟨rfl, rfl, rfl, rfl, trivial⟩)) (by exact hw) ?_
                      refine rs_kv 5 rfl rfl rfl rfl (by exact sat_cells hw (by (repeat first | with_reducible exact xH | apply xT); first | done | fail) ⟨rfl, rfl, rfl, trivial⟩) (v_loadAgg (vs := [_, _, _]) T.agg_48_3 rfl rfl) ?_
                      refine rs_k 6 rfl rfl (k_callf Try.func30 rfl rfl rfl rfl ?_)
                      refine Calls.mono (cput2_calls (g := gc) (gl := hN) r hr hnd hels2 (by omega) (hw.xQ)) ?_
                      rintro _ w ⟨g2, lv3, cells3, hg2, rfl, hels3, hw⟩
                      refine ⟨_, rfl, ?_⟩
                      refine ⟨fun hn => absurd (by decide) hn, ?_⟩
                      refine rs_done (g_le (xS rfl (xS rfl (xS rfl (xS rfl (xS rfl (xS rfl (xS rfl (Fr.le_refl _)))))))) ?_)
                      refine g_seq ?_
                      refine g_region ?_
                      refine rl_v rfl rfl rfl (by exact sat_cells hw (by (repeat first | with_reducible exact xH | apply xT); first | done | fail) ⟨rfl, rfl, rfl, trivial⟩) (v_loadAgg (vs := [_, _, _]) T.agg_48_3 rfl rfl) ?_
                      refine rl_k rfl (k_storeWhole hw T.agg_48_3 rfl rfl (by simp [Value.oneCell']) rfl (by (repeat first | with_reducible exact xH | apply xT); first | done | fail) rfl (fun w hw => ?_))
                      refine xV rfl rfl rfl (v_assign rfl) ?_
                      refine rl_nil (g_le (xK (xS rfl (Fr.le_refl _))) ?_)
                      refine g_res2 Try.func16 rfl ⟨_, rfl, holds_agg (vs := [_, _, _]) T.agg_48_3 rfl (by exact sat_cells hw (by (repeat first | with_reducible exact xH | apply xT); first | done | fail) ⟨rfl, rfl, rfl, trivial⟩)⟩ rfl ?_
                      have hw := nd_back hA (hw.xP (A := RO hN))
                      rw [hrd]
                      refine ⟨xa, xc, ya, yc, vs3, rfl, hfi3, ?_⟩
                      exact (pg_close (S := S.got (c2.put r x).2) ⟨a.l, a.c, a.d, a.m, a.p, a.b, a.k, lv3, a.dv, cells3⟩ hels3 (by dsimp only [PS.got]; exact hw.xQ) : Sat E w (PgA pp q (S.got (c2.put r x).2) :: OwnSl 126 2 (.slice xa x.entries.length xc) (x).entries.length (enCells (x).entries vs3) :: eachOf VnsOf vs3 (x).entries :: KdsAt (.slice ya x.kids.length yc) (x).kids :: L)).xQ
                · skip
                  refine (k_alloc hw T.zero_48 rfl rfl (fun bk9_11 w hw => ?_))
                  refine ⟨fun _ => (by exact Sat.sub hw (by (repeat (first | with_reducible exact Sub.refl _ | exact Sub.nil _ | (apply Sub.cons; focus ((repeat (first | with_reducible exact Pick.here _ | apply Pick.there)); (first | done | fail))) | with_reducible apply Sub.drop)); first | done | fail)), ?_⟩
                  refine rs_k 7 rfl rfl (k_callf Try.func38 rfl rfl rfl rfl ?_)
                  refine Calls.mono (hop (hw.xP (A := RO gc))) ?_
                  rintro _ w ⟨ev, kv, vs3, rfl, hfi3, hw⟩
                  have hz := hw
                  clear hw
                  obtain ⟨xa, xc, rfl, _, _, _⟩ := hz.own_shape
                  obtain ⟨ya, yc, rfl, _, _, _⟩ := (hz.pick .at2).own_shape
                  have hw := hz
                  clear hz
                  refine ⟨_, rfl, ?_⟩
                  refine ⟨fun hn => absurd (by decide) hn, ?_⟩
                  refine rs_kv 8 rfl rfl rfl rfl (S' := fun _ => True) trivial (v_move rfl) ?_
                  refine rs_a 9 rfl rfl rfl rfl (v_extract rfl rfl) ?_
                  refine rs_a 10 rfl rfl rfl rfl (v_extract rfl rfl) ?_
                  refine rs_k 12 rfl rfl (k_storeWhole hw T.agg_48_3 rfl rfl (by simp [Value.oneCell']) rfl (by (repeat first | with_reducible exact xH | apply xT); first | done | fail) rfl (fun w hw => ?_))
                  refine ⟨fun hn => absurd (by decide) hn, ?_⟩
                  refine rs_kv 13 rfl rfl rfl rfl (S' := fun _ => True) trivial (v_assign rfl) ?_
                  refine rs_done (g_le (xK (xS rfl (xS rfl (xS rfl (xS rfl (xK (xS rfl (xS rfl (xS rfl (xS rfl (xS rfl (xS rfl (xS rfl (Fr.le_refl _)))))))))))))) ?_)
                  refine g_seq (g_seq ?_)
                  refine g_region ?_
                  refine xV rfl rfl rfl (v_move rfl) ?_
                  refine xV rfl rfl rfl (v_neq rfl rfl) ?_
                  refine rl_nil (g_le (xK (xS rfl (Fr.le_refl _))) ?_)
                  refine g_cond rfl (fun h4 => ?_) (fun h4 => ?_)
                  · try with_reducible exact ft_elim h4
                    all_goals
                      try replace h4 := of_decide_eq_true h4
                      refine g_seq ?_
                      refine g_region ?_
                      refine xV rfl rfl rfl (v_build rfl (T.build_48 ..)) ?_
                      refine rl_k rfl (k_storeWhole hw T.agg_48_3 rfl rfl (by simp [Value.oneCell']) rfl (by (repeat first | with_reducible exact xH | apply xT); first | done | fail) rfl (fun w hw => ?_))
                      refine xV rfl rfl rfl (v_assign rfl) ?_
                      refine rl_nil (g_le (xK (xS rfl (Fr.le_refl _))) ?_)
                      refine g_res2 Try.func16 rfl ⟨_, rfl, holds_agg (vs := [_, _, _]) T.agg_48_3 rfl (by exact sat_cells hw (by (repeat first | with_reducible exact xH | apply xT); first | done | fail) ⟨rfl, rfl, rfl, trivial⟩)⟩ rfl ?_
                      rw [if_pos h4] at hrd
                      dsimp only at hrd
                      rw [if_pos (by simp)] at hrd
                      rw [hrd]
                      exact ⟨none, 0, none, 0, [], rfl, nd0_fine6, own_nd6 (pg_close (S := S.got c2) ⟨a.l, a.c, a.d, a.m, a.p, a.b, a.k, lv2, a.dv, cells2⟩ hels2 (by dsimp only [PS.got]; exact hw.xQ))⟩
                  · try with_reducible exact tf_elim h4
                    all_goals
                      try replace h4 := of_decide_eq_false h4
                      rw [if_neg h4] at hrd
                      dsimp only at hrd
                      rw [if_neg (by simp)] at hrd
                      obtain ⟨hN, hA, hnd, hw⟩ := nd_lend (x := x) (ev := .slice xa x.entries.length xc) (kv := .slice ya x.kids.length yc) (vs := vs3) hfi3 (hw.xQ)
                      refine g_skip (g_seq ?_)
                      refine g_drawR ord_f16_r12_P18 (by kernel_rfl) T.mixed hw (fun w hw => ?_)
                      refine rs_a 0 rfl rfl rfl rfl (v_move rfl) ?_
                      refine rs_a 1 rfl rfl rfl rfl (v_nilCheck rfl) ?_
                      refine rs_a 2 rfl rfl rfl rfl (v_fieldAddr0 T.fld_35_1_1 rfl) ?_
                      refine rs_v 3 rfl rfl rfl rfl (OpV.mono (v_load T.scal_32 rfl) (fun w hw => by exact sat_cell hw (by (repeat first | with_reducible exact xH | apply xT); first | done | fail) rfl)) (by exact hw) ?_
                      refine rs_v 4 rfl rfl rfl rfl (OpV.mono (v_loadAgg (vs := [_, _, _, _]) T.agg_51_4 rfl rfl) (fun w hw => by exact sat_cells hw (by (repeat first | with_reducible exact xH | apply xT); first | done | fail) ⟨rfl, rfl, rfl, rfl, trivial⟩)) (by exact hw) ?_
                      refine rs_kv 5 rfl rfl rfl rfl (by exact sat_cells hw (by (repeat first | with_reducible exact xH | apply xT); first | done | fail) ⟨rfl, rfl, rfl, trivial⟩) (v_loadAgg (vs := [_, _, _]) T.agg_48_3 rfl rfl) ?_
                      refine rs_k 6 rfl rfl (k_callf Try.func30 rfl rfl rfl rfl ?_)
                      refine Calls.mono (cput2_calls (g := gc) (gl := hN) r hr hnd hels2 (by omega) (hw.xQ)) ?_
                      rintro _ w ⟨g2, lv3, cells3, hg2, rfl, hels3, hw⟩
                      refine ⟨_, rfl, ?_⟩
                      refine ⟨fun hn => absurd (by decide) hn, ?_⟩
                      refine rs_done (g_le (xS rfl (xS rfl (xS rfl (xS rfl (xS rfl (xS rfl (xS rfl (Fr.le_refl _)))))))) ?_)
                      refine g_seq ?_
                      refine g_region ?_
                      refine rl_v rfl rfl rfl (by exact sat_cells hw (by (repeat first | with_reducible exact xH | apply xT); first | done | fail) ⟨rfl, rfl, rfl, trivial⟩) (v_loadAgg (vs := [_, _, _]) T.agg_48_3 rfl rfl) ?_
                      refine rl_k rfl (k_storeWhole hw T.agg_48_3 rfl rfl (by simp [Value.oneCell']) rfl (by (repeat first | with_reducible exact xH | apply xT); first | done | fail) rfl (fun w hw => ?_))
                      refine xV rfl rfl rfl (v_assign rfl) ?_
                      refine rl_nil (g_le (xK (xS rfl (Fr.le_refl _))) ?_)
                      refine g_res2 Try.func16 rfl ⟨_, rfl, holds_agg (vs := [_, _, _]) T.agg_48_3 rfl (by exact sat_cells hw (by (repeat first | with_reducible exact xH | apply xT); first | done | fail) ⟨rfl, rfl, rfl, trivial⟩)⟩ rfl ?_
                      have hw := nd_back hA (hw.xP (A := RO hN))
                      rw [hrd]
                      refine ⟨xa, xc, ya, yc, vs3, rfl, hfi3, ?_⟩
                      exact (pg_close (S := S.got (c2.put r x).2) ⟨a.l, a.c, a.d, a.m, a.p, a.b, a.k, lv3, a.dv, cells3⟩ hels3 (by dsimp only [PS.got]; exact hw.xQ) : Sat E w (PgA pp q (S.got (c2.put r x).2) :: OwnSl 126 2 (.slice xa x.entries.length xc) (x).entries.length (enCells (x).entries vs3) :: eachOf VnsOf vs3 (x).entries :: KdsAt (.slice ya x.kids.length yc) (x).kids :: L)).xQ
end Go.Proofs.Ytlgpdglnfjndhaa
