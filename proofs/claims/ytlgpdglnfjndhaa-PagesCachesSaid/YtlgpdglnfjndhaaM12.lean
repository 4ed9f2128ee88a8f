/-
  The medium (layer 12): what each of its calls does.
-/
import Derived.Test.YtlgpdglnfjndhaaP11
namespace Go.Proofs.Ytlgpdglnfjndhaa
set_option maxRecDepth 8000
set_option linter.unusedSimpArgs false
set_option linter.unusedVariables false
open Go Xe Go.Lib

/-- One write that went in: its segment, its place, its bytes. -/
abbrev Wr := Int × Int × ByteArray
def wrCells (r : Wr) : List Value := [.int .i64 r.1, .int .i64 r.2.1, .string r.2.2]
structure Md where
  size : Int
  segs : List ByteArray
  past : List Wr
  bytes : Int
def Md.ok (s : Md) : Prop := 1 ≤ s.segs.length ∧ s.segs.length ≤ 4096 ∧ 1 ≤ s.size ∧ s.size ≤ 1048576 ∧ ∀ b ∈ s.segs, (b.size : Int) ≤ s.size
@[reducible] def SegA : Value → ByteArray → As := fun v b => OwnSl 5 1 v b.size (strCells b)
@[reducible] def MdPt (m p : Nat) (s : Md) (sg pa : Value) : As := pt m (.cells [Value.pointer (some ⟨p, 0, none⟩), .int .i64 s.size, sg, pa, .int .i64 s.bytes].toArray 44 (0, 0))
def MdAt (m p : Nat) (s : Md) : As := pu s.ok (ex fun sg => ex fun pa => ex fun vs => stars [MdPt m p s sg pa, OwnSl 60 1 sg s.segs.length vs, eachOf SegA vs s.segs, OwnSl 93 3 pa s.past.length (s.past.flatMap wrCells)])

theorem md_close {E : Env} {w : World} {L : List As} {m p : Nat} {s : Md} {sg pa : Value} {vs ps : List Value} {n k : Nat} (hok : s.ok) (hn : n = s.segs.length) (hk : k = s.past.length) (hp : ps = s.past.flatMap wrCells)
    (h : Sat E w (MdPt m p s sg pa :: OwnSl 60 1 sg n vs :: eachOf SegA vs s.segs :: OwnSl 93 3 pa k ps :: L)) : Sat E w (MdAt m p s :: L) := by
  subst hn; subst hk; subst hp
  exact .mk_pu hok (.mk_ex sg (.mk_ex pa (.mk_ex vs (Sat.unflat (X := [_, _, _, _]) h))))
theorem md_open {E : Env} {w : World} {L : List As} {m p : Nat} {s : Md} (h : Sat E w (MdAt m p s :: L)) : s.ok ∧ ∃ g cap pa pc vs, vs.length = s.segs.length ∧ s.segs.length ≤ cap ∧ s.past.length ≤ pc ∧
    Sat E w (MdPt m p s (.slice (some ⟨g, 0, none⟩) s.segs.length cap) (.slice pa s.past.length pc) :: OwnSl 60 1 (.slice (some ⟨g, 0, none⟩) s.segs.length cap) s.segs.length vs :: eachOf SegA vs s.segs :: OwnSl 93 3 (.slice pa s.past.length pc) s.past.length (s.past.flatMap wrCells) :: L) := by
  obtain ⟨hok, h⟩ := h.pu
  obtain ⟨sg, h⟩ := h.ex
  obtain ⟨pa, h⟩ := h.ex
  obtain ⟨vs, h⟩ := h.ex
  have h : Sat E w (MdPt m p s sg pa :: OwnSl 60 1 sg s.segs.length vs :: eachOf SegA vs s.segs :: OwnSl 93 3 pa s.past.length (s.past.flatMap wrCells) :: L) := h.flat
  obtain ⟨a, cap, rfl, hc, _, ha⟩ := (h.pick .at1).own_shape
  obtain ⟨g, rfl⟩ := ha hok.1
  obtain ⟨b, pc, rfl, hpc, _, _⟩ := (h.pick .at3).own_shape
  exact ⟨hok, g, cap, b, pc, vs, (h.pick .at2).each_len, hc, hpc, h⟩
/-- The i-th segment. -/
def Md.seg (s : Md) (i : Int) : ByteArray := (s.segs[i.toNat]?).getD ByteArray.empty
def Md.is (s : Md) (i : Int) : Prop := 0 ≤ i ∧ i < s.segs.length
instance (s : Md) (i : Int) : Decidable (s.is i) := inferInstanceAs (Decidable (_ ∧ _))
def Md.put (s : Md) (i at_ : Int) (v : ByteArray) : Md := ⟨s.size, s.segs.set i.toNat ((s.seg i).extract 0 at_.toNat ++ v), s.past ++ [(i, at_, v)], IntKind.i64.wrap (s.bytes + v.size)⟩
def Md.write (s : Md) (pw : Pw) (i at_ : Int) (v : ByteArray) : Int × Md × Pw :=
  if s.is i then (if at_ < 0 ∨ at_ > (s.seg i).size then (121, s, pw) else if v.size > s.size - at_ then (122, s, pw)
    else if pw.spend.1 = 0 then (0, s.put i at_ v, pw.spend.2) else (pw.spend.1, s, pw.spend.2)) else (120, s, pw)
def Md.used (s : Md) (i : Int) : Int := if s.is i then (s.seg i).size else 0
def Md.read (s : Md) (i at_ n : Int) : ByteArray × Int :=
  if s.is i then (if at_ < 0 ∨ n < 0 ∨ at_ > (s.seg i).size ∨ n > (s.seg i).size - at_ then (ByteArray.mk #[], 121) else ((s.seg i).extract at_.toNat (at_ + n).toNat, 0)) else (ByteArray.mk #[], 120)
theorem Md.seg_at {s : Md} {i : Int} (h : s.is i) : s.segs[i.toNat]? = some (s.seg i) := by
  obtain ⟨h1, h2⟩ := h
  have : i.toNat < s.segs.length := by omega
  simp [Md.seg, List.getElem?_eq_getElem this]
theorem Md.seg_le {s : Md} (hok : s.ok) {i : Int} (h : s.is i) : ((s.seg i).size : Int) ≤ s.size := hok.2.2.2.2 _ (List.mem_of_getElem? (Md.seg_at h))

theorem mnew_calls {E : Env} {w : World} {L : List As} (p : Nat) (n size : Int) (h1 : 1 ≤ n) (h2 : n ≤ 4096) (h3 : 1 ≤ size) (h4 : size ≤ 1048576) (hw : Sat E w L) :
    Calls Try.prog 19 #[.pointer (some ⟨p, 0, none⟩), .int .i64 n, .int .i64 size] w
      fun e w' => ∃ m, e = .returned (.tuple #[.pointer (some ⟨m, 0, none⟩), .int .i64 0]) ∧ Sat E w' (MdAt m p ⟨size, List.replicate n.toNat ByteArray.empty, [], 0⟩ :: L) := by
  refine calls_of_g (n := 32) Try.func19 rfl rfl rfl ?_
  change G _ _ _ _ _ [(0, _), (1, _), (2, _)] _
  repeat (refine g_seq ?_)
  refine g_region ?_
  refine xV rfl rfl rfl (v_assign rfl) ?_
  refine xV rfl rfl rfl (v_assign rfl) ?_
  refine rl_nil (g_le (xK (xK (Fr.le_refl _))) ?_)
  repeat (refine g_seq ?_)
  refine g_region ?_
  refine xV rfl rfl rfl (v_move rfl) ?_
  refine xV rfl rfl rfl (v_eqlNil T.ptr_40 rfl rfl) ?_
  refine xV rfl rfl rfl (v_move rfl) ?_
  refine rl_vg (met_on rfl rfl rfl rfl) rfl rfl (S := fun _ => True) trivial (v_move rfl) ?_
  refine rl_vg (met_on rfl rfl rfl rfl) rfl rfl (S := fun _ => True) trivial (v_lssF rfl rfl (by omega)) ?_
  refine xV rfl rfl rfl (v_pick_false rfl rfl) ?_
  refine xV rfl rfl rfl (v_move rfl) ?_
  refine rl_vg (met_on rfl rfl rfl rfl) rfl rfl (S := fun _ => True) trivial (v_move rfl) ?_
  refine rl_vg (met_on rfl rfl rfl rfl) rfl rfl (S := fun _ => True) trivial (v_gtrF rfl rfl (by omega)) ?_
  refine xV rfl rfl rfl (v_pick_false rfl rfl) ?_
  refine xV rfl rfl rfl (v_move rfl) ?_
  refine rl_vg (met_on rfl rfl rfl rfl) rfl rfl (S := fun _ => True) trivial (v_move rfl) ?_
  refine rl_vg (met_on rfl rfl rfl rfl) rfl rfl (S := fun _ => True) trivial (v_lssF rfl rfl (by omega)) ?_
  refine xV rfl rfl rfl (v_pick_false rfl rfl) ?_
  refine xV rfl rfl rfl (v_move rfl) ?_
  refine rl_vg (met_on rfl rfl rfl rfl) rfl rfl (S := fun _ => True) trivial (v_move rfl) ?_
  refine rl_vg (met_on rfl rfl rfl rfl) rfl rfl (S := fun _ => True) trivial (v_gtrF rfl rfl (by omega)) ?_
  refine xV rfl rfl rfl (v_pick_false rfl rfl) ?_
  refine rl_nil (g_le (xK (xS rfl (xS rfl (xS rfl (xS rfl (xS rfl (xS rfl (xS rfl (xS rfl (xS rfl (xS rfl (xS rfl (xS rfl (xS rfl (xS rfl (xS rfl (xS rfl (xS rfl (Fr.le_refl _))))))))))))))))))) ?_)
  repeat (first | refine g_seq ?_ | refine g_skip ?_ | refine g_inBlock ?_ | refine g_block ?_ | refine g_label ?_)
  refine g_cond_false rfl ?_
  repeat (first | refine g_seq ?_ | refine g_skip ?_)
  refine g_region ?_
  refine xV rfl rfl rfl (v_move rfl) ?_
  refine xV rfl rfl rfl (v_move rfl) ?_
  refine xV rfl rfl rfl (v_move rfl) ?_
  refine rl_k rfl (k_makeSlice hw T.sl_41_60_1 T.zero_60 T.bytes_60_24 rfl rfl (by omega) (by omega) (by omega) (by omega) rfl (fun blk w hw => ?_))
  refine xV rfl rfl rfl (v_build rfl (T.build_44_0_1_2 ..)) ?_
  refine rl_k rfl (k_box hw rfl rfl rfl (fun blk w hw => ?_))
  refine xV rfl rfl rfl (v_assign rfl) ?_
  refine xV rfl rfl rfl (v_assign rfl) ?_
  refine rl_nil (g_le (xK (xK (xS rfl (xS rfl (xS rfl (xS rfl (xS rfl (xS rfl (Fr.le_refl _))))))))) ?_)
  refine g_ret2 Try.func19 rfl rfl rfl ?_
  refine ⟨_, rfl, ?_⟩
  rw [made_one _ rfl _ _ (Nat.le_refl _)] at hw
  have h5 := Sat.own_nil 93 3 (Sat.each_rep (A := SegA) (x0 := .slice none 0 0) (y0 := ByteArray.empty) (own_none rfl) (hw.xQ) n.toNat)
  exact md_close (n := n.toNat) (k := 0) (ps := []) (by exact ⟨by simp; omega, by simp; omega, h3, h4, fun b hb => by rw [(List.mem_replicate.1 hb).2]; simp; omega⟩) (List.length_replicate ..).symm rfl rfl (h5.xQ)

theorem mis_calls {E : Env} {w : World} {L : List As} (m p : Nat) (s : Md) (i : Int) (hw : Sat E w (MdAt m p s :: L)) :
    Calls Try.prog 33 #[.pointer (some ⟨m, 0, none⟩), .int .i64 i] w
      fun e w' => e = .returned (.bool (decide (s.is i))) ∧ Sat E w' (MdAt m p s :: L) := by
  obtain ⟨hok, g, cap, pa, pc, vs, hvs, hcap, hpc, hw⟩ := md_open hw
  by_cases h : s.is i
  · rw [decide_eq_true h]
    obtain ⟨h1, h2⟩ := h
    refine calls_of_g (n := 16) Try.func33 rfl rfl rfl ?_
    change G _ _ _ _ _ [(0, _), (1, _)] _
    repeat (refine g_seq ?_)
    refine g_region ?_
    refine xV rfl rfl rfl (v_assign rfl) ?_
    refine rl_nil (g_le (xK (Fr.le_refl _)) ?_)
    repeat (refine g_seq ?_)
    refine g_region ?_
    refine xV rfl rfl rfl (v_move rfl) ?_
    refine xV rfl rfl rfl (v_geqT rfl rfl (by omega)) ?_
    refine xV rfl rfl rfl (v_move rfl) ?_
    refine rl_vg (met_on rfl rfl rfl rfl) rfl rfl (S := fun _ => True) trivial (v_move rfl) ?_
    refine rl_vg (met_on rfl rfl rfl rfl) rfl rfl (S := fun _ => True) trivial (v_move rfl) ?_
    refine rl_vg (met_on rfl rfl rfl rfl) rfl rfl (S := fun _ => True) trivial (v_nilCheck rfl) ?_
    refine rl_vg (met_on rfl rfl rfl rfl) rfl rfl (S := fun _ => True) trivial (v_fieldAddr0 T.fld_44_2_2 rfl) ?_
    refine rl_vg (met_on rfl rfl rfl rfl) rfl rfl (by exact sat_cell hw (by (repeat first | with_reducible exact xH | apply xT); first | done | fail) rfl) (v_load T.scal_41 rfl) ?_
    refine rl_vg (met_on rfl rfl rfl rfl) rfl rfl (S := fun _ => True) trivial (v_lenSlice T.sl_41_60_1 rfl) ?_
    refine rl_vg (met_on rfl rfl rfl rfl) rfl rfl (S := fun _ => True) trivial (v_lssT rfl rfl (by omega)) ?_
    refine xV rfl rfl rfl (v_pick_true rfl rfl) ?_
    refine xV rfl rfl rfl (v_assign rfl) ?_
    refine rl_nil (g_le (xK (xS rfl (xS rfl (xS rfl (xS rfl (xS rfl (xS rfl (xS rfl (xS rfl (xS rfl (xS rfl (xS rfl (Fr.le_refl _))))))))))))) ?_)
    refine g_ret1 Try.func33 rfl rfl ?_
    exact ⟨rfl, md_close hok rfl rfl rfl hw⟩
  · rw [decide_eq_false h]
    have h : ¬ (0 ≤ i ∧ i < s.segs.length) := h
    refine calls_of_g (n := 16) Try.func33 rfl rfl rfl ?_
    change G _ _ _ _ _ [(0, _), (1, _)] _
    repeat (refine g_seq ?_)
    refine g_region ?_
    refine xV rfl rfl rfl (v_assign rfl) ?_
    refine rl_nil (g_le (xK (Fr.le_refl _)) ?_)
    all_goals (repeat (refine g_seq ?_))
    all_goals (refine g_region ?_)
    all_goals (refine xV rfl rfl rfl (v_move rfl) ?_)
    all_goals (refine xV rfl rfl rfl (v_geq rfl rfl) ?_)
    all_goals (refine xV rfl rfl rfl (v_move rfl) ?_)
    all_goals (refine rl_split_dec (s := 7) rfl (fun hs => ?_) (fun hs => ?_))
    all_goals (first | (refine rl_vg (met_on rfl rfl rfl rfl) rfl rfl (S := fun _ => True) trivial (v_move rfl) ?_) | (refine rl_off (by exact met_off rfl rfl rfl rfl rfl) rfl rfl ?_))
    all_goals (first | (refine rl_vg (met_on rfl rfl rfl rfl) rfl rfl (S := fun _ => True) trivial (v_move rfl) ?_) | (refine rl_off (by exact met_off rfl rfl rfl rfl rfl) rfl rfl ?_))
    all_goals (first | (refine rl_vg (met_on rfl rfl rfl rfl) rfl rfl (S := fun _ => True) trivial (v_nilCheck rfl) ?_) | (refine rl_off (by exact met_off rfl rfl rfl rfl rfl) rfl rfl ?_))
    all_goals (first | (refine rl_vg (met_on rfl rfl rfl rfl) rfl rfl (S := fun _ => True) trivial (v_fieldAddr0 T.fld_44_2_2 rfl) ?_) | (refine rl_off (by exact met_off rfl rfl rfl rfl rfl) rfl rfl ?_))
    all_goals (first | (refine rl_vg (met_on rfl rfl rfl rfl) rfl rfl (by exact sat_cell hw (by (repeat first | with_reducible exact xH | apply xT); first | done | fail) rfl) (v_load T.scal_41 rfl) ?_) | (refine rl_off (by exact met_off rfl rfl rfl rfl rfl) rfl rfl ?_))
    all_goals (first | (refine rl_vg (met_on rfl rfl rfl rfl) rfl rfl (S := fun _ => True) trivial (v_lenSlice T.sl_41_60_1 rfl) ?_) | (refine rl_off (by exact met_off rfl rfl rfl rfl rfl) rfl rfl ?_))
    all_goals (first | (refine rl_vg (met_on rfl rfl rfl rfl) rfl rfl (S := fun _ => True) trivial (v_lssF rfl rfl (by omega)) ?_) | (refine rl_off (by exact met_off rfl rfl rfl rfl rfl) rfl rfl ?_))
    all_goals (first | (refine xV rfl rfl rfl (v_pick_true rfl rfl) ?_) | (refine xV rfl rfl rfl (v_pick_false rfl rfl) ?_))
    all_goals (refine xV rfl rfl rfl (v_assign rfl) ?_)
    all_goals (refine rl_nil ?_)
    · refine g_ret1 Try.func33 rfl rfl ?_
      exact ⟨rfl, md_close hok rfl rfl rfl hw⟩
    · refine g_ret1 Try.func33 rfl rfl ?_
      exact ⟨rfl, md_close hok rfl rfl rfl hw⟩


theorem msegments_calls {E : Env} {w : World} {L : List As} (m p : Nat) (s : Md) (hw : Sat E w (MdAt m p s :: L)) :
    Calls Try.prog 43 #[.pointer (some ⟨m, 0, none⟩)] w fun e w' => e = .returned (.int .i64 s.segs.length) ∧ Sat E w' (MdAt m p s :: L) := by
  obtain ⟨hok, g, cap, pa, pc, vs, hvs, hcap, hpc, hw⟩ := md_open hw
  refine calls_of_g (n := 8) Try.func43 rfl rfl rfl ?_
  change G _ _ _ _ _ [(0, _)] _
  repeat (refine g_seq ?_)
  refine g_region ?_
  refine xV rfl rfl rfl (v_assign rfl) ?_
  refine rl_nil (g_le (xK (Fr.le_refl _)) ?_)
  repeat (refine g_seq ?_)
  refine g_region ?_
  refine xV rfl rfl rfl (v_move rfl) ?_
  refine xV rfl rfl rfl (v_nilCheck rfl) ?_
  refine xV rfl rfl rfl (v_fieldAddr0 T.fld_44_2_2 rfl) ?_
  refine rl_v rfl rfl rfl (by exact sat_cell hw (by (repeat first | with_reducible exact xH | apply xT); first | done | fail) rfl) (v_load T.scal_41 rfl) ?_
  refine xV rfl rfl rfl (v_lenSlice T.sl_41_60_1 rfl) ?_
  refine xV rfl rfl rfl (v_assign rfl) ?_
  refine rl_nil (g_le (xK (xS rfl (xS rfl (xS rfl (xS rfl (xS rfl (Fr.le_refl _))))))) ?_)
  refine g_ret1 Try.func43 rfl rfl ?_
  exact ⟨rfl, md_close hok rfl rfl rfl hw⟩
theorem msize_calls {E : Env} {w : World} {L : List As} (m p : Nat) (s : Md) (hw : Sat E w (MdAt m p s :: L)) :
    Calls Try.prog 47 #[.pointer (some ⟨m, 0, none⟩)] w fun e w' => e = .returned (.int .i64 s.size) ∧ Sat E w' (MdAt m p s :: L) := by
  obtain ⟨hok, g, cap, pa, pc, vs, hvs, hcap, hpc, hw⟩ := md_open hw
  refine calls_of_g (n := 7) Try.func47 rfl rfl rfl ?_
  change G _ _ _ _ _ [(0, _)] _
  repeat (refine g_seq ?_)
  refine g_region ?_
  refine xV rfl rfl rfl (v_assign rfl) ?_
  refine rl_nil (g_le (xK (Fr.le_refl _)) ?_)
  repeat (refine g_seq ?_)
  refine g_region ?_
  refine xV rfl rfl rfl (v_move rfl) ?_
  refine xV rfl rfl rfl (v_nilCheck rfl) ?_
  refine xV rfl rfl rfl (v_fieldAddr0 T.fld_44_1_1 rfl) ?_
  refine rl_v rfl rfl rfl (by exact sat_cell hw (by (repeat first | with_reducible exact xH | apply xT); first | done | fail) rfl) (v_load T.scal_3 rfl) ?_
  refine xV rfl rfl rfl (v_assign rfl) ?_
  refine rl_nil (g_le (xK (xS rfl (xS rfl (xS rfl (xS rfl (Fr.le_refl _)))))) ?_)
  refine g_ret1 Try.func47 rfl rfl ?_
  exact ⟨rfl, md_close hok rfl rfl rfl hw⟩

/-- The i-th segment's slice is taken out. -/
theorem md_seg {E : Env} {w : World} {L : List As} {s : Md} {vs : List Value} {i : Int} (hi : s.is i) (hvs : vs.length = s.segs.length) (h : Sat E w (eachOf SegA vs s.segs :: L)) :
    ∃ a c, vs[0 + i.toNat * 1]? = some (.slice a (s.seg i).size c) ∧ (s.seg i).size ≤ c ∧
      Sat E w (SegA (.slice a (s.seg i).size c) (s.seg i) :: eachOf SegA (vs.set i.toNat (.slice none 0 0)) (s.segs.set i.toNat ByteArray.empty) :: L) := by
  have hl : i.toNat < vs.length := by have := hi.1; have := hi.2; omega
  have h1 := Sat.each_take (A := SegA) (x0 := .slice none 0 0) (y0 := ByteArray.empty) (own_none rfl) i.toNat h (List.getElem?_eq_getElem hl) (Md.seg_at hi)
  obtain ⟨a, c, hv, hc, _, _⟩ := h1.own_shape
  refine ⟨a, c, by rw [Nat.zero_add, Nat.mul_one, List.getElem?_eq_getElem hl, hv], hc, ?_⟩
  rw [← hv]; exact h1
theorem md_back {E : Env} {w : World} {L : List As} {s : Md} {vs : List Value} {i : Int} {v : Value} (hi : s.is i) (hv : vs[0 + i.toNat * 1]? = some v)
    (h : Sat E w (SegA v (s.seg i) :: eachOf SegA (vs.set i.toNat (.slice none 0 0)) (s.segs.set i.toNat ByteArray.empty) :: L)) : Sat E w (eachOf SegA vs s.segs :: L) := by
  have h1 := Sat.each_put (A := SegA) (x0 := .slice none 0 0) (y0 := ByteArray.empty) i.toNat h
  rw [Nat.zero_add, Nat.mul_one] at hv
  have e1 : vs.set i.toNat v = vs := List.ext_getElem? fun j => by
    rw [List.getElem?_set]; split
    · rename_i h2; subst h2; split
      · exact hv.symm
      · rename_i h3; rw [List.getElem?_eq_none (by omega)] at hv; cases hv
    · rfl
  have e2 : s.segs.set i.toNat (s.seg i) = s.segs := List.ext_getElem? fun j => by
    rw [List.getElem?_set]; split
    · rename_i h2; subst h2; split
      · exact (Md.seg_at hi).symm
      · rename_i h3; rw [List.getElem?_eq_none (by omega)]
    · rfl
  rw [e1, e2] at h1
  exact h1

end Go.Proofs.Ytlgpdglnfjndhaa
