/-
  XE, part 18: loops over functions that are left early, and loops within a round.
-/
import Derived.Test.YtlgpdglnfjndhaaX17
import Derived.RangeFuncNested
import Derived.OrdersIn
namespace Go.Proofs.Ytlgpdglnfjndhaa.Xe
open Go

section rd
variable {P : Program} {ops : Array Oper} {Q : Exit → Act → World → Prop} {md : Region.Mode}
theorem wp_round {o : Oper} {a : Act} {w : World} {K : Act → World → Prop} (l0 : Nat) (hn : noDefer o = true) (h : o.wp P a w K Q) : o.wpIn (Fence.wide.inRound l0) 0 P a w K Q := by
  refine ⟨fun _ _ => trivial, ?_⟩
  rw [Oper.semAt_eq _ _ _ (fun c hc => by simp [noDefer, hc] at hn)]
  have h2 := (wpIn_of_wp h).2
  rw [Oper.semAt_eq _ _ _ (fun c hc => by simp [noDefer, hc] at hn)] at h2
  cases hr : (execOp a.eval o).run P w with
  | ok x w' =>
    rw [hr] at h2
    cases x <;> exact h2
  | halt x w' =>
    rw [hr] at h2
    cases x <;> exact h2
theorem wpOp_round {i : Nat} {a : Act} {w : World} {K : Act → World → Prop} (l0 : Nat) (hq : ¬ LetsOut Q) (hn : ops.toList.all noDefer = true) (h : wpOp P ops Q i K a w) : wpOpIn (Fence.wide.inRound l0) 0 P ops Q i K a w := by
  unfold wpOp at h
  unfold wpOpIn
  cases ho : ops[i]? with
  | none => rw [ho] at h; exact h
  | some o =>
    rw [ho] at h
    dsimp only at h ⊢
    have hno : noDefer o = true := List.all_eq_true.1 hn o (by
      have := Array.mem_of_getElem? ho
      simpa using this)
    split
    · rename_i hw
      rw [if_pos hw] at h
      rcases h with h | h
      · exact wp_round l0 hno h
      · exact absurd h.2 hq
    · rename_i hw
      rw [if_neg hw] at h
      exact ⟨fun _ _ => trivial, h⟩
theorem wpAny_round (l0 : Nat) (hq : ¬ LetsOut Q) (hn : ops.toList.all noDefer = true) : ∀ (fuel : Nat) (listed : Array Bool) (a : Act) (w : World), wpAny P md ops Q fuel listed a w → wpAnyIn (Fence.wide.inRound l0) 0 P md ops Q fuel listed a w
  | 0, _, _, _, h => h
  | fuel + 1, _, _, _, h => ⟨h.1, fun i hi => wpOp_round l0 hq hn (wpOp_mono (fun a' w' h' => wpAny_round l0 hq hn fuel _ a' w' h') (h.2 i hi))⟩
variable {f : FuncId} {R : Ending → World → Prop} {k : List Item} {n : NF} {S : World → Prop} {ds : List Nat} {r : Od} {F : Fr} {w : World}
theorem qk_lets {rd : Option Nat} : ¬ LetsOut (Qk P f rd R k) := fun ⟨_, _, h⟩ => h
/-- A region in a round that draws its order. -/
theorem g_drawON {l0 : Nat} {fn : Func} {id : Nat} {E : Env} {L : List As} (ho : orderOfB fn id ds r = true) (he : fn.body.bind (regionOps id) = some ops) (hm : P.follows .mixedOrders = true) (hw : Sat E w L)
    (h : ∀ w, Sat E w L → RS P f R k ops n S ds r F w) (hrd : n.rd = some l0 := by rfl) (hnd : ops.toList.all noDefer = true := by rfl) : G P f R n (.code (.region id ops true) :: k) F w := fun a ha => by
  simp only [orderOfB, he, Bool.and_eq_true, beq_iff_eq] at ho
  have h1 : wpAny P .any ops (Qk P f n.rd R k) ops.size (Array.replicate ops.size false) a { w with drawn := w.drawn + 1 } := by
    refine wpAny_of_last (S := S) (ds := ds) _ _ _ _ ?_
    rw [← ho.1]
    exact h w.drew hw.drew _ (by rw [ho.1]; exact ho.2) a ha
  rw [hrd] at h1 ⊢
  exact run_wpIn (wpIn_region_any hm (wpAny_round l0 qk_lets hnd _ _ _ _ h1))
theorem g_drawAN {l0 : Nat} {fn : Func} {id : Nat} {E : Env} {L : List As} (ho : orderOfB fn id ds r = true) (he : fn.body.bind (regionOps id) = some ops) (hm : P.follows .mixedOrders = true) (hw : Sat E w L)
    (h : ∀ w, Sat E w L → RS P f R k ops n (fun _ => True) ds r F w) (hrd : n.rd = some l0 := by rfl) (hnd : ops.toList.all noDefer = true := by rfl) : G P f R n (.code (.region id ops true) :: k) F w := g_drawON ho he hm hw h hrd hnd
theorem g_drawRN {l0 : Nat} {fn : Func} {id : Nat} {E : Env} {L : List As} (ho : orderOfB fn id ds r = true) (he : fn.body.bind (regionOps id) = some ops) (hm : P.follows .mixedOrders = true) (hw : Sat E w L)
    (h : ∀ w, Sat E w L → RS P f R k ops n (fun w => Sat E w L) ds r F w) (hrd : n.rd = some l0 := by rfl) (hnd : ops.toList.all noDefer = true := by rfl) : G P f R n (.code (.region id ops true) :: k) F w := g_drawON ho he hm hw h hrd hnd
theorem g_drawBN {l0 : Nat} {fn : Func} {id : Nat} {E : Env} {L L' : List As} (ho : orderOfB fn id ds r = true) (he : fn.body.bind (regionOps id) = some ops) (hm : P.follows .mixedOrders = true) (_ : ∀ w, Sat E w L → Sat E w L') (hw : Sat E w L)
    (h : ∀ w, Sat E w L → RS P f R k ops n (fun w => Sat E w L') ds r F w) (hrd : n.rd = some l0 := by rfl) (hnd : ops.toList.all noDefer = true := by rfl) : G P f R n (.code (.region id ops true) :: k) F w := g_drawON ho he hm hw h hrd hnd
end rd

/-- What an iterator owes that may be stopped: behind a round that says so nothing more is yielded. Sh: what it lends to the rounds. -/
def IterB (P : Program) (E : Env) (gf : FuncId) (lb : List Value) (xss : List (List Value)) (Own Own' Sh : As) : Prop :=
  ∀ (yl : Nat) (I : Nat → As) (J : As) (M : List As) (w : World),
    (∀ i args M' w, xss[i]? = some args → Sat E w (I i :: Sh :: M') → YCalls P yl args w fun e w' => ∃ b : Bool, e = .returned (.bool b) ∧ (b = true → Sat E w' (I (i + 1) :: Sh :: M')) ∧ (b = false → Sat E w' (J :: Sh :: M'))) →
    Sat E w (I 0 :: Own :: M) →
    Calls P gf (.func (.yield yl) #[] #[] :: lb).toArray w fun e w' => (∃ v, e = .returned v) ∧ (Sat E w' (I xss.length :: Own' :: M) ∨ Sat E w' (J :: Own' :: M))

section g
variable {P : Program} {f : FuncId} {R : Ending → World → Prop} {m : Nat} {D : List Deferred} {k : List Item} {F : Fr} {w : World} {E : Env} {L : List As}

def fnB (P : Program) (t : Nat) : Bool := match P.underlying t with | some (.func _ _ _) => true | _ => false
theorem v_eqlFn {x y : Operand} {S : World → Prop} {d : Option Nat} {t t' : TypeId} {ty : TypeId} {pos : String} {af : Array Edge} {gd : Option (Nat × Bool)} {fv : Go.Fn} {fs cs : Array Value} (ht : fnB P t = true) (hx : opd F x = some (.func fv fs cs)) (hy : opd F y = some .nilFunc) :
    OpV P F S ⟨d, .binOp .eql t x y t', ty, pos, af, gd⟩ (.bool false) := fun ρ w hρ _ => by
  have hu : ∃ a b c, P.underlying t = some (.func a b c) := by
    unfold fnB at ht
    split at ht <;> first | contradiction | exact ⟨_, _, _, by assumption⟩
  obtain ⟨a, b, c, hu⟩ := hu
  have h1 : ∀ n, (Op.equalIn (n + 1) t (.func fv fs cs) .nilFunc).run P w = .ok false w := fun n => by
    simp [Op.equalIn, run_underlying hu]
  have h2 : (Op.equal t (.func fv fs cs) .nilFunc).run P w = .ok false w := h1 9999
  simp [execOp, hρ x _ hx, hρ y _ hy, eqGuard, binOp, h2]
/-- How a round ends: it goes on, or it is left by a jump. -/
def RoundQ (E : Env) (l : Nat) (rec : Loop) (In : As) (J : Code → As) (M' : List As) : Ending → World → Prop := fun e w' =>
  (e = .returned (.bool true) ∧ Sat E w' (In :: pt l (.loop { rec with state := .busy }) :: M')) ∨ (∃ c, jumpOf e = some c ∧ Sat E w' (J c :: pt l (.loop { rec with state := .busy }) :: M'))

theorem round_ycalls {fn : FuncId} {E : Env} {rec : Loop} {l : Nat} {args : List Value} {ps : List Nat} {assign body : Code} {a : Act} {w2 : World} {In Ii : As} {J : Code → As} {M' : List As} {df : Nat}
    (hrec : rec = { state := .ready, pending := none, fn := fn, tmps := a.tmps, params := ps.toArray, assign, body, defers := df }) (ha : ∀ (s : Nat) (u : Value), look F s = some u → a.tmps[s]? = some u) (hsz : a.tmps.size = m)
    (hargs : args.length = ps.length) (hpn : ps.all (fun p => Nat.ble (p + 1) m) = true) (hw2 : Sat E w2 (Ii :: pt l (.loop rec) :: M'))
    (hrd : G P rec.fn (RoundQ E l rec In J M') ⟨m, [], some l⟩ [.code assign, .beginRound, .code body] (zipF ps args F) w2) :
    YCalls P l args w2 fun e w' => ∃ b : Bool, e = .returned (.bool b) ∧ (b = true → Sat E w' (stars [In, pt l (.loop rec)] :: M')) ∧ (b = false → Sat E w' (Xe.ex (fun c => stars [J c, pt l (.loop { rec with state := .done, pending := some c })]) :: M')) := by
  have hl2 := (hw2.pick .at1).block
  have hs : args.toArray.size = rec.params.size := by rw [hrec]; simpa using hargs
  refine ycalls_of_runJ hl2 hs ?_
  have hz := Agr.zip (n := ⟨m, [], some l⟩) ps args (a := ⟨a.tmps, []⟩) (F := F) ⟨hsz, rfl, ha⟩ hpn
  have hz2 := hrd _ hz
  have e3 : (rec.params.zip args.toArray).foldl (fun tmps (t, a) => tmps.setIfInBounds t a) rec.tmps = (ps.zip args).foldl (fun tmps (t, a) => tmps.setIfInBounds t a) a.tmps := by
    rw [hrec]
    simp only [List.zip_toArray, List.size_toArray, List.foldl_toArray']
  rw [e3]
  have ha3 : rec.assign = assign := by rw [hrec]
  have hb3 : rec.body = body := by rw [hrec]
  rw [← ha3, ← hb3] at hz2
  refine Run.mono hz2 fun e w3 h3 => ?_
  rcases h3 with ⟨rfl, h3⟩ | ⟨c, hc, h3⟩
  · have hl3 := (h3.pick .at1).block
    refine ⟨_, run_endRound (P := P) none hl3, true, rfl, fun _ => ?_, (fun h => by cases h)⟩
    have h4 := (h3.pick .at1).putObj (.loop { { rec with state := .busy } with state := if (none : Option Code).isNone then .ready else .done, pending := none })
    have e5 : ({ { rec with state := .busy } with state := if (none : Option Code).isNone then .ready else .done, pending := none } : Loop) = rec := by rw [hrec]; rfl
    rw [e5] at h4 ⊢
    exact Sat.unflat (X := [_, _]) (h4.pick .at1)
  · have hl3 := (h3.pick .at1).block
    rw [hc]
    refine ⟨_, run_endRound (P := P) (some c) hl3, false, rfl, (fun h => by cases h), fun _ => ?_⟩
    have h4 := (h3.pick .at1).putObj (.loop { { rec with state := .busy } with state := if (some c : Option Code).isNone then .ready else .done, pending := some c })
    have e5 : ({ { rec with state := .busy } with state := if (some c : Option Code).isNone then .ready else .done, pending := some c } : Loop) = { rec with state := .done, pending := some c } := rfl
    rw [e5] at h4 ⊢
    have h5 := h4.pick (A := J c) .at1
    exact Sat.mk_ex (A := fun c => stars [J c, pt l (.loop { rec with state := .done, pending := some c })]) c (Sat.unflat (X := [J c, pt l (.loop { rec with state := .done, pending := some c })]) h5)

theorem g_rangeFuncB {fn : Func} {gf : FuncId} {lb : List Value} {xss : List (List Value)} {Own Own' Sh : As} {I : Nat → As} {J : Code → As} {g : Operand} {ps : List Nat} {assign body : Code}
    (hfn : P.funcs[gf]? = some fn) (hname : (fn.name == "runtime.NumGoroutine") = false) (hb : fn.body.isSome = true) (hg : opd F g = some (.func (.func gf) #[] lb.toArray))
    (hit : IterB P E gf lb xss Own Own' Sh) (hps : ∀ args ∈ xss, args.length = ps.length) (hpn : ps.all (fun p => Nat.ble (p + 1) m) = true) (hw : Sat E w (I 0 :: Own :: L))
    (round : ∀ (fn : FuncId) (l : Nat) (rec : Loop) (i : Nat) (args : List Value) (M' : List As) (w : World), rec.state = .ready → xss[i]? = some args → Sat E w (I i :: pt l (.loop rec) :: Sh :: M') →
      G P fn (RoundQ E l rec (I (i + 1)) J (Sh :: M')) ⟨m, [], some l⟩ [.code assign, .beginRound, .code body] (zipF ps args F) w)
    (rest : ∀ (b : Nat) (w : World), Sat E w (I xss.length :: Own' :: pt b (.deferred (some [])) :: L) → G P f R ⟨m, mark b :: D, none⟩ k F w)
    (left : ∀ (c : Code) (b : Nat) (w : World), Sat E w (J c :: Own' :: pt b (.deferred (some [])) :: L) → G P f R ⟨m, mark b :: D, none⟩ (.code c :: k) F w) :
    G P f R ⟨m, D, none⟩ (.code (.rangeFunc g ps.toArray assign body) :: k) F w := fun a ha => by
  have key : ∀ cs, ∃ e w' fr, R e w' ∧ Comes P (lone ((b0 f none).atR a (.code (.rangeFunc g ps.toArray assign body) :: k)) cs w) (lone fr cs w') e ∧ Ends P f fr w' e none := by
    intro cs
    obtain ⟨rec, hrec⟩ : ∃ rec : Loop, rec = { state := .ready, pending := none, fn := f, tmps := a.tmps, params := ps.toArray, assign, body, defers := w.heap.size } := ⟨_, rfl⟩
    have hw1 : Sat E ((w.alloc (.deferred (some []))).alloc (.loop rec)) (pt (w.heap.size + 1) (.loop rec) :: pt w.heap.size (.deferred (some [])) :: I 0 :: Own :: L) := by
      have := (hw.alloc (o := .deferred (some []))).alloc (o := .loop rec)
      rwa [World.size_alloc] at this
    generalize hW1 : (w.alloc (.deferred (some []))).alloc (.loop rec) = W1 at hw1
    have hev := ha.ev _ _ hg
    have henter := stepR_rangeFunc (P := P) (b := b0 f none) (a := a) (k := k) (cs := cs) (w := w) (g := g) (ps := ps.toArray) (assign := assign) (body := body) (l := w.heap.size + 1) (mark := [mark w.heap.size]) (w₁ := W1)
      (d := { target := .fn (.func gf) lb.toArray, args := #[.func (.yield (w.heap.size + 1)) #[] #[]] }) (w₁' := W1) (f := gf) (args := (.func (.yield (w.heap.size + 1)) #[] #[] :: lb).toArray) (w₂ := W1)
      (by rw [← hW1, hrec]; exact run_enterLoop_outer _ _ _ _ _) (by simp only [resolve, hev]; simp [go_sem])
      (by
        have e1 : #[Value.func (.yield (w.heap.size + 1)) #[] #[]] ++ lb.toArray = (Value.func (.yield (w.heap.size + 1)) #[] #[] :: lb).toArray := by apply Array.ext'; simp
        simp only [invoke]
        rw [e1]
        exact run_callFunc hfn hname hb _ _)
    obtain ⟨e, w3, fr, ⟨⟨v, rfl⟩, hq⟩, hsteps, hfr, hleave⟩ := hit (w.heap.size + 1) (fun i => stars [I i, pt (w.heap.size + 1) (.loop rec)]) (Xe.ex fun c => stars [J c, pt (w.heap.size + 1) (.loop { rec with state := .done, pending := some c })]) (pt w.heap.size (.deferred (some [])) :: L) W1
      (fun i args M' w2 hx hw2 => by
        have hw2 : Sat E w2 (I i :: pt (w.heap.size + 1) (.loop rec) :: Sh :: M') := Sat.flat (X := [_, _]) hw2
        exact round_ycalls hrec ha.slot ha.size (hps args (List.mem_of_getElem? hx)) hpn hw2 (round rec.fn (w.heap.size + 1) rec i args M' w2 (by rw [hrec]) hx hw2))
      (Sat.unflat (X := [_, _]) (hw1.sub (.cons .at2 (.cons .at0 (.cons .at1 (.refl _))))))
      ((b0 f none).atR { a with defers := [mark w.heap.size] ++ a.defers } (.inRangeFunc (w.heap.size + 1) :: k) :: cs)
    have hag : Agr ⟨m, mark w.heap.size :: D, none⟩ F { a with defers := [mark w.heap.size] ++ a.defers } := ⟨ha.size, by simp [ha.defers], ha.slot⟩
    have hback : ∀ {jump : Option Code} {w4 : World}, (Instr.endLoop (w.heap.size + 1)).run P w3 = .ok jump w4 →
        Steps P (lone ((b0 f none).atR a (.code (.rangeFunc g ps.toArray assign body) :: k)) cs w) (lone ((b0 f none).atR { a with defers := [mark w.heap.size] ++ a.defers } ((jump.map Item.code).toList ++ k)) cs w4) := fun hend => by
      refine Steps.trans (.one henter) (Steps.trans hsteps (Steps.trans (.one ?_) (.one (stepR_endRangeFunc hend))))
      rw [← finish_atR_inRangeFunc (b := b0 f none) (a := { a with defers := [mark w.heap.size] ++ a.defers }) (k := k) (w.heap.size + 1) v]
      exact step_leave_returned hleave
    rcases hq with hq | hq
    · have hq : Sat E w3 (I xss.length :: pt (w.heap.size + 1) (.loop rec) :: Own' :: pt w.heap.size (.deferred (some [])) :: L) := Sat.flat (X := [_, _]) hq
      have hen := run_endLoop (P := P) (hq.pick .at1).block (by rw [hrec]; simp)
      have hpe : rec.pending = none := by rw [hrec]
      have hen2 : (Instr.endLoop (w.heap.size + 1)).run P w3 = .ok none (w3.putObj (w.heap.size + 1) (.loop { rec with state := .exhausted })) := by rw [hen, hpe]
      have h4 := ((hq.pick .at1).putObj (.loop { rec with state := .exhausted })).drop
      obtain ⟨e, w5, fr5, h5, hc5, hf5⟩ := rest w.heap.size _ h4 _ hag cs
      have hst := hback hen2
      simp only [Option.map_none, Option.toList_none, List.nil_append] at hst
      exact ⟨e, w5, fr5, h5, Comes.of_steps hst hc5, hf5⟩
    · obtain ⟨c, hq⟩ := hq.ex
      have hq : Sat E w3 (J c :: pt (w.heap.size + 1) (.loop { rec with state := .done, pending := some c }) :: Own' :: pt w.heap.size (.deferred (some [])) :: L) := Sat.flat (X := [_, _]) hq
      have hen := run_endLoop (P := P) (hq.pick .at1).block (by simp)
      have h4 := ((hq.pick .at1).putObj (.loop { { rec with state := .done, pending := some c } with state := .exhausted })).drop
      obtain ⟨e, w5, fr5, h5, hc5, hf5⟩ := left c w.heap.size _ h4 _ hag cs
      have hst := hback hen
      simp only [Option.map_some, Option.toList_some, List.cons_append, List.nil_append] at hst
      exact ⟨e, w5, fr5, h5, Comes.of_steps hst hc5, hf5⟩
  exact key
/-- A loop over a function within a round. -/
theorem g_rangeFuncN {l0 : Nat} {r0 : Loop} {fn : Func} {gf : FuncId} {lb : List Value} {xss : List (List Value)} {Own Own' Sh : As} {I : Nat → As} {J : Code → As} {g : Operand} {ps : List Nat} {assign body : Code}
    (hfn : P.funcs[gf]? = some fn) (hname : (fn.name == "runtime.NumGoroutine") = false) (hb : fn.body.isSome = true) (hg : opd F g = some (.func (.func gf) #[] lb.toArray))
    (hit : IterB P E gf lb xss Own Own' Sh) (hps : ∀ args ∈ xss, args.length = ps.length) (hpn : ps.all (fun p => Nat.ble (p + 1) m) = true) (hw : Sat E w (I 0 :: Own :: pt l0 (.loop r0) :: L))
    (round : ∀ (fn : FuncId) (l : Nat) (rec : Loop) (i : Nat) (args : List Value) (M' : List As) (w : World), rec.state = .ready → xss[i]? = some args → Sat E w (I i :: pt l (.loop rec) :: Sh :: M') →
      G P fn (RoundQ E l rec (I (i + 1)) J (Sh :: M')) ⟨m, [], some l⟩ [.code assign, .beginRound, .code body] (zipF ps args F) w)
    (rest : ∀ (w : World), Sat E w (I xss.length :: Own' :: pt l0 (.loop r0) :: L) → G P f R ⟨m, D, some l0⟩ k F w)
    (left : ∀ (c : Code) (w : World), Sat E w (J c :: Own' :: pt l0 (.loop r0) :: L) → G P f R ⟨m, D, some l0⟩ (.code c :: k) F w) :
    G P f R ⟨m, D, some l0⟩ (.code (.rangeFunc g ps.toArray assign body) :: k) F w := fun a ha => by
  have key : ∀ cs, ∃ e w' fr, R e w' ∧ Comes P (lone ((b0 f (some l0)).atR a (.code (.rangeFunc g ps.toArray assign body) :: k)) cs w) (lone fr cs w') e ∧ Ends P f fr w' e (some l0) := by
    intro cs
    obtain ⟨rec, hrec⟩ : ∃ rec : Loop, rec = { state := .ready, pending := none, fn := f, tmps := a.tmps, params := ps.toArray, assign, body, defers := r0.defers } := ⟨_, rfl⟩
    have hl0 := (hw.pick .at2).block
    have hw1 : Sat E (w.alloc (.loop rec)) (pt w.heap.size (.loop rec) :: I 0 :: Own :: pt l0 (.loop r0) :: L) := hw.alloc (o := .loop rec)
    generalize hW1 : w.alloc (.loop rec) = W1 at hw1
    have hev := ha.ev _ _ hg
    have henter := stepR_rangeFunc (P := P) (b := b0 f (some l0)) (a := a) (k := k) (cs := cs) (w := w) (g := g) (ps := ps.toArray) (assign := assign) (body := body) (l := w.heap.size) (mark := []) (w₁ := W1)
      (d := { target := .fn (.func gf) lb.toArray, args := #[.func (.yield (w.heap.size)) #[] #[]] }) (w₁' := W1) (f := gf) (args := (.func (.yield (w.heap.size)) #[] #[] :: lb).toArray) (w₂ := W1)
      (by rw [← hW1, hrec]; exact run_enterLoop_inner hl0 _ _ _ _ _) (by simp only [resolve, hev]; simp [go_sem])
      (by
        have e1 : #[Value.func (.yield (w.heap.size)) #[] #[]] ++ lb.toArray = (Value.func (.yield (w.heap.size)) #[] #[] :: lb).toArray := by apply Array.ext'; simp
        simp only [invoke]
        rw [e1]
        exact run_callFunc hfn hname hb _ _)
    obtain ⟨e, w3, fr, ⟨⟨v, rfl⟩, hq⟩, hsteps, hfr, hleave⟩ := hit (w.heap.size) (fun i => stars [I i, pt (w.heap.size) (.loop rec)]) (Xe.ex fun c => stars [J c, pt (w.heap.size) (.loop { rec with state := .done, pending := some c })]) (pt l0 (.loop r0) :: L) W1
      (fun i args M' w2 hx hw2 => by
        have hw2 : Sat E w2 (I i :: pt (w.heap.size) (.loop rec) :: Sh :: M') := Sat.flat (X := [_, _]) hw2
        exact round_ycalls hrec ha.slot ha.size (hps args (List.mem_of_getElem? hx)) hpn hw2 (round rec.fn (w.heap.size) rec i args M' w2 (by rw [hrec]) hx hw2))
      (Sat.unflat (X := [_, _]) (hw1.sub (.cons .at1 (.cons .at0 (.refl _)))))
      ((b0 f (some l0)).atR { a with defers := [] ++ a.defers } (.inRangeFunc (w.heap.size) :: k) :: cs)
    have hag : Agr ⟨m, D, some l0⟩ F { a with defers := [] ++ a.defers } := ⟨ha.size, by simp [ha.defers], ha.slot⟩
    have hback : ∀ {jump : Option Code} {w4 : World}, (Instr.endLoop (w.heap.size)).run P w3 = .ok jump w4 →
        Steps P (lone ((b0 f (some l0)).atR a (.code (.rangeFunc g ps.toArray assign body) :: k)) cs w) (lone ((b0 f (some l0)).atR { a with defers := [] ++ a.defers } ((jump.map Item.code).toList ++ k)) cs w4) := fun hend => by
      refine Steps.trans (.one henter) (Steps.trans hsteps (Steps.trans (.one ?_) (.one (stepR_endRangeFunc hend))))
      rw [← finish_atR_inRangeFunc (b := b0 f (some l0)) (a := { a with defers := [] ++ a.defers }) (k := k) (w.heap.size) v]
      exact step_leave_returned hleave
    rcases hq with hq | hq
    · have hq : Sat E w3 (I xss.length :: pt (w.heap.size) (.loop rec) :: Own' :: pt l0 (.loop r0) :: L) := Sat.flat (X := [_, _]) hq
      have hen := run_endLoop (P := P) (hq.pick .at1).block (by rw [hrec]; simp)
      have hpe : rec.pending = none := by rw [hrec]
      have hen2 : (Instr.endLoop (w.heap.size)).run P w3 = .ok none (w3.putObj (w.heap.size) (.loop { rec with state := .exhausted })) := by rw [hen, hpe]
      have h4 := ((hq.pick .at1).putObj (.loop { rec with state := .exhausted })).drop
      obtain ⟨e, w5, fr5, h5, hc5, hf5⟩ := rest _ h4 _ hag cs
      have hst := hback hen2
      simp only [Option.map_none, Option.toList_none, List.nil_append] at hst
      exact ⟨e, w5, fr5, h5, Comes.of_steps hst hc5, hf5⟩
    · obtain ⟨c, hq⟩ := hq.ex
      have hq : Sat E w3 (J c :: pt (w.heap.size) (.loop { rec with state := .done, pending := some c }) :: Own' :: pt l0 (.loop r0) :: L) := Sat.flat (X := [_, _]) hq
      have hen := run_endLoop (P := P) (hq.pick .at1).block (by simp)
      have h4 := ((hq.pick .at1).putObj (.loop { { rec with state := .done, pending := some c } with state := .exhausted })).drop
      obtain ⟨e, w5, fr5, h5, hc5, hf5⟩ := left c _ h4 _ hag cs
      have hst := hback hen
      simp only [Option.map_some, Option.toList_some, List.cons_append, List.nil_append] at hst
      exact ⟨e, w5, fr5, h5, Comes.of_steps hst hc5, hf5⟩
  exact key
end g
end Go.Proofs.Ytlgpdglnfjndhaa.Xe
