/-
  XE, part 15: loops over functions: a round, the loop, what an iterator owes; a function that leaves with marks.
-/
import Derived.Test.YtlgpdglnfjndhaaX14
import Derived.RangeFuncLeaves
namespace Go.Proofs.Ytlgpdglnfjndhaa.Xe
open Go

section sat
variable {E : Env} {w : World} {L : List As}
theorem Sat.putObj {b : Nat} {o : Obj} (o' : Obj) (h : Sat E w (pt b o :: L)) : Sat E (w.putObj b o') (pt b o' :: L) :=
  h.set rfl (World.putObj_heap_same (Array.getElem?_eq_some_iff.1 h.block).1) (fun _ hi => World.putObj_heap_other hi)
end sat

/-- A call of yield l. -/
def YCalls (P : Program) (l : Nat) (args : List Value) (w : World) (R : Ending → World → Prop) : Prop :=
  ∃ f tmps assign body, (Instr.yield l args.toArray).run P w = .ok (.round l f tmps assign body) w ∧ RoundIn Fence.wide 0 P l f tmps assign body w R
theorem YCalls.mono {P : Program} {l : Nat} {args : List Value} {w : World} {R R' : Ending → World → Prop} (h : YCalls P l args w R) (hr : ∀ e w, R e w → R' e w) : YCalls P l args w R' :=
  let ⟨f, tmps, assign, body, hy, h⟩ := h
  ⟨f, tmps, assign, body, hy, h.mono hr⟩

theorem rl_yield {P : Program} {ops : Array Oper} {n : NF} {Q : Exit → Act → World → Prop} {l : List Oper} {F : Fr} {w : World} {x : Operand} {as : List Operand} {ts : Array TypeId} {vs : List Value} {r yl : Nat} {ty : TypeId} {pos : String} {af : Array Edge}
    (hx : opd F x = some (.func (.yield yl) #[] #[])) (hvs : opds F as = some vs) (hd : Nat.ble (r + 1) n.n = true)
    (h : YCalls P yl vs w fun e w' => ∃ v, e = .returned v ∧ RL P ops n Q l ((r, v) :: F) w') :
    RL P ops n Q (⟨some r, .call { callee := .value x, args := as.toArray, argTypes := ts }, ty, pos, af, none⟩ :: l) F w := fun a ha =>
  wpListIn_step fun K hK => by
    rw [if_pos (met_none (ops := ops) (F := F) rfl n a ha)]
    obtain ⟨f, tmps, assign, body, hy, hr⟩ := h
    refine ⟨fun _ _ => trivial, ?_⟩
    have hrun : (execOp a.eval ⟨some r, .call { callee := .value x, args := as.toArray, argTypes := ts }, ty, pos, af, none⟩).run P w = .ok (.round yl f tmps assign body) w := by
      have hmap := opds_map ha.ev _ _ hvs
      have e1 : (#[] : Array Value) ++ as.toArray.map a.eval = vs.toArray := by
        apply Array.ext'
        simp [hmap]
      simp only [execOp, resolve, ha.ev _ _ hx, Deferred.ofValue, Sem.run_bind, Sem.run_pure, Result.andThen_ok, invoke]
      rw [e1]
      exact hy
    rw [Oper.semAt_eq _ _ _ (fun c h => by cases h), hrun, Oper.uponIn_round]
    refine ⟨fun h => by simp [Fence.wide] at h, hr.mono fun e w' he => ?_⟩
    obtain ⟨v, rfl, hk⟩ := he
    exact hK _ _ (hk _ (ha.put (Nat.le_of_ble_eq_true hd) v))

/-- The jump that a round leaves. -/
def jumpOf : Ending → Option Code
  | .returned (.int .i64 id) => some (.exit id.toNat)
  | .returned (.bool false) => some .ret
  | _ => none
/-- A round, out of its walk. -/
theorem ycalls_of_runJ {P : Program} {l : Nat} {rec : Loop} {args : List Value} {w : World} {R : Ending → World → Prop} (hl : w.heap[l]? = some (.loop rec)) (hs : args.toArray.size = rec.params.size)
    (h : Run P rec.fn (some l) (fun e w' => ∃ w'', (Instr.endRound l (jumpOf e)).run P w' = .ok (.bool (jumpOf e).isNone) w'' ∧ R (.returned (.bool (jumpOf e).isNone)) w'') [.code rec.assign, .beginRound, .code rec.body]
      ⟨(rec.params.zip args.toArray).foldl (fun tmps (t, a) => tmps.setIfInBounds t a) rec.tmps, []⟩ w) : YCalls P l args w R := by
  refine ⟨rec.fn, _, rec.assign, rec.body, run_yield hl hs, trivial, fun c cs _ => ?_⟩
  obtain ⟨e, w', fr, ⟨w'', hend, hR⟩, hc, a, k, rfl, ⟨rfl, rfl⟩ | ⟨id, k', rfl, hk, rfl⟩ | ⟨k', rfl, rfl⟩⟩ := h (c :: cs)
  · exact ⟨.returned (.bool true), w'', hR, comesIn_wide.2 (Steps.trans hc (.one (stepR_round_end rfl rfl hend)))⟩
  · exact ⟨.returned (.bool false), w'', hR, comesIn_wide.2 (Steps.trans hc (.one (stepR_round_exit rfl rfl hk hend)))⟩
  · exact ⟨.returned (.bool false), w'', hR, comesIn_wide.2 (Steps.trans hc (.one (stepR_round_ret rfl rfl hend)))⟩
theorem ycalls_of_run {P : Program} {l : Nat} {rec : Loop} {args : List Value} {w : World} {R : Ending → World → Prop} (hl : w.heap[l]? = some (.loop rec)) (hs : args.toArray.size = rec.params.size)
    (h : Run P rec.fn (some l) (fun e w' => e = .returned (.bool true) ∧ ∃ w'', (Instr.endRound l none).run P w' = .ok (.bool true) w'' ∧ R (.returned (.bool true)) w'') [.code rec.assign, .beginRound, .code rec.body]
      ⟨(rec.params.zip args.toArray).foldl (fun tmps (t, a) => tmps.setIfInBounds t a) rec.tmps, []⟩ w) : YCalls P l args w R :=
  ycalls_of_runJ hl hs (h.mono fun e w' ⟨he, h⟩ => by subst he; exact h)

/-- The slots that a round's arguments fill. -/
def zipF : List Nat → List Value → Fr → Fr
  | p :: ps, v :: vs, F => zipF ps vs ((p, v) :: F)
  | _, _, F => F
theorem Agr.zip {n : NF} : ∀ (ps : List Nat) (vs : List Value) {F : Fr} {a : Act}, Agr n F a → ps.all (fun p => Nat.ble (p + 1) n.n) = true →
    Agr n (zipF ps vs F) ⟨(ps.zip vs).foldl (fun tmps (t, a) => tmps.setIfInBounds t a) a.tmps, a.defers⟩
  | [], _, _, _, h, _ => h
  | _ :: _, [], _, _, h, _ => h
  | p :: ps, v :: vs, F, a, h, hp => by
    simp only [List.all_cons, Bool.and_eq_true] at hp
    exact Agr.zip ps vs (h.put (Nat.le_of_ble_eq_true hp.1) v) hp.2

/-- What an iterator owes: whatever a round turns I i into I (i + 1) by, all rounds are gone through. -/
def IterC (P : Program) (E : Env) (gf : FuncId) (lb : List Value) (xss : List (List Value)) (Own Own' : As) : Prop :=
  ∀ (yl : Nat) (I : Nat → As) (M : List As) (w : World),
    (∀ i args M' w, xss[i]? = some args → Sat E w (I i :: M') → YCalls P yl args w fun e w' => e = .returned (.bool true) ∧ Sat E w' (I (i + 1) :: M')) →
    Sat E w (I 0 :: Own :: M) →
    Calls P gf (.func (.yield yl) #[] #[] :: lb).toArray w fun e w' => (∃ v, e = .returned v) ∧ Sat E w' (I xss.length :: Own' :: M)

section g
variable {P : Program} {f : FuncId} {R : Ending → World → Prop} {m : Nat} {D : List Deferred} {k : List Item} {F : Fr} {w : World} {E : Env} {L : List As}

theorem g_beginRound {l : Nat} {rec : Loop} (hw : Sat E w (pt l (.loop rec) :: L)) (hs : rec.state = .ready)
    (h : ∀ w, Sat E w (pt l (.loop { rec with state := .busy }) :: L) → G P f R ⟨m, D, some l⟩ k F w) : G P f R ⟨m, D, some l⟩ (.beginRound :: k) F w := fun a ha =>
  (h _ (hw.putObj _) a ha).of_step fun _ => stepR_beginRound rfl (run_beginRound hw.block hs)
theorem g_endR {l : Nat} (h : R (.returned (.bool true)) w) : G P f R ⟨m, D, some l⟩ [] F w := fun _ _ => run_endR h
theorem g_leaveExit {l id : Nat} (hk : exitTo id k = none) (h : R (.returned (.int .i64 id)) w) : G P f R ⟨m, D, some l⟩ (.code (.exit id) :: k) F w := fun _ _ => run_leaveExit hk h
theorem g_leaveRet {l : Nat} (h : R (.returned (.bool false)) w) : G P f R ⟨m, D, some l⟩ (.code .ret :: k) F w := fun _ _ => run_leaveRet h

def mark (b : Nat) : Deferred := { target := .collected b, args := #[] }
theorem g_rangeFunc {fn : Func} {gf : FuncId} {lb : List Value} {xss : List (List Value)} {Own Own' : As} {I : Nat → As} {g : Operand} {ps : List Nat} {assign body : Code}
    (hfn : P.funcs[gf]? = some fn) (hname : (fn.name == "runtime.NumGoroutine") = false) (hb : fn.body.isSome = true) (hg : opd F g = some (.func (.func gf) #[] lb.toArray))
    (hit : IterC P E gf lb xss Own Own') (hps : ∀ args ∈ xss, args.length = ps.length) (hpn : ps.all (fun p => Nat.ble (p + 1) m) = true) (hw : Sat E w (I 0 :: Own :: L))
    (round : ∀ (fn : FuncId) (l : Nat) (rec : Loop) (i : Nat) (args : List Value) (M' : List As) (w : World), rec.state = .ready → xss[i]? = some args → Sat E w (I i :: pt l (.loop rec) :: M') →
      G P fn (fun e w' => e = .returned (.bool true) ∧ Sat E w' (I (i + 1) :: pt l (.loop { rec with state := .busy }) :: M')) ⟨m, [], some l⟩ [.code assign, .beginRound, .code body] (zipF ps args F) w)
    (rest : ∀ (b : Nat) (w : World), Sat E w (I xss.length :: Own' :: pt b (.deferred (some [])) :: L) → G P f R ⟨m, mark b :: D, none⟩ k F w) :
    G P f R ⟨m, D, none⟩ (.code (.rangeFunc g ps.toArray assign body) :: k) F w := fun a ha => by
  refine run_wpIn (wpIn_rangeFunc fun fid _ => ?_)
  obtain ⟨rec, hrec⟩ : ∃ rec : Loop, rec = { state := .ready, pending := none, fn := fid, tmps := a.tmps, params := ps.toArray, assign, body, defers := w.heap.size } := ⟨_, rfl⟩
  have hw1 : Sat E ((w.alloc (.deferred (some []))).alloc (.loop rec)) (pt (w.heap.size + 1) (.loop rec) :: pt w.heap.size (.deferred (some [])) :: I 0 :: Own :: L) := by
    have := (hw.alloc (o := .deferred (some []))).alloc (o := .loop rec)
    rwa [World.size_alloc] at this
  generalize hW1 : (w.alloc (.deferred (some []))).alloc (.loop rec) = W1 at hw1
  have hev := ha.ev _ _ hg
  refine ⟨w.heap.size + 1, [mark w.heap.size], W1, { target := .fn (.func gf) lb.toArray, args := #[.func (.yield (w.heap.size + 1)) #[] #[]] }, W1, gf, (.func (.yield (w.heap.size + 1)) #[] #[] :: lb).toArray, W1, ?_, ?_, fun _ _ => trivial, ?_, fun h => by simp [wideR] at h, ?_⟩
  · rw [← hW1, hrec]; exact run_enterLoop_outer _ _ _ _ _
  · simp only [resolve, hev]
    simp [go_sem]
  · have e1 : #[Value.func (.yield (w.heap.size + 1)) #[] #[]] ++ lb.toArray = (Value.func (.yield (w.heap.size + 1)) #[] #[] :: lb).toArray := by apply Array.ext'; simp
    simp only [invoke]
    rw [e1]
    exact run_callFunc hfn hname hb _ _
  · refine callsIn_wide.2 ((hit (w.heap.size + 1) (fun i => stars [I i, pt (w.heap.size + 1) (.loop rec)]) (pt w.heap.size (.deferred (some [])) :: L) W1 ?_ ?_).mono ?_)
    · intro i args M' w2 hx hw2
      have hw2 : Sat E w2 (I i :: pt (w.heap.size + 1) (.loop rec) :: M') := Sat.flat (X := [_, _]) hw2
      have hl2 := (hw2.pick .at1).block
      have hsz : args.toArray.size = rec.params.size := by rw [hrec]; simpa using hps args (List.mem_of_getElem? hx)
      refine ycalls_of_run hl2 hsz ?_
      have hrd := round rec.fn (w.heap.size + 1) rec i args M' w2 (by rw [hrec]) hx hw2
      have hz := Agr.zip (n := ⟨m, [], some (w.heap.size + 1)⟩) ps args (a := ⟨a.tmps, []⟩) ⟨ha.size, rfl, ha.slot⟩ hpn
      have hz2 := hrd _ hz
      have e3 : (rec.params.zip args.toArray).foldl (fun tmps (t, a) => tmps.setIfInBounds t a) rec.tmps = (ps.zip args).foldl (fun tmps (t, a) => tmps.setIfInBounds t a) a.tmps := by
        rw [hrec]
        simp only [List.zip_toArray, List.size_toArray, List.foldl_toArray']
      rw [e3]
      have ha3 : rec.assign = assign := by rw [hrec]
      have hb3 : rec.body = body := by rw [hrec]
      rw [ha3, hb3]
      refine Run.mono hz2 fun e w3 h3 => ?_
      obtain ⟨he3, h3⟩ := h3
      refine ⟨he3, ?_⟩
      have hl3 := (h3.pick .at1).block
      refine ⟨_, run_endRound (P := P) none hl3, rfl, ?_⟩
      have h4 := (h3.pick .at1).putObj (.loop { { rec with state := .busy } with state := if (none : Option Code).isNone then .ready else .done, pending := none })
      have e5 : ({ { rec with state := .busy } with state := if (none : Option Code).isNone then .ready else .done, pending := none } : Loop) = rec := by rw [hrec]; rfl
      rw [e5] at h4 ⊢
      exact Sat.unflat (X := [_, _]) (h4.pick .at1)
    · exact Sat.unflat (X := [_, _]) (hw1.sub (.cons .at2 (.cons .at0 (.cons .at1 (.refl _)))))
    · rintro e w2 ⟨⟨v, rfl⟩, hw2⟩
      have hw2 : Sat E w2 (I xss.length :: pt (w.heap.size + 1) (.loop rec) :: Own' :: pt w.heap.size (.deferred (some [])) :: L) := Sat.flat (X := [_, _]) hw2
      have hl2 := (hw2.pick .at1).block
      have hen := run_endLoop (P := P) hl2 (by rw [hrec]; simp)
      have hpe : rec.pending = none := by rw [hrec]
      refine ⟨rec.pending, _, hen, ?_⟩
      have h4 := ((hw2.pick .at1).putObj (.loop { rec with state := .exhausted })).drop
      split
      · refine rest w.heap.size _ h4 { a with defers := [mark w.heap.size] ++ a.defers } ⟨ha.size, ?_, ha.slot⟩
        simp [ha.defers]
      · rename_i c hc
        rw [hpe] at hc; cases hc

/-- The marks of loops over functions that are behind. -/
def marks (bs : List Nat) : As := stars (bs.map fun b => pt b (.deferred (some [])))
theorem marks_cons {b : Nat} {bs : List Nat} (h : Sat E w (marks (b :: bs) :: L)) : Sat E w (pt b (.deferred (some [])) :: marks bs :: L) := by
  obtain ⟨e, g, ⟨g1, g2, d, rfl, ⟨h1, h2, d2, rfl, hA, hB⟩, hL⟩, hs⟩ := h
  have d' := Hp.dj_un.1 d.symm
  exact ⟨e, _, ⟨h1, Hp.un h2 g2, Hp.dj_un.2 ⟨d2, d'.1.symm⟩, Hp.un_assoc .., hA, h2, g2, d'.2.symm, rfl, hB, hL⟩, hs⟩
theorem marks_add {b : Nat} {bs : List Nat} (h : Sat E w (pt b (.deferred (some [])) :: marks bs :: L)) : Sat E w (marks (b :: bs) :: L) := Sat.unflat (X := [_, _]) h |> fun h => by
  obtain ⟨e, g, ⟨g1, g2, d, rfl, ⟨h1, h2, d2, rfl, hA, ⟨h3, h4, d3, rfl, hB, h5⟩⟩, hL⟩, hs⟩ := h
  refine ⟨e, _, ⟨Hp.un h1 (Hp.un h3 h4), g2, d, rfl, ⟨h1, Hp.un h3 h4, d2, rfl, hA, ?_⟩, hL⟩, hs⟩
  have : Hp.un h3 h4 = h3 := by funext i; simp [Hp.un, h5 i]
  rw [this]; exact hB
theorem marks_nil (h : Sat E w L) : Sat E w (marks [] :: L) := by
  obtain ⟨e, g, hg, hs⟩ := h
  exact ⟨e, g, ⟨fun _ => none, g, fun _ => .inl rfl, by funext i; simp [Hp.un], fun _ => rfl, hg⟩, hs⟩
theorem steps_marks {cs : List Frame} : ∀ (bs : List Nat) (fr : Frame) (w : World), fr.mode = .returning → fr.defers = bs.map mark → Sat E w (marks bs :: L) → ∃ w', Sat E w' L ∧ Steps P (lone fr cs w) (lone { fr with defers := [] } cs w')
  | [], fr, w, _, hd, hw => ⟨w, hw.drop, by rw [show ({ fr with defers := [] } : Frame) = fr by rw [← show fr.defers = [] from hd]]; exact Steps.refl _ _⟩
  | b :: bs, fr, w, hm, hd, hw => by
    have hw := marks_cons hw
    have h1 := step_collected (P := P) (cs := cs) (fr := fr) (by rw [hm]; simp) hd rfl (run_takeDeferred hw.block)
    obtain ⟨w', hw', hst⟩ := steps_marks (cs := cs) bs { fr with defers := [] ++ bs.map mark } _ hm (by simp) (hw.putObj (.deferred none)).drop
    exact ⟨w', hw', Steps.trans (.one h1) hst⟩
theorem run_retM {fn : Func} {v : Value} {bs : List Nat} {a : Act} (hf : P.funcs[f]? = some fn) (hd : a.defers = bs.map mark) (hw : Sat E w (marks bs :: L)) (hr : ∀ w', Sat E w' L → (results fn a.tmps).run P w' = .ok v w' ∧ R (.returned v) w') :
    Run P f none R (.code .ret :: k) a w := fun cs => by
  obtain ⟨w', hw', hst⟩ := steps_marks (P := P) (cs := cs) bs { (b0 f none).atR a (.code .ret :: k) with mode := .returning } w rfl hd hw
  obtain ⟨h1, h2⟩ := hr w' hw'
  exact ⟨.returned v, w', _, h2, Steps.trans (.one (stepR_ret rfl)) hst, rfl, rfl, rfl, rfl, fn, hf, h1⟩
theorem run_endM {fn : Func} {v : Value} {bs : List Nat} {a : Act} (hf : P.funcs[f]? = some fn) (hd : a.defers = bs.map mark) (hw : Sat E w (marks bs :: L)) (hr : ∀ w', Sat E w' L → (results fn a.tmps).run P w' = .ok v w' ∧ R (.returned v) w') :
    Run P f none R [] a w := fun cs => by
  obtain ⟨w', hw', hst⟩ := steps_marks (P := P) (cs := cs) bs { (b0 f none).atR a [] with mode := .returning } w rfl hd hw
  obtain ⟨h1, h2⟩ := hr w' hw'
  exact ⟨.returned v, w', _, h2, Steps.trans (.one (stepR_end rfl)) hst, rfl, rfl, rfl, rfl, fn, hf, h1⟩
theorem g_retM1 {fn : Func} {t : Nat} {v : Value} {bs : List Nat} {L L' : List As} (hf : P.funcs[f]? = some fn) (hr : fn.results = #[.tmp t]) (hw : Sat E w L) (hp : Pick (marks bs) L L') (hv : look F t = some v) (h : ∀ w, Sat E w L' → R (.returned v) w) :
    G P f R ⟨m, bs.map mark, none⟩ (.code .ret :: k) F w := fun a ha => run_retM hf ha.defers (hw.pick hp) fun w' hw' => ⟨by
  rw [results_tmp hr, Array.getD_eq_getD_getElem?, ha.slot t v hv]; rfl, h w' hw'⟩
theorem g_retM0 {fn : Func} {bs : List Nat} {L L' : List As} (hf : P.funcs[f]? = some fn) (hr : fn.results = #[]) (hw : Sat E w L) (hp : Pick (marks bs) L L') (h : ∀ w, Sat E w L' → R (.returned (.tuple #[])) w) :
    G P f R ⟨m, bs.map mark, none⟩ (.code .ret :: k) F w := fun a ha => run_retM hf ha.defers (hw.pick hp) fun w' hw' => ⟨by rw [results_none hr], h w' hw'⟩
theorem g_endM0 {fn : Func} {bs : List Nat} {L L' : List As} (hf : P.funcs[f]? = some fn) (hr : fn.results = #[]) (hw : Sat E w L) (hp : Pick (marks bs) L L') (h : ∀ w, Sat E w L' → R (.returned (.tuple #[])) w) :
    G P f R ⟨m, bs.map mark, none⟩ [] F w := fun a ha => run_endM hf ha.defers (hw.pick hp) fun w' hw' => ⟨by rw [results_none hr], h w' hw'⟩
/-- A loop whose rounds leave marks. -/
theorem g_loopM {c : Code} {σ : Type} (Fi : Fr → σ → Fr) (C : Fr) (hC : Fr.le C F) (bf : σ → List Nat) (I : σ → World → Prop) (μ : σ → Nat)
    (round : ∀ x w, I x w → (∀ x' w', I x' w' → μ x' < μ x → G P f R ⟨m, (bf x').map mark, none⟩ (.inLoop c :: k) (Fi C x') w') → G P f R ⟨m, (bf x).map mark, none⟩ (.code c :: .inLoop c :: k) (Fi C x) w)
    (x0 : σ) (hF : Fr.le (Fi C x0) F) (h0 : I x0 w) : G P f R ⟨m, (bf x0).map mark, none⟩ (.code (.loop c) :: k) F w := by
  have key : ∀ q x w, μ x = q → I x w → G P f R ⟨m, (bf x).map mark, none⟩ (.code c :: .inLoop c :: k) (Fi C x) w := by
    intro q
    induction q using Nat.strongRecOn with
    | _ q ih =>
      intro x w hm hI
      refine round x w hI fun x' w' hI' hlt => ?_
      intro a ha
      exact run_inLoop (ih (μ x') (hm ▸ hlt) x' w' rfl hI' a ha)
  exact fun a ha => run_loop (key _ x0 w rfl h0 a (ha.le hF))
end g
end Go.Proofs.Ytlgpdglnfjndhaa.Xe
