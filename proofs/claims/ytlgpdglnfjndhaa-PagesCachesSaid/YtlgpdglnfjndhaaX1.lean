/-
  XE, part 1: a small program logic of this claim's own: a call is run item by item ('Run'), the frame as a list of known slots ('Agr', 'G'), memory as a list of separate parts ('Sat').
  Plain theorems over the model; the kernel checks them.
-/
import Derived.Tactics
import Derived.Orders
import Derived.Laws.Rows
import Derived.Laws.AppendOwn
import Derived.KernelRfl
import Derived.TacticsIn
import Derived.RangeFuncIn
import Derived.RangeFuncRecord
namespace Go.Proofs.Ytlgpdglnfjndhaa.Xe
open Go

/-! ### Running a call -/

/-- The bare frame of a call of function f (rd: the loop over a function whose round it is). -/
def b0 (f : FuncId) (rd : Option Nat) : Frame := { fn := f, tmps := #[], todo := [], defers := [], mode := .run, kind := .normal, roundOf := rd }

/-- How an activation has come to its end. -/
def Ends (P : Program) (f : FuncId) (fr : Frame) (w : World) (e : Ending) : Option Nat → Prop
  | none => fr.fn = f ∧ fr.leaving P w e
  | some l => ∃ a k, fr = (b0 f (some l)).atR a k ∧ ((k = [] ∧ e = .returned (.bool true)) ∨ (∃ id k', k = .code (.exit id) :: k' ∧ exitTo id k' = none ∧ e = .returned (.int .i64 id)) ∨ (∃ k', k = .code .ret :: k' ∧ e = .returned (.bool false)))

/-- From what is still to do (k), with temporaries a, in world w, the call of f ends as R says. -/
def Run (P : Program) (f : FuncId) (rd : Option Nat) (R : Ending → World → Prop) (k : List Item) (a : Act) (w : World) : Prop :=
  ∀ cs, ∃ e w' fr, R e w' ∧ Comes P (lone ((b0 f rd).atR a k) cs w) (lone fr cs w') e ∧ Ends P f fr w' e rd

/-- The fence that lets everything in, for a frame of a round or of a call. -/
def wideR (rd : Option Nat) : Fence := { fn := fun _ => True, depth := none, alive := false, round := rd }
theorem wideR_room (rd : Option Nat) (n : Nat) : (wideR rd).room n := fun _ h => by simp [wideR] at h

section run
variable {P : Program} {f : FuncId} {rd : Option Nat} {R : Ending → World → Prop} {k : List Item} {a : Act} {w : World}

theorem Run.of_step {k' : List Item} {a' : Act} {w' : World} (h : Run P f rd R k' a' w')
    (hs : ∀ cs, step P (lone ((b0 f rd).atR a k) cs w) = .next (lone ((b0 f rd).atR a' k') cs w')) : Run P f rd R k a w := fun cs =>
  let ⟨e, w1, fr, hr, hc, hf⟩ := h cs
  ⟨e, w1, fr, hr, Comes.of_steps (.one (hs cs)) hc, hf⟩

theorem Run.of_steps {k' : List Item} {a' : Act} {w' : World} (h : Run P f rd R k' a' w')
    (hs : ∀ cs, Steps P (lone ((b0 f rd).atR a k) cs w) (lone ((b0 f rd).atR a' k') cs w')) : Run P f rd R k a w := fun cs =>
  let ⟨e, w1, fr, hr, hc, hf⟩ := h cs
  ⟨e, w1, fr, hr, Comes.of_steps (hs cs) hc, hf⟩

theorem Run.mono {R' : Ending → World → Prop} (h : Run P f rd R k a w) (hr : ∀ e w, R e w → R' e w) : Run P f rd R' k a w := fun cs =>
  let ⟨e, w1, fr, hR, hc, hf⟩ := h cs
  ⟨e, w1, fr, hr _ _ hR, hc, hf⟩

theorem run_skip (h : Run P f rd R k a w) : Run P f rd R (.code .skip :: k) a w := h.of_step fun _ => stepR_skip
theorem run_label {l : Nat} (h : Run P f rd R k a w) : Run P f rd R (.code (.label l) :: k) a w := h.of_step fun _ => stepR_label
theorem run_inBlock {id : Nat} (h : Run P f rd R k a w) : Run P f rd R (.inBlock id :: k) a w := h.of_step fun _ => stepR_inBlock
theorem run_seq {x y : Code} (h : Run P f rd R (.code x :: .code y :: k) a w) : Run P f rd R (.code (.seq x y) :: k) a w := h.of_step fun _ => stepR_seq
theorem run_block {id : Nat} {c : Code} (h : Run P f rd R (.code c :: .inBlock id :: k) a w) : Run P f rd R (.code (.block id c) :: k) a w := h.of_step fun _ => stepR_block
theorem run_loop {c : Code} (h : Run P f rd R (.code c :: .inLoop c :: k) a w) : Run P f rd R (.code (.loop c) :: k) a w := h.of_step fun _ => stepR_loop
theorem run_inLoop {c : Code} (h : Run P f rd R (.code c :: .inLoop c :: k) a w) : Run P f rd R (.inLoop c :: k) a w := h.of_step fun _ => stepR_inLoop
theorem run_exit {id : Nat} {k' : List Item} (hk : exitTo id k = some k') (h : Run P f rd R k' a w) : Run P f rd R (.code (.exit id) :: k) a w := h.of_step fun _ => stepR_exit hk
theorem run_cond {c : Operand} {x y : Code} {t : Bool} (hc : a.eval c = .bool t) (h : Run P f rd R (.code (if t then x else y) :: k) a w) :
    Run P f rd R (.code (.cond c x y) :: k) a w := h.of_step fun _ => stepR_cond hc

theorem run_ret {fn : Func} {v : Value} (hf : P.funcs[f]? = some fn) (hd : a.defers = []) (hr : (results fn a.tmps).run P w = .ok v w)
    (h : R (.returned v) w) : Run P f none R (.code .ret :: k) a w := fun _ =>
  ⟨.returned v, w, { (b0 f none).atR a (.code .ret :: k) with mode := .returning }, h, .one (stepR_ret rfl), rfl, rfl, hd, rfl, fn, hf, hr⟩

/-- What must hold behind a region: the rest runs. -/
def Qk (P : Program) (f : FuncId) (rd : Option Nat) (R : Ending → World → Prop) (k : List Item) : Exit → Act → World → Prop
  | .normal, a, w => Run P f rd R k a w
  | _, _, _ => False

theorem run_wpIn {c : Code} (h : c.wpIn (wideR rd) 0 P (Qk P f rd R k) a w) : Run P f rd R (.code c :: k) a w := fun cs => by
  obtain ⟨e, a', w', hq, harr⟩ := h (b0 f rd) k cs rfl trivial (wideR_room _ _)
  cases e with
  | normal =>
    obtain ⟨e, w1, fr, hr, hc, hf⟩ := hq cs
    exact ⟨e, w1, fr, hr, Comes.of_steps (StepsIn.steps harr) hc, hf⟩
  | exit id => exact hq.elim
  | goto l => exact hq.elim
  | ret => exact hq.elim
  | panic c => exact hq.elim
  | outgrown => exact hq.elim
theorem run_wp {c : Code} (h : c.wp P (Qk P f none R k) a w) : Run P f none R (.code c :: k) a w := run_wpIn (wpIn_wide.2 h)
theorem run_wpN {c : Code} (hrd : rd = none) (h : c.wp P (Qk P f rd R k) a w) : Run P f rd R (.code c :: k) a w := by subst hrd; exact run_wp h

end run

theorem calls_of_run {P : Program} {f : FuncId} {fn : Func} {c : Code} {args : Array Value} {w : World} {R : Ending → World → Prop}
    (hf : P.funcs[f]? = some fn) (hb : fn.body = some c)
    (h : Run P f none R [.code c] ⟨args ++ Array.replicate (fn.ntmps - args.size) undef, []⟩ w) : Calls P f args w R := fun cs => by
  have := h cs
  simpa [Frame.enter, hf, hb, b0, Frame.atR, Ends] using this

/-! ### The frame: a list of slots, the newest first -/

abbrev Fr := List (Nat × Value)

def look : Fr → Nat → Option Value
  | [], _ => none
  | (j, u) :: r, i => bif Nat.beq i j then some u else look r i

def opd (F : Fr) : Operand → Option Value
  | .tmp t => look F t
  | .const v => some v
  | .global g => some (.pointer (some ⟨g, 0, none⟩))
  | .func f => some (.func (.func f) #[] #[])

/-- What evaluates operands as the frame says. -/
def Ev (F : Fr) (ρ : Operand → Value) : Prop := ∀ x u, opd F x = some u → ρ x = u

/-- How many temporaries an activation has; its deferred calls; whose round it is. -/
structure NF where
  n : Nat
  D : List Deferred
  rd : Option Nat
structure Agr (n : NF) (F : Fr) (a : Act) : Prop where
  size : a.tmps.size = n.n
  defers : a.defers = n.D
  slot : ∀ i v, look F i = some v → a.tmps[i]? = some v

theorem look_cons (j : Nat) (u : Value) (r : Fr) (i : Nat) : look ((j, u) :: r) i = if i = j then some u else look r i := by
  simp only [look]
  by_cases h : i = j
  · subst h; simp
  · rw [if_neg h, Bool.eq_false_iff.2 fun e => h (Nat.eq_of_beq_eq_true e)]; rfl

theorem Agr.ev {n : NF} {F : Fr} {a : Act} (h : Agr n F a) : Ev F a.eval := by
  intro x u hx
  cases x with
  | tmp t => simp only [opd] at hx; have := h.slot t u hx; simp [Act.eval, Array.getD_eq_getD_getElem?, this]
  | const v => simpa [opd, Act.eval] using hx
  | global g => simpa [opd, Act.eval] using hx
  | func f => simpa [opd, Act.eval] using hx

theorem Agr.put {n : NF} {F : Fr} {a : Act} (h : Agr n F a) {d : Nat} (hd : d < n.n) (v : Value) : Agr n ((d, v) :: F) (a.put (some d) v) := by
  refine ⟨by simp [Act.put, h.size], by simp [Act.put, h.defers], fun i u hu => ?_⟩
  rw [look_cons] at hu
  simp only [Act.put, Array.getElem?_setIfInBounds]
  by_cases e : i = d
  · subst e; rw [if_pos rfl] at hu; cases hu; simp [h.size, hd]
  · rw [if_neg e] at hu; rw [if_neg (fun e' => e e'.symm)]; exact h.slot i u hu

/-- Fewer slots are known. -/
def Fr.le (F' F : Fr) : Prop := ∀ i v, look F' i = some v → look F i = some v
theorem Fr.le_nil (F : Fr) : Fr.le [] F := fun i v h => by simp [look] at h
theorem Fr.le_cons {F' F : Fr} {i : Nat} {v : Value} (h : look F i = some v) (r : Fr.le F' F) : Fr.le ((i, v) :: F') F := fun j u hu => by
  rw [look_cons] at hu
  by_cases e : j = i
  · rw [if_pos e] at hu; cases hu; rw [e]; exact h
  · rw [if_neg e] at hu; exact r j u hu
theorem Fr.le_refl (F : Fr) : Fr.le F F := fun _ _ h => h
theorem Agr.le {n : NF} {F F' : Fr} {a : Act} (h : Agr n F a) (l : Fr.le F' F) : Agr n F' a := ⟨h.size, h.defers, fun i v hv => h.slot i v (l i v hv)⟩

/-- The arguments lie in the first slots. -/
def argsFr (args : List Value) (i : Nat) : Fr := match args with | [] => [] | v :: r => (i, v) :: argsFr r (i + 1)

theorem look_argsFr (args : List Value) : ∀ (i j : Nat) (v : Value), look (argsFr args i) j = some v → i ≤ j ∧ args[j - i]? = some v := by
  induction args with
  | nil => intro i j v h; simp [argsFr, look] at h
  | cons u r ih =>
    intro i j v h
    rw [argsFr, look_cons] at h
    by_cases e : j = i
    · subst e; rw [if_pos rfl] at h; cases h; simp
    · rw [if_neg e] at h
      obtain ⟨h1, h2⟩ := ih (i + 1) j v h
      refine ⟨by omega, ?_⟩
      rw [show j - i = (j - (i + 1)) + 1 by omega]
      simpa using h2

theorem Agr.enter (n : Nat) (args : List Value) (hn : args.length ≤ n) :
    Agr ⟨n, [], none⟩ (argsFr args 0) ⟨args.toArray ++ Array.replicate (n - args.length) undef, []⟩ := by
  refine ⟨by simp; omega, rfl, fun i v hv => ?_⟩
  obtain ⟨_, h⟩ := look_argsFr args 0 i v hv
  rw [Nat.sub_zero] at h
  have hlt : i < args.length := by
    rcases Nat.lt_or_ge i args.length with h' | h'
    · exact h'
    · rw [List.getElem?_eq_none h'] at h; cases h
  rw [Array.getElem?_append_left (by simpa using hlt)]
  simpa using h

/-- What is still to do, from every act that agrees with the frame. -/
def G (P : Program) (f : FuncId) (R : Ending → World → Prop) (n : NF) (k : List Item) (F : Fr) (w : World) : Prop :=
  ∀ a, Agr n F a → Run P f n.rd R k a w

section g
variable {P : Program} {f : FuncId} {R : Ending → World → Prop} {n : NF} {k : List Item} {F : Fr} {w : World}

theorem calls_of_g {n : Nat} {fn : Func} {c : Code} {args : List Value} (hf : P.funcs[f]? = some fn) (hb : fn.body = some c) (hn : fn.ntmps = n) (hl' : Nat.ble args.length n = true)
    (h : G P f R ⟨n, [], none⟩ [.code c] (argsFr args 0) w) : Calls P f args.toArray w R := by
  have hl := Nat.le_of_ble_eq_true hl'
  refine calls_of_run hf hb (h _ ?_)
  subst hn
  have := Agr.enter fn.ntmps args hl
  simpa using this

theorem g_skip (h : G P f R n k F w) : G P f R n (.code .skip :: k) F w := fun a ha => run_skip (h a ha)
theorem g_label {l : Nat} (h : G P f R n k F w) : G P f R n (.code (.label l) :: k) F w := fun a ha => run_label (h a ha)
theorem g_inBlock {id : Nat} (h : G P f R n k F w) : G P f R n (.inBlock id :: k) F w := fun a ha => run_inBlock (h a ha)
theorem g_seq {x y : Code} (h : G P f R n (.code x :: .code y :: k) F w) : G P f R n (.code (.seq x y) :: k) F w := fun a ha => run_seq (h a ha)
theorem g_block {id : Nat} {c : Code} (h : G P f R n (.code c :: .inBlock id :: k) F w) : G P f R n (.code (.block id c) :: k) F w := fun a ha => run_block (h a ha)
theorem g_exit {id : Nat} {k' : List Item} (hk : exitTo id k = some k') (h : G P f R n k' F w) : G P f R n (.code (.exit id) :: k) F w := fun a ha => run_exit hk (h a ha)
theorem g_le {F' : Fr} (hl : Fr.le F' F) (h : G P f R n k F' w) : G P f R n k F w := fun a ha => h a (ha.le hl)

theorem g_cond {c : Operand} {x y : Code} {t : Bool} (hc : opd F c = some (.bool t)) (h1 : t = true → G P f R n (.code x :: k) F w)
    (h2 : t = false → G P f R n (.code y :: k) F w) : G P f R n (.code (.cond c x y) :: k) F w := fun a ha => by
  cases t with
  | true => exact run_cond (ha.ev _ _ hc) (h1 rfl a ha)
  | false => exact run_cond (ha.ev _ _ hc) (h2 rfl a ha)
theorem g_cond_true {c : Operand} {x y : Code} (hc : opd F c = some (.bool true)) (h : G P f R n (.code x :: k) F w) : G P f R n (.code (.cond c x y) :: k) F w :=
  g_cond hc (fun _ => h) (fun h => by cases h)
theorem g_cond_false {c : Operand} {x y : Code} (hc : opd F c = some (.bool false)) (h : G P f R n (.code y :: k) F w) : G P f R n (.code (.cond c x y) :: k) F w :=
  g_cond hc (fun h => by cases h) (fun _ => h)
/-- A test whose Bool is a decision. -/
theorem g_cond_dec {c : Operand} {x y : Code} {p : Prop} [Decidable p] (hc : opd F c = some (.bool (decide p))) (h1 : p → G P f R n (.code x :: k) F w)
    (h2 : ¬ p → G P f R n (.code y :: k) F w) : G P f R n (.code (.cond c x y) :: k) F w :=
  g_cond hc (fun h => h1 (of_decide_eq_true h)) (fun h => h2 (of_decide_eq_false h))

/-- A loop: x is what its rounds are told apart by; 'Fi x' the frame at a round's head, 'I x w' what holds there. -/
theorem g_loop {c : Code} {σ : Type} (Fi : σ → Fr) (I : σ → World → Prop) (μ : σ → Nat)
    (round : ∀ x w, I x w → (∀ x' w', I x' w' → μ x' < μ x → G P f R n (.inLoop c :: k) (Fi x') w') → G P f R n (.code c :: .inLoop c :: k) (Fi x) w)
    (x0 : σ) (hF : Fr.le (Fi x0) F) (h0 : I x0 w) : G P f R n (.code (.loop c) :: k) F w := by
  have key : ∀ m x w, μ x = m → I x w → G P f R n (.code c :: .inLoop c :: k) (Fi x) w := by
    intro m
    induction m using Nat.strongRecOn with
    | _ m ih =>
      intro x w hm hI
      refine round x w hI fun x' w' hI' hlt => ?_
      intro a ha
      exact run_inLoop (ih (μ x') (hm ▸ hlt) x' w' rfl hI' a ha)
  exact fun a ha => run_loop (key _ x0 w rfl h0 a (ha.le hF))

theorem g_ret1 {m : Nat} {fn : Func} {t : Nat} {v : Value} (hf : P.funcs[f]? = some fn) (hr : fn.results = #[.tmp t]) (hv : look F t = some v) (h : R (.returned v) w) :
    G P f R ⟨m, [], none⟩ (.code .ret :: k) F w := fun a ha => run_ret hf ha.defers (v := v) (by
  rw [results_tmp hr, Array.getD_eq_getD_getElem?, ha.slot t v hv]; rfl) h
theorem g_ret2 {m : Nat} {fn : Func} {t u : Nat} {v v' : Value} (hf : P.funcs[f]? = some fn) (hr : fn.results = #[.tmp t, .tmp u]) (hv : look F t = some v) (hv' : look F u = some v')
    (h : R (.returned (.tuple #[v, v'])) w) : G P f R ⟨m, [], none⟩ (.code .ret :: k) F w := fun a ha => run_ret hf ha.defers (v := .tuple #[v, v']) (by
  rw [results_tmp2 hr, Array.getD_eq_getD_getElem?, ha.slot t v hv, Array.getD_eq_getD_getElem?, ha.slot u v' hv']; rfl) h
theorem g_ret3 {m : Nat} {fn : Func} {t u s : Nat} {v v' v'' : Value} (hf : P.funcs[f]? = some fn) (hr : fn.results = #[.tmp t, .tmp u, .tmp s]) (hv : look F t = some v) (hv' : look F u = some v')
    (hv'' : look F s = some v'') (h : R (.returned (.tuple #[v, v', v''])) w) : G P f R ⟨m, [], none⟩ (.code .ret :: k) F w := fun a ha => run_ret hf ha.defers (v := .tuple #[v, v', v'']) (by
  have e1 := ha.slot t v hv; have e2 := ha.slot u v' hv'; have e3 := ha.slot s v'' hv''
  simp [results, hr, e1, e2, e3]) h

end g

/-! ### Operations -/

/-- In every world that meets S, whatever evaluates as F says, the operation yields v and does nothing else. -/
def OpV (P : Program) (F : Fr) (S : World → Prop) (o : Oper) (v : Value) : Prop :=
  ∀ ρ w, Ev F ρ → S w → (execOp ρ o).run P w = .ok (.value v) w

/-- The operations l of a region (ops: all of them), then Q. -/
def RL (P : Program) (ops : Array Oper) (n : NF) (Q : Exit → Act → World → Prop) (l : List Oper) (F : Fr) (w : World) : Prop :=
  ∀ a, Agr n F a → wpListIn Fence.wide 0 P ops Q l a w

/-- An operation is no 'defer'. -/
def noDefer (o : Oper) : Bool := match o.op with | .defer _ => false | _ => true
theorem wpIn_of_wp {P : Program} {o : Oper} {a : Act} {w : World} {K : Act → World → Prop} {Q : Exit → Act → World → Prop} (h : o.wp P a w K Q) : o.wpIn Fence.wide 0 P a w K Q := by
  refine ⟨fun _ _ => trivial, ?_⟩
  unfold Oper.wp at h
  show o.uponIn Fence.wide 0 P a K Q ((execOp a.eval o).run P w)
  cases hr : (execOp a.eval o).run P w with
  | ok x w' =>
    rw [hr] at h
    cases x <;> first | exact h | exact h.elim | exact ⟨fun h => by simp [Fence.wide] at h, callsIn_wide.2 h⟩ | exact ⟨fun h => by simp [Fence.wide] at h, fun c cs _ => let ⟨v, w2, r, s⟩ := h c cs; ⟨v, w2, r, stepsIn_wide.2 s⟩⟩
  | halt x w' =>
    rw [hr] at h
    cases x <;> exact h
theorem wpListIn_round {P : Program} {ops : Array Oper} {Q : Exit → Act → World → Prop} (l0 : Nat) : ∀ (l : List Oper) (a : Act) (w : World), l.all noDefer = true → wpListIn Fence.wide 0 P ops Q l a w → wpListIn (Fence.wide.inRound l0) 0 P ops Q l a w
  | [], _, _, _, h => h
  | o :: l, a, w, hn, h => by
    simp only [List.all_cons, Bool.and_eq_true] at hn
    simp only [wpListIn] at h ⊢
    split
    · rename_i hw
      rw [if_pos hw] at h
      refine ⟨fun _ _ => trivial, ?_⟩
      have h2 := h.2
      rw [Oper.semAt_eq _ _ _ (fun c hc => by have := hn.1; simp [noDefer, hc] at this)] at h2 ⊢
      cases hr : (execOp a.eval o).run P w with
      | ok x w' =>
        rw [hr] at h2
        cases x with
        | enter f args => exact ⟨h2.1, h2.2.mono fun e w2 he => by cases e <;> first | exact wpListIn_round l0 l _ _ hn.2 he | exact he⟩
        | row r args => exact ⟨h2.1, h2.2.mono fun v w2 he => wpListIn_round l0 l _ _ hn.2 he⟩
        | round l1 f tmps x y => exact ⟨h2.1, h2.2.mono fun e w2 he => by cases e <;> first | exact wpListIn_round l0 l _ _ hn.2 he | exact he⟩
        | _ => first | exact wpListIn_round l0 l _ _ hn.2 h2 | exact h2.elim
      | halt x w' =>
        rw [hr] at h2
        cases x <;> exact h2
    · rename_i hw
      rw [if_neg hw] at h
      exact ⟨fun _ _ => trivial, wpListIn_round l0 l _ _ hn.2 h.2⟩
theorem g_region {P : Program} {f : FuncId} {R : Ending → World → Prop} {n : NF} {k : List Item} {F : Fr} {w : World} {id : Nat} {l : List Oper}
    (h : RL P l.toArray n (Qk P f n.rd R k) l F w) (hn : (n.rd.isNone || l.all noDefer) = true := by rfl) : G P f R n (.code (.region id l.toArray false) :: k) F w := fun a ha => by
  refine run_wpIn (wpIn_region_lit ?_)
  have h1 := h a ha
  cases hr : n.rd with
  | none => rw [hr] at h1; exact h1
  | some l0 =>
    rw [hr] at h1 hn
    exact wpListIn_round l0 l a w (by simpa using hn) h1

section rl
variable {P : Program} {ops : Array Oper} {n : NF} {Q : Exit → Act → World → Prop} {l : List Oper} {F : Fr} {w : World} {o : Oper}

theorem rl_nil {f : FuncId} {R : Ending → World → Prop} {k : List Item} (h : G P f R n k F w) : RL P ops n (Qk P f n.rd R k) [] F w := fun a ha => wpListIn_nil (h a ha)

theorem rl_le {F' : Fr} (hl : Fr.le F' F) (h : RL P ops n Q l F' w) : RL P ops n Q l F w := fun a ha => h a (ha.le hl)

/-- Is the operation's guard met? -/
def Met (ops : Array Oper) (F : Fr) (o : Oper) (b : Bool) : Prop := ∀ n a, Agr n F a → Region.wanted o (yielded ops a.tmps) = b

theorem met_none (hg : o.guard = none) : Met ops F o true := fun n a ha => by simp [Region.wanted, hg]
theorem met_guard {j s : Nat} {c b : Bool} {oj : Oper} (hg : o.guard = some (j, c)) (hj : ops[j]? = some oj) (hs : oj.dst = some s) (hb : look F s = some (.bool b)) :
    Met ops F o (b == c) := fun n a ha => by
  simp only [Region.wanted, hg, yielded, hj, Option.bind_some, hs, ha.slot s _ hb]
  cases b <;> cases c <;> rfl

theorem met_on {j s : Nat} {c : Bool} {oj : Oper} (hg : o.guard = some (j, c)) (hj : ops[j]? = some oj) (hs : oj.dst = some s) (hb : look F s = some (.bool c)) :
    Met ops F o true := by
  have := met_guard hg hj hs hb
  rwa [beq_self_eq_true] at this
theorem met_off {j s : Nat} {c b : Bool} {oj : Oper} (hg : o.guard = some (j, c)) (hj : ops[j]? = some oj) (hs : oj.dst = some s) (hb : look F s = some (.bool b))
    (hn : (b == c) = false) : Met ops F o false := by
  have := met_guard hg hj hs hb
  rwa [hn] at this

/-- A step: what the operation does, then the rest (K). -/
def OpK (P : Program) (n : NF) (F : Fr) (o : Oper) (w : World) (K : Fr → World → Prop) : Prop :=
  ∀ a (K' : Act → World → Prop) Q, Agr n F a → (∀ F' w' a', K F' w' → Agr n F' a' → K' a' w') → o.wp P a w K' Q

theorem rl_k (hg : o.guard = none) (h : OpK P n F o w (fun F' w' => RL P ops n Q l F' w')) : RL P ops n Q (o :: l) F w := fun a ha =>
  wpListIn_step fun K hK => by
    rw [if_pos (met_none (ops := ops) (F := F) hg n a ha)]
    exact wpIn_of_wp (h a K Q ha fun F' w' a' hr ha' => hK a' w' (hr a' ha'))
theorem rl_kg (hm : Met ops F o true) (h : OpK P n F o w (fun F' w' => RL P ops n Q l F' w')) : RL P ops n Q (o :: l) F w := fun a ha =>
  wpListIn_step fun K hK => by
    rw [if_pos (hm n a ha)]
    exact wpIn_of_wp (h a K Q ha fun F' w' a' hr ha' => hK a' w' (hr a' ha'))

theorem rl_v {v : Value} {d : Nat} {S : World → Prop} (hg : o.guard = none) (hd : o.dst = some d) (hn : Nat.ble (d + 1) n.n = true) (hS : S w) (hv : OpV P F S o v)
    (h : RL P ops n Q l ((d, v) :: F) w) : RL P ops n Q (o :: l) F w := fun a ha =>
  wpListIn_step fun K hK => by
    rw [if_pos (met_none (ops := ops) (F := F) hg n a ha)]
    refine wpIn_of_wp ?_
    unfold Oper.wp
    rw [hv a.eval w ha.ev hS, Oper.upon_value, hd]
    exact hK _ _ (h _ (ha.put (Nat.le_of_ble_eq_true hn) v))

/-- The same under a guard. -/
theorem rl_vg {v : Value} {d : Nat} {S : World → Prop} (hm : Met ops F o true) (hd : o.dst = some d) (hn : Nat.ble (d + 1) n.n = true) (hS : S w) (hv : OpV P F S o v)
    (h : RL P ops n Q l ((d, v) :: F) w) : RL P ops n Q (o :: l) F w := fun a ha =>
  wpListIn_step fun K hK => by
    rw [if_pos (hm n a ha)]
    refine wpIn_of_wp ?_
    unfold Oper.wp
    rw [hv a.eval w ha.ev hS, Oper.upon_value, hd]
    exact hK _ _ (h _ (ha.put (Nat.le_of_ble_eq_true hn) v))

/-- An operation whose guard is not met. -/
theorem rl_off {d : Nat} (hm : Met ops F o false) (hd : o.dst = some d) (hn : Nat.ble (d + 1) n.n = true) (h : RL P ops n Q l ((d, undef) :: F) w) : RL P ops n Q (o :: l) F w := fun a ha =>
  wpListIn_step fun K hK => by
    rw [if_neg (by rw [hm n a ha]; simp), hd]
    exact ⟨fun _ _ => trivial, hK _ _ (h _ (ha.put (Nat.le_of_ble_eq_true hn) undef))⟩
/-- The Bool of a slot, told apart. -/
theorem rl_split {s : Nat} {b : Bool} (hb : look F s = some (.bool b)) (h1 : b = true → RL P ops n Q l ((s, .bool true) :: F) w)
    (h2 : b = false → RL P ops n Q l ((s, .bool false) :: F) w) : RL P ops n Q l F w := by
  have hle : Fr.le ((s, .bool b) :: F) F := Fr.le_cons hb (Fr.le_refl F)
  cases b with
  | true => exact rl_le hle (h1 rfl)
  | false => exact rl_le hle (h2 rfl)
theorem rl_split_dec {s : Nat} {p : Prop} [Decidable p] (hb : look F s = some (.bool (decide p))) (h1 : p → RL P ops n Q l ((s, .bool true) :: F) w)
    (h2 : ¬ p → RL P ops n Q l ((s, .bool false) :: F) w) : RL P ops n Q l F w :=
  rl_split hb (fun h => h1 (of_decide_eq_true h)) (fun h => h2 (of_decide_eq_false h))

end rl

/-- A slot is written, or none. -/
def putF : Option Nat → Value → Fr → Fr
  | some d, v, F => (d, v) :: F
  | none, _, F => F
def okD (n : NF) : Option Nat → Bool
  | some d => Nat.ble (d + 1) n.n
  | none => true
theorem Agr.putF {n : NF} {F : Fr} {a : Act} (h : Agr n F a) {d : Option Nat} (hd : okD n d = true) (v : Value) : Agr n (putF d v F) (a.put d v) := by
  cases d with
  | none => exact h
  | some d => exact h.put (Nat.le_of_ble_eq_true hd) v

section k
variable {P : Program} {n : NF} {F : Fr} {w : World} {K : Fr → World → Prop} {d : Option Nat} {ty : TypeId} {pos : String} {af : Array Edge} {gd : Option (Nat × Bool)}

/-- The values of some operands. -/
def opds (F : Fr) : List Operand → Option (List Value)
  | [] => some []
  | x :: r => match opd F x, opds F r with
    | some v, some vs => some (v :: vs)
    | _, _ => none
theorem opds_map {F : Fr} {ρ : Operand → Value} (hρ : Ev F ρ) : ∀ (as : List Operand) (vs : List Value), opds F as = some vs → as.map ρ = vs
  | [], vs, h => by simp [opds] at h; simp [← h]
  | x :: as, vs, h => by
    simp only [opds] at h
    split at h <;> try contradiction
    rename_i u us hu hus
    cases h
    simp [hρ x u hu, opds_map hρ as us hus]
theorem mapM_opd {F : Fr} {ρ : Operand → Value} (hρ : Ev F ρ) : ∀ (as : List Operand) (vs : List Value), as.mapM (opd F) = some vs → as.map ρ = vs
  | [], vs, h => by simp at h; simp [h]
  | x :: as, vs, h => by
    simp only [List.mapM_cons, Option.bind_eq_bind, Option.bind_eq_some_iff] at h
    obtain ⟨u, hu, us, hus, h⟩ := h
    simp at h
    subst h
    simp [hρ x u hu, mapM_opd hρ as us hus]

theorem run_callFunc {g : FuncId} {fn : Func} (hf : P.funcs[g]? = some fn) (hname : (fn.name == "runtime.NumGoroutine") = false) (hb : fn.body.isSome = true) (args : Array Value) (w : World) :
    (callFunc g args).run P w = .ok (.enter g args) w := by
  have hb' : fn.body.isNone = false := by cases h : fn.body <;> simp_all
  simp only [callFunc, Sem.run_bind, run_program, Result.andThen_ok, hf]
  rw [hname, hb']
  rfl

/-- A call of a function by its name. -/
theorem k_callf {g : FuncId} {fn : Func} {as : List Operand} {ts : Array TypeId} {vs : List Value} {r : Nat}
    (hf : P.funcs[g]? = some fn) (hvs : opds F as = some vs) (hname : (fn.name == "runtime.NumGoroutine") = false) (hb : fn.body.isSome = true) (hd : Nat.ble (r + 1) n.n = true)
    (h : Calls P g vs.toArray w fun e w' => ∃ v, e = .returned v ∧ K ((r, v) :: F) w') :
    OpK P n F ⟨some r, .call { callee := .value (.func g), args := as.toArray, argTypes := ts }, ty, pos, af, gd⟩ w K := by
  intro a K' Q ha hK
  have hρ := ha.ev
  have hmap := opds_map hρ _ _ hvs
  have hrun : (execOp a.eval ⟨some r, .call { callee := .value (.func g), args := as.toArray, argTypes := ts }, ty, pos, af, gd⟩).run P w = .ok (.enter g vs.toArray) w := by
    have e1 : (#[] : Array Value) ++ as.toArray.map a.eval ++ #[] = vs.toArray := by
      apply Array.ext'
      simp [hmap]
    simp only [execOp, resolve, Act.eval, Deferred.ofValue, Sem.run_bind, Sem.run_pure, Result.andThen_ok, invoke]
    exact (congrArg (fun z => (callFunc g z).run P w) e1).trans (run_callFunc hf hname hb _ _)
  unfold Oper.wp
  rw [hrun, Oper.upon_enter]
  refine Calls.mono h fun e w' he => ?_
  obtain ⟨v, rfl, hk⟩ := he
  exact hK _ _ _ hk (ha.put (Nat.le_of_ble_eq_true hd) v)

end k

theorem Fr.le_skip {F1 F' : Fr} {d : Nat} {v : Value} (h : look F1 d = none) (r : Fr.le F1 F') : Fr.le F1 ((d, v) :: F') := fun i u hu => by
  rw [look_cons]
  by_cases e : i = d
  · subst e; rw [h] at hu; cases hu
  · rw [if_neg e]; exact r i u hu
theorem Fr.le_keep {F1 F' : Fr} {d : Nat} {v : Value} (r : Fr.le F1 F') : Fr.le ((d, v) :: F1) ((d, v) :: F') := fun i u hu => by
  rw [look_cons] at hu ⊢
  by_cases e : i = d
  · rwa [if_pos e] at hu ⊢
  · rw [if_neg e] at hu ⊢; exact r i u hu

/-! shorter names for long rows of steps -/
theorem xV {P : Program} {ops : Array Oper} {n : NF} {Q : Exit → Act → World → Prop} {l : List Oper} {F : Fr} {w : World} {o : Oper} {v : Value} {d : Nat} (hg : o.guard = none) (hd : o.dst = some d) (hn : Nat.ble (d + 1) n.n = true) (hv : OpV P F (fun _ => True) o v)
    (h : RL P ops n Q l ((d, v) :: F) w) : RL P ops n Q (o :: l) F w := rl_v (S := fun _ => True) hg hd hn trivial hv h
theorem xS {F1 F' : Fr} {d : Nat} {v : Value} (h : look F1 d = none) (r : Fr.le F1 F') : Fr.le F1 ((d, v) :: F') := Fr.le_skip h r
theorem xK {F1 F' : Fr} {d : Nat} {v : Value} (r : Fr.le F1 F') : Fr.le ((d, v) :: F1) ((d, v) :: F') := Fr.le_keep r
end Go.Proofs.Ytlgpdglnfjndhaa.Xe
