/-
  The search tree over any pages, as functions on plain data (no program).
-/
import Derived.Test.YtdiocmjhencbpaaH07
import Derived.Test.YtdiocmjhencbpaaX13
namespace Go.Proofs.Ytdiocmjhencbpaa
set_option maxRecDepth 8000
set_option linter.unusedSimpArgs false
set_option linter.unusedVariables false
open Go Xe
structure PgOps (σ : Type) where
  rd : σ → Rf → Nd × Int × σ
  wr : σ → Nd → Rf × Int × σ
def en0 : En := ⟨ByteArray.empty, []⟩
def kd0 : Kd := ⟨ByteArray.empty, rf0⟩
def lowN (n : Nd) : ByteArray := if n.leaf = true then (match n.entries with | e :: _ => e.name | [] => ByteArray.empty) else (match n.kids with | k :: _ => k.low | [] => ByteArray.empty)
def sizeN (n : Nd) : Nat := if n.leaf = true then n.entries.length else n.kids.length
def withN (x y : Nd) : Nd := ⟨x.leaf, x.entries ++ y.entries, x.kids ++ y.kids⟩
def halvesN (x : Nd) : List Nd :=
  if x.leaf = true then [⟨true, x.entries.take ((sizeN x + 1) / 2), []⟩, ⟨true, x.entries.drop ((sizeN x + 1) / 2), []⟩]
  else [⟨false, [], x.kids.take ((sizeN x + 1) / 2)⟩, ⟨false, [], x.kids.drop ((sizeN x + 1) / 2)⟩]
def belowGo (ks : List Kd) (name : ByteArray) : Nat → Nat
  | 0 => 0
  | i + 1 => if sl name (ks.getD (i + 1) kd0).low = true then belowGo ks name i else i + 1
def belowN (ks : List Kd) (name : ByteArray) : Nat := belowGo ks name (ks.length - 1)
def bsGo (es : List En) (name : ByteArray) (i j : Nat) : Nat :=
  if h : i < j then (if sl (es.getD ((i + j) / 2) en0).name name = true then bsGo es name ((i + j) / 2 + 1) j else bsGo es name i ((i + j) / 2)) else i
  termination_by j - i
  decreasing_by all_goals omega
def searchI (es : List En) (name : ByteArray) : Nat := bsGo es name 0 es.length
def searchB (es : List En) (name : ByteArray) : Bool := decide (searchI es name < es.length) && decide ((es.getD (searchI es name) en0).name = name)
section
variable {σ : Type} (P : PgOps σ)
/-- The node of a page. -/
def at1 (s : σ) (r : Rf) : Nd × Int × σ :=
  if (P.rd s r).2.1 ≠ 0 then (nd0, (P.rd s r).2.1, (P.rd s r).2.2) else
  if (P.rd s r).1.leaf = false ∧ (P.rd s r).1.kids = [] then (nd0, 70, (P.rd s r).2.2) else (P.rd s r).1 |> fun x => (x, 0, (P.rd s r).2.2)
/-- .. with so many levels left. -/
def atO : Nat → σ → Rf → Nd × Int × σ
  | 0, s, _ => (nd0, 70, s)
  | _ + 1, s, r => at1 P s r
def layO : σ → List Nd → List Kd → List Kd × Int × σ
  | s, [], acc => (acc, 0, s)
  | s, x :: l, acc => if (P.wr s x).2.1 ≠ 0 then ([], (P.wr s x).2.1, (P.wr s x).2.2) else layO (P.wr s x).2.2 l (acc ++ [⟨lowN x, (P.wr s x).1⟩])
def getO : Nat → σ → Rf → ByteArray → En × Bool × Int × σ
  | 0, s, _, _ => (en0, false, 70, s)
  | k + 1, s, r, name =>
    if (at1 P s r).2.1 ≠ 0 then (en0, false, (at1 P s r).2.1, (at1 P s r).2.2) else
    if (at1 P s r).1.leaf = true then
      (if searchB (at1 P s r).1.entries name = true then ((at1 P s r).1.entries.getD (searchI (at1 P s r).1.entries name) en0, true, 0, (at1 P s r).2.2) else (en0, false, 0, (at1 P s r).2.2))
    else getO k (at1 P s r).2.2 ((at1 P s r).1.kids.getD (belowN (at1 P s r).1.kids name) kd0).ref name
def splitN (x : Nd) : List Nd := if 4 < sizeN x then halvesN x else [x]
/-- A leaf with a secret put in. -/
def insN (x : Nd) (e : En) : Nd :=
  ⟨x.leaf, if searchB x.entries e.name = true then x.entries.set (searchI x.entries e.name) e else x.entries.take (searchI x.entries e.name) ++ [e] ++ x.entries.drop (searchI x.entries e.name), x.kids⟩
/-- A node in which kids stand for those from one place on, up to another one. -/
def reN (x : Nd) (i j : Nat) (ks : List Kd) : Nd := ⟨x.leaf, x.entries, x.kids.take i ++ ks ++ x.kids.drop j⟩
def putO : Nat → σ → Rf → En → List Nd × Int × σ
  | 0, s, _, _ => ([], 70, s)
  | k + 1, s, r, e =>
    if (at1 P s r).2.1 ≠ 0 then ([], (at1 P s r).2.1, (at1 P s r).2.2) else
    if (at1 P s r).1.leaf = true then (splitN (insN (at1 P s r).1 e), 0, (at1 P s r).2.2) else
      let x := (at1 P s r).1
      let i := belowN x.kids e.name
      let l := putO k (at1 P s r).2.2 (x.kids.getD i kd0).ref e
      if l.2.1 ≠ 0 then ([], l.2.1, l.2.2) else
      let ks := layO P l.2.2 l.1 []
      if ks.2.1 ≠ 0 then ([], ks.2.1, ks.2.2) else
      (splitN (reN x i (i + 1) ks.1), 0, ks.2.2)
/-- Parts are laid down till there is one. -/
def growO : Nat → σ → List Nd → Rf × Int × σ
  | 0, s, _ => (rf0, 0, s)
  | k + 1, s, l =>
    let ks := layO P s l []
    if ks.2.1 ≠ 0 then (rf0, ks.2.1, ks.2.2) else
    if ks.1.length = 1 then ((ks.1.getD 0 kd0).ref, 0, ks.2.2) else growO k ks.2.2 [⟨false, [], ks.1⟩]
def putT (s : σ) (root : Rf) (e : En) : Rf × Int × σ :=
  let l := putO P 8 s root e
  if l.2.1 ≠ 0 then (rf0, l.2.1, l.2.2) else growO P 2 l.2.2 l.1
/-- A child that has too few parts together with its neighbour. -/
def levelO (k : Nat) (s : σ) (x : Nd) (i from_ : Nat) (y : Nd) : List Nd × Int × σ :=
  let other := 2 * from_ + 1 - i
  let z := atO P k s (x.kids.getD other kd0).ref
  if z.2.1 ≠ 0 then ([], z.2.1, z.2.2) else
  if z.1.leaf ≠ y.leaf then ([], 70, z.2.2) else
  let all := if other < i then withN z.1 y else withN y z.1
  (if sizeN all < 4 then [all] else halvesN all, 0, z.2.2)
def takeO : Nat → σ → Rf → ByteArray → Nd × Bool × Int × σ
  | 0, s, _, _ => (nd0, false, 70, s)
  | k + 1, s, r, name =>
    if (at1 P s r).2.1 ≠ 0 then (nd0, false, (at1 P s r).2.1, (at1 P s r).2.2) else
    if (at1 P s r).1.leaf = true then
      (⟨true, if searchB (at1 P s r).1.entries name = true then (at1 P s r).1.entries.eraseIdx (searchI (at1 P s r).1.entries name) else (at1 P s r).1.entries, (at1 P s r).1.kids⟩, searchB (at1 P s r).1.entries name, 0, (at1 P s r).2.2)
    else
      let x := (at1 P s r).1
      let i := belowN x.kids name
      let y := takeO k (at1 P s r).2.2 (x.kids.getD i kd0).ref name
      if y.2.2.1 ≠ 0 ∨ y.2.1 = false then (nd0, false, y.2.2.1, y.2.2.2) else
      let from_ := if sizeN y.1 < 2 ∧ 1 < x.kids.length then min i (x.kids.length - 2) else i
      let to := if sizeN y.1 < 2 ∧ 1 < x.kids.length then from_ + 2 else i + 1
      let l := if sizeN y.1 < 2 ∧ 1 < x.kids.length then levelO P k y.2.2.2 x i from_ y.1 else ([y.1], 0, y.2.2.2)
      if l.2.1 ≠ 0 then (nd0, false, l.2.1, l.2.2) else
      let ks := layO P l.2.2 l.1 []
      if ks.2.1 ≠ 0 then (nd0, false, ks.2.1, ks.2.2) else
      (reN x from_ to ks.1, true, 0, ks.2.2)
def delT (s : σ) (root : Rf) (name : ByteArray) : Rf × Bool × Int × σ :=
  let x := takeO P 8 s root name
  if x.2.2.1 ≠ 0 then (rf0, false, x.2.2.1, x.2.2.2) else
  if x.2.1 = false then (root, false, 0, x.2.2.2) else
  if x.1.leaf = false ∧ x.1.kids.length = 1 then ((x.1.kids.getD 0 kd0).ref, true, 0, x.2.2.2) else
  let ks := layO P x.2.2.2 [x.1] []
  if ks.2.1 ≠ 0 then (rf0, false, ks.2.1, ks.2.2) else ((ks.1.getD 0 kd0).ref, true, 0, ks.2.2)
/-- All kids moved by a function: the kids, how many pages, the error, what is behind it. -/
def movesO (f : σ → Rf → Rf × Int × Int × σ) : List Kd → Int → σ → List Kd × Int × Int × σ
  | [], n, s => ([], n, 0, s)
  | k :: ks, n, s =>
    let m := f s k.ref
    if m.2.2.1 ≠ 0 then ([], 0, m.2.2.1, m.2.2.2) else
    let r := movesO f ks (n + m.2.1) m.2.2.2
    (⟨k.low, m.1⟩ :: r.1, r.2.1, r.2.2.1, r.2.2.2)
def moveO (segs : List Int) : Nat → σ → Rf → Rf × Int × Int × σ
  | 0, s, _ => (rf0, 0, 70, s)
  | k + 1, s, r =>
    if (at1 P s r).2.1 ≠ 0 then (rf0, 0, (at1 P s r).2.1, (at1 P s r).2.2) else
    let m := movesO (moveO segs k) (at1 P s r).1.kids 0 (at1 P s r).2.2
    if m.2.2.1 ≠ 0 then (rf0, 0, m.2.2.1, m.2.2.2) else
    if m.2.1 = 0 ∧ r.seg ∉ segs then (r, 0, 0, m.2.2.2) else
    let wq := P.wr m.2.2.2 ⟨(at1 P s r).1.leaf, (at1 P s r).1.entries, m.1⟩
    if wq.2.1 ≠ 0 then (rf0, 0, wq.2.1, wq.2.2) else (wq.1, m.2.1 + 1, 0, wq.2.2)
end
end Go.Proofs.Ytdiocmjhencbpaa
