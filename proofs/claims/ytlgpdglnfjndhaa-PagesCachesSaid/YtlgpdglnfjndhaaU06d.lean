/-
  A tree's pages (layer 6): nodes out of terms, as functions on plain data; what was made a term comes back.
-/
import Derived.Test.YtlgpdglnfjndhaaU06c
import Derived.Test.YtlgpdglnfjndhaaU02f
namespace Go.Proofs.Ytlgpdglnfjndhaa
set_option maxRecDepth 8000
set_option linter.unusedSimpArgs false
set_option linter.unusedVariables false
open Go Xe Go.Lib
def tmAt (l : List Tm) (i : Nat) : Tm := (l[i]?).getD tm0
def restT (bad : Bool) (t : Tm) (k : Int) : Tm × List Tm × Bool :=
  if bad = false ∧ t.kind = 5 ∧ 0 < t.list.length ∧ (tmAt t.list 0).kind = k then (tmAt t.list 0, t.list.drop 1, false) else (tm0, [], true)
def numR (bad : Bool) (t : Tm) : Int × Bool := if bad = false ∧ t.kind = 1 ∧ t.num ≤ 2147483647 then (t.num, false) else (0, true)
def atomR (bad : Bool) (t : Tm) : ByteArray × Bool := (t.bytes, bad || decide (t.kind ≠ 2))
def verR : Bool → List Tm → List Vn → List Vn × Bool
  | bad, [], acc => (acc, bad)
  | bad, x :: xs, acc => if bad = false ∧ x.kind = 5 ∧ x.list.length = 3 then
      verR (atomR (atomR (numR false (tmAt x.list 0)).2 (tmAt x.list 1)).2 (tmAt x.list 2)).2 xs (acc ++ [⟨(numR false (tmAt x.list 0)).1, (tmAt x.list 1).bytes, (tmAt x.list 2).bytes⟩])
    else verR true xs acc
def entryR (bad : Bool) (t : Tm) : En × Bool :=
  (⟨(restT bad t 2).1.bytes, (verR (restT bad t 2).2.2 (restT bad t 2).2.1 []).1⟩, (verR (restT bad t 2).2.2 (restT bad t 2).2.1 []).2)
def kd00 : Kd := ⟨ByteArray.empty, rf0⟩
def kidR (bad : Bool) (t : Tm) : Kd × Bool :=
  if (restT bad t 2).2.2 = false ∧ (restT bad t 2).2.1.length = 4 ∧ (tmAt (restT bad t 2).2.1 0).kind = 3 then
    (⟨(restT bad t 2).1.bytes, ⟨(tmAt (restT bad t 2).2.1 0).num, (numR false (tmAt (restT bad t 2).2.1 1)).1, (numR (numR false (tmAt (restT bad t 2).2.1 1)).2 (tmAt (restT bad t 2).2.1 2)).1,
      (numR (numR (numR false (tmAt (restT bad t 2).2.1 1)).2 (tmAt (restT bad t 2).2.1 2)).2 (tmAt (restT bad t 2).2.1 3)).1⟩⟩,
     (numR (numR (numR false (tmAt (restT bad t 2).2.1 1)).2 (tmAt (restT bad t 2).2.1 2)).2 (tmAt (restT bad t 2).2.1 3)).2)
  else (kd00, true)
def entsR : Bool → List Tm → List En → List En × Bool
  | bad, [], acc => (acc, bad)
  | bad, x :: xs, acc => entsR (entryR bad x).2 xs (acc ++ [(entryR bad x).1])
def kidsR : Bool → List Tm → List Kd → List Kd × Bool
  | bad, [], acc => (acc, bad)
  | bad, x :: xs, acc => kidsR (kidR bad x).2 xs (acc ++ [(kidR bad x).1])
def bad1 (t : Tm) : Bool := (restT false t 1).2.2 || !(decide ((restT false t 1).1.num = 1) || decide ((restT false t 1).1.num = 2))
def rawN (t : Tm) : Nd × Bool :=
  if (restT false t 1).1.num = 1 then (⟨true, (entsR (bad1 t) (restT false t 1).2.1 []).1, []⟩, (entsR (bad1 t) (restT false t 1).2.1 []).2)
  else (⟨false, [], (kidsR (bad1 t) (restT false t 1).2.1 []).1⟩, (kidsR (bad1 t) (restT false t 1).2.1 []).2)
def fromN (q : Qt) (t : Tm) : Nd × Int :=
  if ¬ q.ok then (nd0, 40) else if rightT t ≠ 0 then (nd0, rightT t) else if (rawN t).2 = true then (nd0, 60) else if rightN q (rawN t).1 ≠ 0 then (nd0, rightN q (rawN t).1) else ((rawN t).1, 0)
def openN (q : Qt) (key : Int) (s : ByteArray) : Nd × Int :=
  if ¬ q.ok then (nd0, 40) else if (unpackB key s).2 ≠ 0 then (nd0, (unpackB key s).2) else fromN q (unpackB key s).1
theorem restT_row (x : Tm) (l : List Tm) (k : Int) (h : x.kind = k) : restT false (rowT (x :: l)) k = (x, l, false) := by
  unfold restT
  rw [if_pos ⟨rfl, rfl, by simp [Tm.list], by simpa [Tm.list, tmAt] using h⟩]; rfl
theorem numR_ok {n : Int} (h : n ≤ 2147483647) : numR false (numT n) = (n, false) := by unfold numR; rw [if_pos ⟨rfl, rfl, h⟩]
theorem verR_map : ∀ (vs : List Vn) (acc : List Vn), (∀ v ∈ vs, v.no ≤ 2147483647) → verR false (vs.map tmVn) acc = (acc ++ vs, false)
  | [], acc, _ => by simp [verR]
  | v :: vs, acc, h => by
    simp only [List.map_cons, verR]
    have hv := h v (by simp)
    have e0 : tmAt (tmVn v).list 0 = numT v.no := rfl
    have e1 : tmAt (tmVn v).list 1 = atomT v.value := rfl
    have e2 : tmAt (tmVn v).list 2 = atomT v.note := rfl
    rw [if_pos ⟨trivial, rfl, rfl⟩, e0, e1, e2, numR_ok hv]
    have e3 : (atomR (atomR false (atomT v.value)).2 (atomT v.note)).2 = false := rfl
    simp only
    rw [e3, verR_map vs _ (fun u hu => h u (by simp [hu]))]
    simp
theorem entryR_tm {e : En} (h : ∀ v ∈ e.versions, v.no ≤ 2147483647) : entryR false (tmEn e) = (e, false) := by
  unfold entryR tmEn
  rw [restT_row _ _ _ rfl]
  simp only
  rw [verR_map _ _ h]
  simp
theorem kidR_tm {k : Kd} (h : refR k.ref) : kidR false (tmKd k) = (k, false) := by
  obtain ⟨_, h2, _, h4, _, h6⟩ := h
  unfold kidR tmKd
  rw [restT_row _ _ _ rfl]
  simp only
  rw [if_pos ⟨trivial, rfl, rfl⟩]
  have e0 : tmAt [keyT k.ref.key, numT k.ref.seg, numT k.ref.off, numT k.ref.len] 0 = keyT k.ref.key := rfl
  have e1 : tmAt [keyT k.ref.key, numT k.ref.seg, numT k.ref.off, numT k.ref.len] 1 = numT k.ref.seg := rfl
  have e2 : tmAt [keyT k.ref.key, numT k.ref.seg, numT k.ref.off, numT k.ref.len] 2 = numT k.ref.off := rfl
  have e3 : tmAt [keyT k.ref.key, numT k.ref.seg, numT k.ref.off, numT k.ref.len] 3 = numT k.ref.len := rfl
  rw [e0, e1, e2, e3, numR_ok (by omega)]
  simp only
  rw [numR_ok (by omega)]
  simp only
  rw [numR_ok (by omega)]
theorem entsR_map : ∀ (es : List En) (acc : List En), (∀ e ∈ es, ∀ v ∈ e.versions, v.no ≤ 2147483647) → entsR false (es.map tmEn) acc = (acc ++ es, false)
  | [], acc, _ => by simp [entsR]
  | e :: es, acc, h => by
    simp only [List.map_cons, entsR]
    rw [entryR_tm (h e (by simp)), entsR_map es _ (fun u hu => h u (by simp [hu]))]
    simp
theorem kidsR_map : ∀ (ks : List Kd) (acc : List Kd), (∀ k ∈ ks, refR k.ref) → kidsR false (ks.map tmKd) acc = (acc ++ ks, false)
  | [], acc, _ => by simp [kidsR]
  | k :: ks, acc, h => by
    simp only [List.map_cons, kidsR]
    rw [kidR_tm (h k (by simp)), kidsR_map ks _ (fun u hu => h u (by simp [hu]))]
    simp
theorem fromN_tm {q : Qt} {x : Nd} (h : rightN q x = 0) (hk : keysOk x) : fromN q (tmNd x) = (x, 0) := by
  have h1 := rightT_nd h hk
  obtain ⟨hq, hc⟩ := rightN_ok h
  have hraw : rawN (tmNd x) = (x, false) := by
    rcases hc with ⟨hl, hz, _, hes⟩ | ⟨hl, hz, _, _, hks⟩
    · rw [show tmNd x = rowT (numT 1 :: x.entries.map tmEn) by unfold tmNd; rw [if_pos hl]]
      have hr := restT_row (numT 1) (x.entries.map tmEn) 1 rfl
      have e9 : bad1 (rowT (numT 1 :: x.entries.map tmEn)) = false := by unfold bad1; rw [hr]; rfl
      unfold rawN
      rw [hr, e9]
      dsimp only
      rw [if_pos rfl, entsR_map _ _ (fun e he v hv => by have := (rightE_ok (hes e he)).2.2.2.2.2 v hv; omega)]
      have hz2 := List.eq_nil_of_length_eq_zero hz
      cases x; simp_all
    · rw [show tmNd x = rowT (numT 2 :: x.kids.map tmKd) by unfold tmNd; rw [if_neg (by simp [hl])]]
      have hr := restT_row (numT 2) (x.kids.map tmKd) 1 rfl
      have e9 : bad1 (rowT (numT 2 :: x.kids.map tmKd)) = false := by unfold bad1; rw [hr]; rfl
      unfold rawN
      rw [hr, e9]
      dsimp only
      rw [if_neg (by decide), kidsR_map _ _ (fun k hk => (hks k hk).2.2)]
      have hz2 := List.eq_nil_of_length_eq_zero hz
      cases x; simp_all
  unfold fromN
  rw [if_neg (by simpa using hq), if_neg (by simpa using h1), hraw]
  simp only
  rw [if_neg (by simp), if_neg (by simpa using h)]
theorem numsL_mem : ∀ {l : List Tm}, (∀ x ∈ l, numsT x) → numsL l
  | [], _ => trivial
  | x :: xs, h => ⟨h x (by simp), numsL_mem fun y hy => h y (by simp [hy])⟩
theorem nums_nd {q : Qt} {x : Nd} {key : Int} (h : rightN q x = 0) (hk : keysOk x) (h0 : 0 ≤ key) (h1 : key ≤ 18446744073709551615) : numsT (boxT key (tmNd x)) := by
  have hnum : ∀ n : Int, 0 ≤ n → n ≤ 18446744073709551615 → numsT (numT n) := fun n a b => ⟨⟨a, b⟩, trivial⟩
  have hkey : ∀ n : Int, 0 ≤ n → n ≤ 18446744073709551615 → numsT (keyT n) := fun n a b => ⟨⟨a, b⟩, trivial⟩
  have hatom : ∀ s : ByteArray, numsT (atomT s) := fun s => ⟨⟨Int.le_refl _, by show (0 : Int) ≤ _; omega⟩, trivial⟩
  have hrow : ∀ l : List Tm, numsL l → numsT (rowT l) := fun l hl => ⟨⟨Int.le_refl _, by show (0 : Int) ≤ _; omega⟩, hl⟩
  obtain ⟨hq, hc⟩ := rightN_ok h
  refine ⟨⟨h0, h1⟩, ?_, trivial⟩
  rcases hc with ⟨hl, hz, _, hes⟩ | ⟨hl, hz, _, _, hks⟩
  · unfold tmNd
    rw [if_pos hl]
    refine hrow _ ⟨hnum 1 (by omega) (by omega), numsL_mem fun t ht => ?_⟩
    obtain ⟨e, he, rfl⟩ := List.mem_map.1 ht
    refine hrow _ ⟨hatom _, numsL_mem fun t ht => ?_⟩
    obtain ⟨v, hv, rfl⟩ := List.mem_map.1 ht
    have := (rightE_ok (hes e he)).2.2.2.2.2 v hv
    exact hrow _ ⟨hnum _ (by omega) (by omega), hatom _, hatom _, trivial⟩
  · unfold tmNd
    rw [if_neg (by simp [hl])]
    refine hrow _ ⟨hnum 2 (by omega) (by omega), numsL_mem fun t ht => ?_⟩
    obtain ⟨k, hkk, rfl⟩ := List.mem_map.1 ht
    obtain ⟨_, _, r1, r2, r3, r4, r5, r6⟩ := hks k hkk
    have hky := hk k hkk
    exact hrow _ ⟨hatom _, hkey _ hky.1 hky.2, hnum _ (by omega) (by omega), hnum _ (by omega) (by omega), hnum _ (by omega) (by omega), trivial⟩
/-- What was sealed is opened again. -/
theorem openN_seal {q : Qt} {x : Nd} {key : Int} (h : rightN q x = 0) (hk : keysOk x) (h0 : 0 ≤ key) (h1 : key ≤ 18446744073709551615) : openN q key (wrT (boxT key (tmNd x))) = (x, 0) := by
  have hd := decode_wr (rightT_box (key := key) h hk) (nums_nd h hk h0 h1)
  have hr := rightT_nd h hk
  have hb := rightT_box (key := key) h hk
  have hu : unpackB key (wrT (boxT key (tmNd x))) = (tmNd x, 0) := by
    unfold unpackB
    rw [hd]
    simp only
    rw [if_neg (by simp)]
    unfold openB
    rw [if_neg (by simpa using hb), if_neg (by simp), if_neg (by simp)]
    show ownT (tmNd x) = _
    unfold ownT
    rw [if_neg (by simpa using hr)]
  have hq := (rightN_ok h).1
  unfold openN
  rw [if_neg (by simpa using hq), hu]
  simp only
  rw [if_neg (by simp)]
  exact fromN_tm h hk
end Go.Proofs.Ytlgpdglnfjndhaa
