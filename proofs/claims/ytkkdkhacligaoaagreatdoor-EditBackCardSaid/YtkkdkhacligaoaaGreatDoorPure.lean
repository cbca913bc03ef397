/- What the program's functions compute, in plain Lean: no program in sight. -/
import Derived.Laws.Rows
import Derived.Lib.SlicesCompact
namespace Go.Proofs.YtkkdkhacligaoaaGreatDoor.law
structure Leaf where
  enc : List UInt8
  cred : List UInt8
  source : Int
  parent : List UInt8
  deriving Inhabited, DecidableEq
structure Inner where
  enc : List UInt8
  hash : List UInt8
  unmerged : List Int
  deriving Inhabited, DecidableEq
structure Node where
  kind : Int
  leaf : Leaf
  inner : Inner
  deriving Inhabited, DecidableEq
/-- The first place where something holds. -/
def findI {α : Type} (p : α → Bool) (l : List α) : Int := match l.findIdx? p with
  | some i => i
  | none => -1
def long (b : List UInt8) : Bool := decide (200 < b.length)
def sourceOk (n : Int) : Bool := decide (1 ≤ n) && decide (n ≤ 3)
def leafCheck (l : Leaf) : Int :=
  if l.enc.length = 0 then 5
  else if [l.enc, l.cred, l.parent].any long then 4
  else if !sourceOk l.source then 7
  else if l.source ≠ 3 ∧ 0 < l.parent.length then 2
  else 0
def fits (x kind : Int) : Bool := if x % 2 = 0 then !decide (kind = 2) else !decide (kind = 1)
theorem findI_none {α : Type} {p : α → Bool} {l : List α} (h : ∀ i (hi : i < l.length), p l[i] = false) : findI p l = -1 := by
  unfold findI
  rw [List.findIdx?_eq_none_iff.2]
  intro x hx
  obtain ⟨i, hi, rfl⟩ := List.getElem_of_mem hx
  exact h i hi
theorem findI_some {α : Type} {p : α → Bool} {l : List α} {i : Nat} (hi : i < l.length) (hp : p l[i] = true) (h : ∀ j (hj : j < i), p l[j] = false) : findI p l = i := by
  unfold findI
  rw [List.findIdx?_eq_some_iff_getElem.2 ⟨hi, hp, fun j hj => by rw [h j hj]; simp⟩]
theorem findI_any {α : Type} (p : α → Bool) (l : List α) : decide (findI p l ≥ 0) = l.any p := by
  unfold findI
  cases h : l.findIdx? p with
  | none =>
    rw [List.findIdx?_eq_none_iff] at h
    have : l.any p = false := by rw [List.any_eq_false]; intro x hx; rw [h x hx]; simp
    rw [this]
    rfl
  | some i =>
    obtain ⟨hi, hp, _⟩ := List.findIdx?_eq_some_iff_getElem.1 h
    have : l.any p = true := List.any_eq_true.2 ⟨_, List.getElem_mem hi, hp⟩
    rw [this]
    simp
theorem nth_ext {α : Type} {a b : List α} (h : a.length = b.length) (h2 : ∀ i (hi : i < a.length), a[i] = b[i]'(by omega)) : a = b := List.ext_getElem h fun i h1 _ => h2 i h1
def outside (i : Int) : Bool := decide (i < 0) || decide (63 < i)
/-- Rising, each once. -/
def thinL (l : List Int) : List Int := Go.Lib.compact (l.mergeSort fun x y => decide (x ≤ y))
def parentCheck (n : Inner) : Int :=
  if n.enc.length = 0 then 5
  else if 200 < n.enc.length ∨ 200 < n.hash.length ∨ 64 < n.unmerged.length then 4
  else if n.unmerged.any outside then 3
  else if thinL n.unmerged = n.unmerged then 0 else 8
def noLeaf : Leaf := ⟨[], [], 0, []⟩
def noInner : Inner := ⟨[], [], []⟩
def noNode : Node := ⟨0, noLeaf, noInner⟩
def nodeCheck (n : Node) : Int :=
  if n.kind < 0 ∨ 2 < n.kind then 7
  else if n.kind ≠ 1 ∧ n.leaf ≠ noLeaf then 2
  else if n.kind ≠ 2 ∧ n.inner ≠ noInner then 2
  else if n.kind = 1 then leafCheck n.leaf
  else if n.kind = 2 then parentCheck n.inner
  else 0
def WfN (n : Node) : Prop := (n.inner.unmerged.length : Int) ≤ 9223372036854775807
def WfT (t : List Node) : Prop := (t.length : Int) ≤ 9223372036854775807 ∧ ∀ n ∈ t, WfN n
def whole (w : Int) : Bool := decide (w = 1) || decide (w = 3) || decide (w = 7) || decide (w = 15) || decide (w = 31) || decide (w = 63) || decide (w = 127)
def okAt (x : Int) (n : Node) : Bool := fits x n.kind && decide (nodeCheck n = 0)
/-- Are the nodes from a place on as they may be? -/
def sane (t : List Node) : Bool := ((List.range t.length).all fun i => okAt i (t.getD i default)) && (decide (t.length = 0) || whole t.length)
def fewLeaf (l : Leaf) : Bool := decide (Go.IntKind.wrap .i64 (Go.IntKind.wrap .i64 ((l.enc.length : Int) + (l.cred.length : Int)) + (l.parent.length : Int)) ≤ 1000)
def fewInner (n : Inner) : Bool := decide (Go.IntKind.wrap .i64 (Go.IntKind.wrap .i64 ((n.enc.length : Int) + (n.hash.length : Int)) + (n.unmerged.length : Int)) ≤ 600)
def fewNode (n : Node) : Bool := fewLeaf n.leaf && fewInner n.inner
def few (t : List Node) : Bool := t.all fewNode && decide (t.length ≤ 300)
end Go.Proofs.YtkkdkhacligaoaaGreatDoor.law
