/- How plain values stand as the interpreter's values. -/
import Derived.Test.YtkkdkhacligaoaaGreatDoorBase
import Derived.Test.YtkkdkhacligaoaaGreatDoorMd
import Derived.Test.YtkkdkhacligaoaaGreatDoorPure
import Derived.Lib.Strings
set_option linter.unusedSimpArgs false
set_option linter.unusedVariables false
namespace Go.Proofs.YtkkdkhacligaoaaGreatDoor.law
open Go.PI
def octF (b : UInt8) : List PV := [.s (.int .u8 b.toNat)]
def intF (i : Int) : List PV := [i64P i]
def octP (l : List UInt8) : PV := lstN 5 l.length (l.flatMap octF)
def intsP (l : List Int) : PV := lstN 3 l.length (l.flatMap intF)
def keyF (k : List UInt8) : List PV := [octP k]
def keysP (l : List (List UInt8)) : PV := lstN 23 l.length (l.flatMap keyF)
def leafCs (l : Leaf) : List PV := [octP l.enc, octP l.cred, i64P l.source, octP l.parent]
def innerCs (n : Inner) : List PV := [octP n.enc, octP n.hash, intsP n.unmerged]
def nodeCs (n : Node) : List PV := [i64P n.kind, octP n.leaf.enc, octP n.leaf.cred, i64P n.leaf.source, octP n.leaf.parent, octP n.inner.enc, octP n.inner.hash, intsP n.inner.unmerged]
def nodesP (t : List Node) : PV := lstN 37 t.length (t.flatMap nodeCs)
def ownOct (l : List UInt8) : PV := .own 5 l.length (l.flatMap octF)
def ownInts (l : List Int) : PV := .own 3 l.length (l.flatMap intF)
def ownNodes (t : List Node) : PV := .own 37 t.length (t.flatMap nodeCs)
theorem octF_len (b : UInt8) : (octF b).length = 1 := rfl
theorem intF_len (b : Int) : (intF b).length = 1 := rfl
theorem keyF_len (b : List UInt8) : (keyF b).length = 1 := rfl
theorem nodeCs_len (b : Node) : (nodeCs b).length = 8 := rfl
/-! ### Values as a heap holds them: an empty slice may be nil there -/
def octR : Option (List UInt8) → PV
  | none => nilS
  | some l => octP l
def intsR : Option (List Int) → PV
  | none => nilS
  | some l => intsP l
structure RNode where
  kind : Int
  lenc : Option (List UInt8)
  cred : Option (List UInt8)
  source : Int
  parent : Option (List UInt8)
  enc : Option (List UInt8)
  hash : Option (List UInt8)
  unmerged : Option (List Int)
  deriving Inhabited
def RNode.node (r : RNode) : Node := ⟨r.kind, ⟨r.lenc.getD [], r.cred.getD [], r.source, r.parent.getD []⟩, ⟨r.enc.getD [], r.hash.getD [], r.unmerged.getD []⟩⟩
def Node.r (n : Node) : RNode := ⟨n.kind, some n.leaf.enc, some n.leaf.cred, n.leaf.source, some n.leaf.parent, some n.inner.enc, some n.inner.hash, some n.inner.unmerged⟩
def rCs (r : RNode) : List PV := [i64P r.kind, octR r.lenc, octR r.cred, i64P r.source, octR r.parent, octR r.enc, octR r.hash, intsR r.unmerged]
theorem rCs_len (b : RNode) : (rCs b).length = 8 := rfl
theorem r_node (n : Node) : n.r.node = n := rfl
theorem rCs_r (n : Node) : rCs n.r = nodeCs n := rfl
theorem rs_node (t : List Node) : (t.map Node.r).map RNode.node = t := by
  rw [List.map_map]
  exact (List.map_congr_left fun n _ => r_node n).trans (List.map_id t)
theorem flat_map {α β : Type} (f : α → β) (g : β → List PV) (l : List α) : (l.map f).flatMap g = l.flatMap fun a => g (f a) := by
  induction l with
  | nil => rfl
  | cons a l ih => simp only [List.map_cons, List.flatMap_cons, ih]
theorem rs_cells (t : List Node) : (t.map Node.r).flatMap rCs = t.flatMap nodeCs := by rw [flat_map]; rfl
section
variable {H : List HO} (d : Nat)
theorem cl_oct (l : List UInt8) : close H (d + 1) (octP l) = some (octP l) := cl_lst ..
theorem cl_ints (l : List Int) : close H (d + 1) (intsP l) = some (intsP l) := cl_lst ..
theorem cl_keys (l : List (List UInt8)) : close H (d + 1) (keysP l) = some (keysP l) := cl_lst ..
theorem cl_nodes (l : List Node) : close H (d + 1) (nodesP l) = some (nodesP l) := cl_lst ..
theorem cl_octR (l : Option (List UInt8)) : close H (d + 1) (octR l) = some (octP (l.getD [])) := by
  cases l with
  | none => rfl
  | some l => exact cl_lst ..
theorem cl_intsR (l : Option (List Int)) : close H (d + 1) (intsR l) = some (intsP (l.getD [])) := by
  cases l with
  | none => rfl
  | some l => exact cl_lst ..
theorem cl_leafCs (l : Leaf) : mapO (close H (d + 1)) (leafCs l) = some (leafCs l) := cl_cons (cl_oct ..) (cl_cons (cl_oct ..) (cl_cons (cl_i64 ..) (cl_cons (cl_oct ..) (cl_nil _))))
theorem cl_innerCs (l : Inner) : mapO (close H (d + 1)) (innerCs l) = some (innerCs l) := cl_cons (cl_oct ..) (cl_cons (cl_oct ..) (cl_cons (cl_ints ..) (cl_nil _)))
theorem cl_nodeCs (l : Node) : mapO (close H (d + 1)) (nodeCs l) = some (nodeCs l) := cl_cons (cl_i64 ..) (cl_cons (cl_oct ..) (cl_cons (cl_oct ..) (cl_cons (cl_i64 ..) (cl_cons (cl_oct ..) (cl_cons (cl_oct ..) (cl_cons (cl_oct ..) (cl_cons (cl_ints ..) (cl_nil _))))))))
theorem cl_rCs (l : RNode) : mapO (close H (d + 1)) (rCs l) = some (nodeCs l.node) := cl_cons (cl_i64 ..) (cl_cons (cl_octR ..) (cl_cons (cl_octR ..) (cl_cons (cl_i64 ..) (cl_cons (cl_octR ..) (cl_cons (cl_octR ..) (cl_cons (cl_octR ..) (cl_cons (cl_intsR ..) (cl_nil _))))))))
theorem mapO_app {f : PV → Option PV} : ∀ {a b a' b' : List PV}, mapO f a = some a' → mapO f b = some b' → mapO f (a ++ b) = some (a' ++ b')
  | [], b, a', b', h, h' => by cases h; exact h'
  | p :: a, b, a', b', h, h' => by
    simp only [mapO] at h
    split at h
    · rename_i q hq
      split at h
      · rename_i qs hqs
        cases h
        simp only [List.cons_append, mapO, hq, mapO_app hqs h']
      · cases h
    · cases h
theorem cl_flat {α β : Type} {f : α → List PV} {g : β → List PV} {k : α → β} (h : ∀ a, mapO (close H d) (f a) = some (g (k a))) (l : List α) : mapO (close H d) (l.flatMap f) = some ((l.map k).flatMap g) := by
  induction l with
  | nil => rfl
  | cons a l ih => simp only [List.flatMap_cons, List.map_cons]; exact mapO_app (h a) ih
theorem cl_flat' {α : Type} {f : α → List PV} (h : ∀ a, mapO (close H d) (f a) = some (f a)) (l : List α) : mapO (close H d) (l.flatMap f) = some (l.flatMap f) := by
  have := cl_flat (k := id) d (g := f) h l
  simpa using this
theorem cl_octF (b : UInt8) : mapO (close H (d + 1)) (octF b) = some (octF b) := rfl
theorem cl_intF (b : Int) : mapO (close H (d + 1)) (intF b) = some (intF b) := rfl
theorem cl_keyF (b : List UInt8) : mapO (close H (d + 1)) (keyF b) = some (keyF b) := cl_cons (cl_oct ..) (cl_nil _)
end
section
variable (H : List HO)
theorem hasL_flat {α : Type} {e : Nat} {f : α → List PV} (h : ∀ a, hasE.hasL e (f a) = false) (l : List α) : hasE.hasL e (l.flatMap f) = false := by
  induction l with
  | nil => simp [hasE.hasL]
  | cons a l ih =>
    rw [List.flatMap_cons]
    generalize hx : f a = x
    have := h a
    rw [hx] at this
    clear hx
    induction x with
    | nil => exact ih
    | cons p x ihx =>
      simp only [hasE.hasL, Bool.or_eq_false_iff, List.cons_append] at this ⊢
      exact ⟨this.1, ihx this.2⟩
theorem hasE_octF (e : Nat) (l : List UInt8) : hasE.hasL e (l.flatMap octF) = false := hasL_flat (fun a => by simp [octF, hasE.hasL, hasE]) l
theorem hasE_intF (e : Nat) (l : List Int) : hasE.hasL e (l.flatMap intF) = false := hasL_flat (fun a => by simp [intF, i64P, hasE.hasL, hasE]) l
theorem calm_ownInts (l : List Int) : calm H (ownInts l) = true := by
  unfold calm
  refine List.all_eq_true.2 fun o _ => ?_
  cases o <;> simp [calmO, ownInts, hasE, hasE_intF]
theorem calm_ownOct (l : List UInt8) : calm H (ownOct l) = true := by
  unfold calm
  refine List.all_eq_true.2 fun o _ => ?_
  cases o <;> simp [calmO, ownOct, hasE, hasE_octF]
end
/-! ### Octets as strings -/
theorem u8s_oct (l : List UInt8) : u8s (l.flatMap octF) = some l := by
  induction l with
  | nil => rfl
  | cons b l ih =>
    simp only [List.flatMap_cons, octF, List.cons_append, List.nil_append, u8s]
    rw [show u8s (List.flatMap octF l) = some l from ih]
    simp
theorem cv_lst {C : Cfg} {H : List HO} {s t e : Nat} (h1 : kindP C t = none) (h2 : strT C t = true) (h3 : elemP C s = some e) (h4 : kindP C e = some .u8) (l : List UInt8) : convP C H s t (octP l) = some (.s (.string ⟨l.toArray⟩)) := by
  unfold convP
  simp only [h1, h2, if_true, h3, h4]
  have hs : slOf H (octP l) = some (if l.length = 0 then 0 else 5, l.length, l.flatMap octF) := by
    unfold octP lstN
    split
    · rename_i h; have := List.eq_nil_of_length_eq_zero h; subst this; rfl
    · rfl
  rw [hs]
  show (if (l.flatMap octF).length = l.length then (u8s (l.flatMap octF)).map _ else none) = _
  rw [if_pos (by rw [flat_len octF_len]; omega), u8s_oct]
  rfl
theorem str_eq (a b : List UInt8) : ((⟨a.toArray⟩ : ByteArray).toList == (⟨b.toArray⟩ : ByteArray).toList) = decide (a = b) := by
  have h : ∀ l : List UInt8, (⟨l.toArray⟩ : ByteArray).toList = l := fun l => by
    rw [Lib.toList_data]
  rw [h, h]
  by_cases hab : a = b
  · simp [hab]
  · simp [hab]
theorem b_streq {C : Cfg} {t : Nat} {p q : PV} {a b : List UInt8} (hp : p = .s (.string ⟨a.toArray⟩)) (hq : q = .s (.string ⟨b.toArray⟩)) : binP C .eql t p q = some (boolP (decide (a = b))) := by
  subst hp; subst hq
  show some (boolP _) = _
  rw [str_eq]
theorem cl_rn0 {H : List HO} {L : List (PV × HO)} {d : Nat} {X : List Node} (ho : Own H L) (k : Nat) {p : PV} {s : Bool} (hk : L[k]? = some (p, .cells 37 ((X.map Node.r).flatMap rCs) (some 8) s)) : close H (d + 2) p = some (nodesP X) := by
  have h := cl_own ho k hk (by decide) (n := X.length) (flat_len' rCs_len (by simp)) (cl_flat (k := RNode.node) (d + 1) (g := nodeCs) (fun _ => cl_rCs _ _) _)
  rw [rs_node] at h
  exact h
theorem so_cells {e : Nat} {q : PV} {cs : List PV} {row : Option Nat} {s : Bool} (h : hasE e q = false) : sealO q (.cells e cs row s) = .cells e cs row s := by simp only [sealO, h, Bool.or_false]
theorem sl_nil {q : PV} : ([] : List (PV × HO)).map (fun x => (x.1, sealO q x.2)) = [] := rfl
theorem sl_cons {q : PV} {x : PV × HO} {o : HO} {L L' : List (PV × HO)} (h : sealO q x.2 = o) (h' : L.map (fun x => (x.1, sealO q x.2)) = L') : (x :: L).map (fun x => (x.1, sealO q x.2)) = (x.1, o) :: L' := by rw [List.map_cons, h, h']
theorem has_own {e e' n : Nat} {cs : List PV} (h : hasE.hasL e cs = false) : hasE e (.own e' n cs) = false := by simp only [hasE, h]
theorem has_tup {e : Nat} {q : PV} {vs : List Value} (h : hasE e q = false) : hasE e (.tup (q :: vs.map .s)) = false := by
  have : hasE.hasL e (vs.map PV.s) = false := by
    induction vs with
    | nil => simp [hasE.hasL]
    | cons v vs ih => simp only [List.map_cons, hasE.hasL, hasE_s, ih, Bool.or_self]
  simp only [hasE, hasE.hasL, h, this, Bool.or_self]
theorem own_eq {l t : List Node} {n : Nat} (h : l = t) (hn : n = t.length) : PV.own 37 n (l.flatMap nodeCs) = ownNodes t := by subst h; subst hn; rfl
theorem nr_nil : ([] : List PV).any isRow = false := rfl
theorem nr_cons {p : PV} {ps : List PV} (h : isRow p = false) (h' : ps.any isRow = false) : (p :: ps).any isRow = false := by simp only [List.any_cons, h, h', Bool.or_self]
theorem nr_lst (e n : Nat) (cs : List PV) : isRow (lstN e n cs) = false := by unfold lstN; split <;> rfl
theorem nr_octR (l : Option (List UInt8)) : isRow (octR l) = false := by cases l with | none => rfl | some l => exact nr_lst ..
theorem nr_intsR (l : Option (List Int)) : isRow (intsR l) = false := by cases l with | none => rfl | some l => exact nr_lst ..
theorem nr_leaf (l : Leaf) : holdsRow (.agg (leafCs l)) = false := nr_cons (nr_lst ..) (nr_cons (nr_lst ..) (nr_cons rfl (nr_cons (nr_lst ..) nr_nil)))
theorem nr_node (l : Node) : holdsRow (.agg (nodeCs l)) = false := nr_cons rfl (nr_cons (nr_lst ..) (nr_cons (nr_lst ..) (nr_cons rfl (nr_cons (nr_lst ..) (nr_cons (nr_lst ..) (nr_cons (nr_lst ..) (nr_cons (nr_lst ..) nr_nil)))))))
theorem nr_rn (l : RNode) : holdsRow (.agg (rCs l)) = false := nr_cons rfl (nr_cons (nr_octR _) (nr_cons (nr_octR _) (nr_cons rfl (nr_cons (nr_octR _) (nr_cons (nr_octR _) (nr_cons (nr_octR _) (nr_cons (nr_intsR _) nr_nil)))))))
theorem map_flat (zs : List Int) : zs.map i64P = zs.flatMap intF := by
  induction zs with
  | nil => rfl
  | cons z zs ih => rw [List.map_cons, List.flatMap_cons, ih]; rfl
theorem rowI_of {H : List HO} {r : Nat} {zs : List Int} (h : H[r]? = some (.cells 3 (zs.flatMap intF) (some 1) false)) (h0 : 0 < zs.length) (hm : zs.length ≤ 4294967296) : rowI H r zs.length = some zs := by
  rw [← map_flat] at h
  unfold rowI
  simp only [h, i64s_map, h0, hm, and_self, if_true]
section
variable {g : List PV} {H : List HO} {L : List (PV × HO)} {ops : Array Oper} {K : List PV → List HO → Prop} {l : List Oper} {ty : TypeId} {pos : String} {after : Array Edge} {dst : Option Tmp}
theorem w_sort (ho : Own H L) (k : Nat) {x : Operand} {args : Array Operand} {ats : Array TypeId} {p : PV} {zs : List Int} (L' : List (PV × HO)) (hk : L[k]? = some (p, .cells 3 (zs.flatMap intF) (some 1) false)) (hm : zs.length ≤ 4294967296) (hx : opnd C0 g x = .fn 156 [] []) (ha : args.toList.map (opnd C0 g) = [p])
    (hL : L.set k (p, .cells 3 ((sortL zs).flatMap intF) (some 1) false) = L') (q : ∀ H1, Own H1 L' → WPo C0 false ops l (setD g dst (.tup [])) H1 K) :
    WPo C0 false ops ({ dst, op := .call { callee := .value x, args, argTypes := ats }, type := ty, pos, after, guard := none } :: l) g H K := by
  have hll : (sortL zs).length = zs.length := by simp [sortL]
  rcases ho.len k hk (by decide) (n := zs.length) (flat_len intF_len zs) with ⟨rfl, hn⟩ | ⟨r, rfl, hr⟩
  · have : zs = [] := List.eq_nil_of_length_eq_zero hn
    subst this
    refine w_hext (vs := []) (H' := H) hx rfl (by rw [ha]; rfl) (q H ?_)
    rw [← hL]
    have hs : sortL [] = [] := by simp [sortL]
    rw [hs, set_same hk]
    exact ho
  · by_cases h0 : 0 < zs.length
    · have hne : ¬ zs.length = 0 := by omega
      refine w_hext (vs := []) (H' := H.set r (.cells 3 ((sortL zs).map i64P) (some 1) false)) hx rfl ?_ (q _ ?_)
      · rw [ha]
        show (if zs.length = 0 then _ else (rowI H r zs.length).map _) = _
        rw [if_neg hne, rowI_of hr h0 hm]; rfl
      · rw [← hL, map_flat]
        exact ho.putRow k hk (by rw [flat_len intF_len, flat_len intF_len, hll])
    · have : zs = [] := List.eq_nil_of_length_eq_zero (by omega)
      subst this
      refine w_hext (vs := []) (H' := H) hx rfl (by rw [ha]; rfl) (q H ?_)
      rw [← hL]
      have hs : sortL [] = [] := by simp [sortL]
      rw [hs, set_same hk]
      exact ho
theorem w_comp (ho : Own H L) (k : Nat) {x : Operand} {args : Array Operand} {ats : Array TypeId} {p : PV} {zs : List Int} (hk : L[k]? = some (p, .cells 3 (zs.flatMap intF) (some 1) false)) (hm : zs.length ≤ 4294967296) (hx : opnd C0 g x = .fn 122 [] []) (ha : args.toList.map (opnd C0 g) = [p])
    (q : ∀ H1 p', Own H1 (L.eraseIdx k) → Pre H1 p' 3 1 (Lib.compact zs).length ((Lib.compact zs).flatMap intF) → WPo C0 false ops l (setD g dst p') H1 K) :
    WPo C0 false ops ({ dst, op := .call { callee := .value x, args, argTypes := ats }, type := ty, pos, after, guard := none } :: l) g H K := by
  rcases ho.len k hk (by decide) (n := zs.length) (flat_len intF_len zs) with ⟨rfl, hn⟩ | ⟨r, rfl, hr⟩
  · have : zs = [] := List.eq_nil_of_length_eq_zero hn
    subst this
    exact w_hext (vs := [nilS]) (H' := H) hx rfl (by rw [ha]; rfl) (q H nilS (ho.drop k) (.inl ⟨rfl, rfl, rfl⟩))
  · by_cases h0 : 0 < zs.length
    rotate_left
    · have : zs = [] := List.eq_nil_of_length_eq_zero (by omega)
      subst this
      exact w_hext (vs := [.row r 0 0]) (H' := H) hx rfl (by rw [ha]; rfl) (q H _ (ho.drop k) (.inr ⟨r, 0, _, rfl, hr, Nat.zero_le _, rfl⟩))
    have hne : ¬ zs.length = 0 := by omega
    have hcl := comp_len zs
    refine w_hext (vs := [.row r 0 (Lib.compact zs).length]) (H' := H.set r (.cells 3 ((compL zs).map i64P) (some 1) false)) hx rfl ?_ (q _ _ ?_ (.inr ⟨r, 0, _, rfl, set_get hr, ?_, ?_⟩))
    · rw [ha]
      show (if zs.length = 0 then _ else (rowI H r zs.length).map _) = _
      rw [if_neg hne, rowI_of hr h0 hm]; rfl
    · have := (ho.putRow k (s' := false) (cs' := (compL zs).map i64P) hk (by rw [List.length_map, flat_len intF_len]; simp [compL]; omega)).drop k
      rwa [List.eraseIdx_set_eq] at this
    · simp [compL]
    · rw [Nat.mul_one, Nat.zero_mul, List.drop_zero, ← map_flat, ← List.map_take]
      unfold compL
      rw [List.take_left' rfl]
end
/-! ### Cells -/
theorem isC_oct (l : List UInt8) : isCell (octP l) = true := isC_lst ..
theorem isC_ints (l : List Int) : isCell (intsP l) = true := isC_lst ..
theorem isC_octR (l : Option (List UInt8)) : isCell (octR l) = true := by cases l with | none => rfl | some l => exact isC_lst ..
theorem isC_intsR (l : Option (List Int)) : isCell (intsR l) = true := by cases l with | none => rfl | some l => exact isC_lst ..
theorem isC_leaf (l : Leaf) : (leafCs l).all isCell = true := isC_cons (isC_oct _) (isC_cons (isC_oct _) (isC_cons rfl (isC_cons (isC_oct _) isC_nil)))
theorem isC_inner (l : Inner) : (innerCs l).all isCell = true := isC_cons (isC_oct _) (isC_cons (isC_oct _) (isC_cons (isC_ints _) isC_nil))
theorem isC_node (l : Node) : (nodeCs l).all isCell = true := isC_cons rfl (isC_cons (isC_oct _) (isC_cons (isC_oct _) (isC_cons rfl (isC_cons (isC_oct _) (isC_cons (isC_oct _) (isC_cons (isC_oct _) (isC_cons (isC_ints _) isC_nil)))))))
theorem isC_rn (l : RNode) : (rCs l).all isCell = true := isC_cons rfl (isC_cons (isC_octR _) (isC_cons (isC_octR _) (isC_cons rfl (isC_cons (isC_octR _) (isC_cons (isC_octR _) (isC_cons (isC_octR _) (isC_cons (isC_intsR _) isC_nil)))))))
theorem hasE_lstN {e e' n : Nat} {cs : List PV} (h0 : e ≠ 0) (h : e ≠ e') (hc : hasE.hasL e cs = false) : hasE e (lstN e' n cs) = false := by
  unfold lstN
  split
  · simp [hasE, hasE.hasL]; omega
  · simp [hasE, hc]; omega
theorem hasE_oct {e : Nat} (h0 : e ≠ 0) (h : e ≠ 5) (l : List UInt8) : hasE e (octP l) = false := hasE_lstN h0 h (hasE_octF e l)
theorem hasE_ints {e : Nat} (h0 : e ≠ 0) (h : e ≠ 3) (l : List Int) : hasE e (intsP l) = false := hasE_lstN h0 h (hasE_intF e l)
theorem hasE_nodeCs {e : Nat} (h0 : e ≠ 0) (h1 : e ≠ 5) (h2 : e ≠ 3) (t : List Node) : hasE.hasL e (t.flatMap nodeCs) = false := by
  refine hasL_flat (fun n => ?_) t
  simp [nodeCs, hasE.hasL, hasE_oct h0 h1, hasE_ints h0 h2, i64P, hasE]
theorem hasE_nodes {e : Nat} (h0 : e ≠ 0) (h1 : e ≠ 5) (h2 : e ≠ 3) (h3 : e ≠ 37) (t : List Node) : hasE e (nodesP t) = false := hasE_lstN h0 h3 (hasE_nodeCs h0 h1 h2 t)
def ownKeys (t : List (List UInt8)) : PV := .own 23 t.length (t.flatMap keyF)
end Go.Proofs.YtkkdkhacligaoaaGreatDoor.law
