/- The configuration of the walks: what is told by contracts, and that it may be. -/
import Derived.Test.YtkkdkhacligaoaaGreatDoorIdx
import Derived.Test.YtkkdkhacligaoaaGreatDoorClone
import Derived.Test.YtkkdkhacligaoaaGreatDoorShelf
namespace Go.Proofs.YtkkdkhacligaoaaGreatDoor.law
open Go.PI Go.RowKit Go.Sort
def i64s : List PV → Option (List Int)
  | [] => some []
  | .s (.int .i64 n) :: ps => (i64s ps).map (n :: ·)
  | _ :: _ => none
theorem i64s_eq : ∀ {cs : List PV} {zs : List Int}, i64s cs = some zs → cs = zs.map i64P
  | [], zs, h => by cases h; rfl
  | .s (.int .i64 n) :: ps, zs, h => by
    simp only [i64s] at h
    obtain ⟨l, h1, rfl⟩ := Option.map_eq_some_iff.1 h
    rw [i64s_eq h1]; rfl
theorem i64s_map (zs : List Int) : i64s (zs.map i64P) = some zs := by
  induction zs with
  | nil => rfl
  | cons z zs ih =>
    show (i64s (zs.map i64P)).map (z :: ·) = _
    rw [ih]; rfl
def sortL (zs : List Int) : List Int := zs.mergeSort fun x y => decide (x ≤ y)
def compL (zs : List Int) : List Int := Lib.compact zs ++ List.replicate (zs.length - (Lib.compact zs).length) 0
/-- A row of whole numbers. -/
def rowI (H : List HO) (r n : Nat) : Option (List Int) := match H[r]? with
  | some (.cells e cs (some 1) false) => match i64s cs with
    | some zs => if zs.length = n ∧ 0 < n ∧ n ≤ 4294967296 ∧ e = 3 then some zs else none
    | none => none
  | _ => none
noncomputable def hextF (f : FuncId) (args : List PV) (H : List HO) : Option (List PV × List HO) :=
  if f = 156 then (match args with
    | [.s (.slice none 0 0)] => some ([], H)
    | [.row r 0 n] => if n = 0 then some ([], H) else (rowI H r n).map fun zs => ([], H.set r (.cells 3 ((sortL zs).map i64P) (some 1) false))
    | _ => none)
  else if f = 122 then (match args with
    | [.s (.slice none 0 0)] => some ([nilS], H)
    | [.row r 0 n] => if n = 0 then some ([.row r 0 0], H) else (rowI H r n).map fun zs => ([.row r 0 (Lib.compact zs).length], H.set r (.cells 3 ((compL zs).map i64P) (some 1) false))
    | _ => none)
  else none
/-- Of two whole numbers that are a node and a width. -/
def nodeOf : List PV → Option (Nat × Nat)
  | [.s (.int .i64 x), .s (.int .i64 w)] => if 0 ≤ x ∧ x < w ∧ w.toNat ∈ wholes then some (x.toNat, w.toNat) else none
  | _ => none
def isEmpty : List PV → Bool
  | [.lst 0 0 [] false] => true
  | _ => false
noncomputable def extF (f : FuncId) (args : List PV) : Option PV :=
  if f = 80 then (if isEmpty args then some (.own 37 0 []) else none)
  else if f = 83 then (if isEmpty args then some (.own 3 0 []) else none)
  else if f = 182 then (if isEmpty args then some (.own 5 0 []) else none)
  else if f = 67 then (nodeOf args).map fun (x, w) => i64P (parI x w)
  else if f = 70 then (nodeOf args).map fun (x, _) => i64P (leftI x)
  else if f = 71 then (nodeOf args).map fun (x, _) => i64P (rightI x)
  else if f = 99 then (nodeOf args).map fun (x, w) => i64P (sibI x w)
  else none
noncomputable def C0 : Cfg := { C00 with ext := extF, hext := hextF, inl := fun f => inlL.contains f || f == 156 }
theorem nodeOf_eq {args : List PV} {x w : Nat} (h : nodeOf args = some (x, w)) : args = [i64P x, i64P w] ∧ w ∈ wholes ∧ x < w := by
  unfold nodeOf at h
  split at h
  · rename_i x' w'
    split at h
    · rename_i hc
      injection h with h
      injection h with h1 h2
      subst h1; subst h2
      refine ⟨?_, hc.2.2, by omega⟩
      show [i64P x', i64P w'] = [i64P (x'.toNat : Int), i64P (w'.toNat : Int)]
      rw [show ((x'.toNat : Nat) : Int) = x' from by omega, show ((w'.toNat : Nat) : Int) = w' from by omega]
    · cases h
  · cases h
theorem isEmpty_eq {args : List PV} (h : isEmpty args = true) : args = [.lst 0 0 [] false] := by
  unfold isEmpty at h
  split at h
  · rfl
  · cases h
theorem calls00 {f : Nat} {args : List PV} {q : PV} (h : Run C00 f args q) : CallsQ C0 f args q := callsQ_conv (C := C00) (C' := C0) rfl rfl (run_calls ok00 h)
theorem sz8 : szOf C0 37 = some 8 := by kernel_rfl
theorem sz1i : szOf C0 3 = some 1 := by kernel_rfl
theorem sz1b : szOf C0 5 = some 1 := by kernel_rfl
theorem ext_ok (f : FuncId) (args : List PV) (q : PV) (h : extF f args = some q) : CallsQ C0 f args q := by
  unfold extF at h
  have clone : ∀ {f e sz : Nat}, (∃ fn c, Tryz.prog.funcs[f]? = some fn ∧ fn.body = some c) → szOf C0 e = some sz → 0 < sz → (∀ (A : Option Addr) (c : Nat) (w : World), Calls Tryz.prog f #[.slice A 0 c] w fun en w' => ∃ v', en = .returned v' ∧ w'.ownsRow w.heap.size e sz v' 0 [] ∧ Below w.heap.size w w') → isEmpty args = true → CallsQ C0 f args (.own e 0 []) := by
    intro f e sz hb hs h0 hc he
    rw [isEmpty_eq he]
    refine callsQ_of hb fun w B0 vargs _ _ hr => ?_
    obtain ⟨v, rfl, hv⟩ := relL_one' hr
    obtain ⟨A, c, rfl⟩ := rel_lst0 hv
    refine (hc A c w).mono ?_
    rintro en w' ⟨v', rfl, h1, h2⟩
    exact ⟨v', rfl, h2, res_own0 h1 hs h0⟩
  split at h
  · rename_i hf; subst hf
    split at h
    · rename_i he; cases h; exact clone ⟨_, _, Tryz.func80, rfl⟩ sz8 (by decide) clone_nodes_empty he
    · cases h
  split at h
  · rename_i hf; subst hf
    split at h
    · rename_i he; cases h; exact clone ⟨_, _, Tryz.func83, rfl⟩ sz1i (by decide) clone_ints_empty he
    · cases h
  split at h
  · rename_i hf; subst hf
    split at h
    · rename_i he; cases h; exact clone ⟨_, _, Tryz.func182, rfl⟩ sz1b (by decide) clone_oct_empty he
    · cases h
  have tab : ∀ {f : Nat} {g : Nat → Nat → Int}, (∀ {x w : Nat}, w ∈ wholes → x < w → Run C00 f [i64P x, i64P w] (i64P (g x w))) → (nodeOf args).map (fun (x, w) => i64P (g x w)) = some q → CallsQ C0 f args q := by
    intro f g hg h
    obtain ⟨⟨x, w⟩, h1, rfl⟩ := Option.map_eq_some_iff.1 h
    obtain ⟨rfl, h2, h3⟩ := nodeOf_eq h1
    exact calls00 (hg h2 h3)
  split at h
  · rename_i hf; subst hf; exact tab (g := parI) run00_par h
  split at h
  · rename_i hf; subst hf; exact tab (g := fun x _ => leftI x) run00_left h
  split at h
  · rename_i hf; subst hf; exact tab (g := fun x _ => rightI x) run00_right h
  split at h
  · rename_i hf; subst hf; exact tab (g := sibI) run00_sib h
  · cases h
theorem rowI_eq {H : List HO} {r n : Nat} {zs : List Int} (h : rowI H r n = some zs) : H[r]? = some (.cells 3 (zs.map i64P) (some 1) false) ∧ zs.length = n ∧ 0 < n ∧ n ≤ 4294967296 := by
  unfold rowI at h
  split at h
  · rename_i e cs hr
    split at h
    · rename_i zs' hz
      split at h
      · rename_i hc
        cases h
        rw [hr, i64s_eq hz, hc.2.2.2]
        exact ⟨rfl, hc.1, hc.2.1, hc.2.2.1⟩
      · cases h
    · cases h
  · cases h
theorem nil_fnSim {f : Nat} {H : List HO} {vs : List PV} (us : List Value) (hc : ∀ w, Calls Tryz.prog f #[.slice none 0 0] w fun e w' => e = .returned (retOf us) ∧ w' = w) (hv : ∀ w B μ, RelL w B μ vs us) : FnSim C0 f [.s (.slice none 0 0)] H vs H := by
  intro B Bs μ w vargs cs st hargs
  obtain ⟨v, rfl, hr⟩ := relL_one' hargs
  have := hr.sInv
  subst this
  obtain ⟨e, w', fr, ⟨rfl, rfl⟩, h1, h2, h3⟩ := hc w cs
  exact ⟨μ, _, fr, us, h1, h2, h3, st, .refl _ _ _, hv _ _ _⟩
theorem row0_fnSim {f r : Nat} {H : List HO} {vs : List PV} (us : Value → List Value) (hc : ∀ A c w, Calls Tryz.prog f #[.slice A 0 c] w fun e w' => e = .returned (retOf (us (.slice A 0 c))) ∧ w' = w) (hv : ∀ w B μ v, Rel w B μ (.row r 0 0) v → RelL w B μ vs (us v)) : FnSim C0 f [.row r 0 0] H vs H := by
  intro B Bs μ w vargs cs st hargs
  obtain ⟨v, rfl, hr⟩ := relL_one' hargs
  obtain ⟨A, c, rfl⟩ : ∃ A c, v = .slice A 0 c := by
    rcases hr.rowInv with ⟨l, _, _, _, h⟩ | ⟨l, A, _, _, _, h⟩
    · exact ⟨_, _, h⟩
    · exact ⟨_, _, h⟩
  obtain ⟨e, w', fr, ⟨rfl, rfl⟩, h1, h2, h3⟩ := hc A c w cs
  exact ⟨μ, _, fr, us (.slice A 0 c), h1, h2, h3, st, .refl _ _ _, hv _ _ _ _ hr⟩
theorem comp_len (zs : List Int) : (Lib.compact zs).length ≤ zs.length := by
  unfold Lib.compact Lib.compactUpTo
  rw [List.length_map]
  exact Nat.le_trans (List.length_filter_le _ _) (by simp)
theorem hext_ok (f : FuncId) (args : List PV) (H : List HO) (vs : List PV) (H' : List HO) (h : hextF f args H = some (vs, H')) : (∃ fn c, C0.P.funcs[f]? = some fn ∧ fn.body = some c) ∧ FnSim C0 f args H vs H' := by
  unfold hextF at h
  split at h
  · rename_i hf; subst hf
    refine ⟨⟨_, _, Tryz.func156, rfl⟩, ?_⟩
    split at h
    · cases h
      exact nil_fnSim [] (fun w => Tryz.slices_Sort_int_none none 0 w) (fun _ _ _ => .nil)
    · rename_i r n
      split at h
      · rename_i hn0
        cases h
        subst hn0
        exact row0_fnSim (fun _ => []) (fun A c w => Tryz.slices_Sort_int_none A c w) (fun _ _ _ _ _ => .nil)
      obtain ⟨zs, hz, he⟩ := Option.map_eq_some_iff.1 h
      cases he
      obtain ⟨hr, hn, h0, hm⟩ := rowI_eq hz
      subst hn
      refine row_fnSim (fun _ _ => []) h0 (by simp [sortL]) (fun blk off cap w hH hb hc => ?_) hr (fun _ _ _ _ _ _ _ _ => .nil)
      exact Tryz.slices_Sort_int blk off cap zs w hH hb (by omega)
    · cases h
  · split at h
    · rename_i hf; subst hf
      refine ⟨⟨_, _, Tryz.func122, rfl⟩, ?_⟩
      split at h
      · cases h
        exact nil_fnSim [.slice none 0 0] (fun w => Tryz.slices_Compact_int_empty none 0 w) (fun _ _ _ => .cons (.s rfl) .nil)
      · rename_i r n
        split at h
        · rename_i hn0
          cases h
          subst hn0
          exact row0_fnSim (fun v => [v]) (fun A c w => Tryz.slices_Compact_int_empty A c w) (fun _ _ _ _ h => .cons h .nil)
        obtain ⟨zs, hz, he⟩ := Option.map_eq_some_iff.1 h
        cases he
        obtain ⟨hr, hn, h0, hm⟩ := rowI_eq hz
        subst hn
        have hcl := comp_len zs
        refine row_fnSim (zs' := compL zs) (fun a cap => [.slice (some a) (Lib.compact zs).length cap]) h0 (by simp [compL]; omega) (fun blk off cap w hH hb hc => ?_) hr (fun w B μ l hmu hk hs hcap => .cons ?_ .nil)
        · refine (Tryz.slices_Compact_int blk off cap zs w hH (by omega) hc).mono ?_
          rintro e w' ⟨rfl, q, rfl⟩
          exact ⟨rfl, q, #[], by rw [grow_empty]; rfl⟩
        · have := Rel.row (w := w) (B := B) (μ := μ) (r := r) (off := 0) (len := (Lib.compact zs).length) hmu hk (by omega)
          simpa using this
      · cases h
    · cases h
theorem ok0 : Ok C0 := ⟨ok00.prog, ext_ok, hext_ok⟩
end Go.Proofs.YtkkdkhacligaoaaGreatDoor.law
