/- Walks: what functions of the program come to, as the pure interpreter runs them. -/
import Derived.Test.YtkkdkhacligaoaaGreatDoorW4
set_option linter.unusedSimpArgs false
set_option linter.unusedVariables false
namespace Go.Proofs.YtkkdkhacligaoaaGreatDoor.law
open Go.PI
/-! ### Ways up -/
def upN : Nat → Nat → Nat → List Nat
  | 0, _, _ => []
  | f + 1, x, w => x :: match parN x w with
    | none => []
    | some p => upN f p w
/-- A node and its way up. -/
def upI (x w : Int) : List Int := if x < 0 then [] else (upN 8 x.toNat w.toNat).map fun (n : Nat) => (n : Int)
def directN (x w : Nat) : List Int := ((upN 8 x w).drop 1).map fun (n : Nat) => (n : Int)
theorem whole_mem {w : Int} (h : whole w = true) : 0 ≤ w ∧ w.toNat ∈ wholes := by
  unfold whole at h
  simp only [Bool.or_eq_true, decide_eq_true_eq] at h
  refine ⟨by omega, ?_⟩
  rcases h with ((((((rfl | rfl) | rfl) | rfl) | rfl) | rfl) | rfl) <;> decide
theorem nodeOf_of {x w : Int} (hw : whole w = true) (h0 : 0 ≤ x) (h1 : x < w) : nodeOf [i64P x, i64P w] = some (x.toNat, w.toNat) := by
  obtain ⟨h2, h3⟩ := whole_mem hw
  show (if 0 ≤ x ∧ x < w ∧ w.toNat ∈ wholes then some (x.toNat, w.toNat) else none) = _
  rw [if_pos ⟨h0, h1, h3⟩]
theorem run_parent (x w : Int) (hw : whole w = true) (h0 : 0 ≤ x) (h1 : x < w) : Run C0 67 [i64P x, i64P w] (i64P (parI x.toNat w.toNat)) := run_ext (by
  show (nodeOf [i64P x, i64P w]).map _ = _
  rw [nodeOf_of hw h0 h1]; rfl)
theorem run_left (x w : Int) (hw : whole w = true) (h0 : 0 ≤ x) (h1 : x < w) : Run C0 70 [i64P x, i64P w] (i64P (leftI x.toNat)) := run_ext (by
  show (nodeOf [i64P x, i64P w]).map _ = _
  rw [nodeOf_of hw h0 h1]; rfl)
theorem run_right (x w : Int) (hw : whole w = true) (h0 : 0 ≤ x) (h1 : x < w) : Run C0 71 [i64P x, i64P w] (i64P (rightI x.toNat)) := run_ext (by
  show (nodeOf [i64P x, i64P w]).map _ = _
  rw [nodeOf_of hw h0 h1]; rfl)
theorem run_sibling (x w : Int) (hw : whole w = true) (h0 : 0 ≤ x) (h1 : x < w) : Run C0 99 [i64P x, i64P w] (i64P (sibI x.toNat w.toNat)) := run_ext (by
  show (nodeOf [i64P x, i64P w]).map _ = _
  rw [nodeOf_of hw h0 h1]; rfl)
theorem up_t : (wholes.all fun w => (List.range w).all fun x => decide (upI x w = (x : Int) :: upI (parI x w) w) && decide (parI x w = -1 ∨ 0 ≤ parI x w ∧ parI x w < w) && decide ((upI x w).length ≤ 8)) = true := by decide +kernel
theorem up_all {x w : Int} (hw : whole w = true) (h0 : 0 ≤ x) (h1 : x < w) : upI x w = x :: upI (parI x.toNat w.toNat) w ∧ (parI x.toNat w.toNat = -1 ∨ 0 ≤ parI x.toNat w.toNat ∧ parI x.toNat w.toNat < w) ∧ (upI x w).length ≤ 8 := by
  obtain ⟨h2, h3⟩ := whole_mem hw
  have := List.all_eq_true.1 (List.all_eq_true.1 up_t _ h3) x.toNat (List.mem_range.2 (by omega))
  simp only [Bool.and_eq_true, decide_eq_true_eq] at this
  rw [show ((x.toNat : Nat) : Int) = x from by omega, show ((w.toNat : Nat) : Int) = w from by omega] at this
  exact ⟨this.1.1, this.1.2, this.2⟩
theorem up_neg {w : Int} : upI (-1) w = [] := rfl
def isN (x w : Int) : Bool := whole w && decide (0 ≤ x) && decide (x < w)
theorem run_index_Is (x : Int) (w : Int) : Run C0 85 [(i64P x), (i64P w)] (boolP (isN x w)) := by
  refine run_fn (C := C0) (c := _) [(i64P x), (i64P w), undefP, undefP, undefP, undefP, undefP, undefP, undefP, undefP, undefP, undefP, undefP, undefP, undefP, undefP] Tryz.func85 rfl rfl rfl rfl ?_
  have ho := own_nil []
  refine w_seq ?_
  refine w_reg ?_
  refine w_as (boolP false) rfl ?_
  try dsimp only [setD, List.set]
  refine w_nil ?_
  refine un_n ?_
  refine w_seq ?_
  refine w_reg ?_
  refine w_mv (i64P w) rfl ?_
  refine w_cs _ (boolP (whole w)) rfl (cl_cons (cl_i64 ..) (cl_nil _)) (run_whole w) rfl (fun H => calm_s H _) ?_
  refine w_mv (boolP (whole w)) rfl ?_
  rcases Bool.eq_false_or_eq_true (whole w) with h1 | h1
  · refine w_gd (dd := 7) rfl rfl h1 ?_
    refine w_mv (i64P x) rfl ?_
    try dsimp only [setD, List.set]
    refine w_gd (dd := 7) rfl rfl h1 ?_
    refine w_bin (boolP (decide (x ≥ 0))) rfl ?_
    refine w_pk1 (boolP (decide (x ≥ 0))) rfl h1 rfl ?_
    refine w_mv (boolP (decide (x ≥ 0))) rfl ?_
    rcases Bool.eq_false_or_eq_true (decide (x ≥ 0)) with h2 | h2
    · have h2_ := of_decide_eq_true h2
      refine w_gd (dd := 11) rfl rfl h2 ?_
      refine w_mv (i64P x) rfl ?_
      try dsimp only [setD, List.set]
      refine w_gd (dd := 11) rfl rfl h2 ?_
      refine w_mv (i64P w) rfl ?_
      refine w_gd (dd := 11) rfl rfl h2 ?_
      refine w_bin (boolP (decide (x < w))) rfl ?_
      refine w_pk1 (boolP (decide (x < w))) rfl h2 rfl ?_
      refine w_as (boolP (decide (x < w))) rfl ?_
      try dsimp only [setD, List.set]
      refine w_nil ?_
      refine un_n ?_
      refine w_ret ?_
      refine ⟨.inr rfl, [(boolP (decide (x < w)))], [(boolP (decide (x < w)))], rfl, rfl, ?_⟩
      refine congrArg boolP (?_ : (decide (x < w)) = (isN x w))
      first | (exfalso; omega) | (first | (simp_all [isN]; done) | (simp_all [isN]; omega))
    · have h2_ := of_decide_eq_false h2
      refine w_gn (dd := 11) rfl rfl h2 ?_
      try dsimp only [setD, List.set]
      refine w_gn (dd := 11) rfl rfl h2 ?_
      refine w_gn (dd := 11) rfl rfl h2 ?_
      refine w_pk0 (boolP false) rfl h2 rfl ?_
      refine w_as (boolP false) rfl ?_
      try dsimp only [setD, List.set]
      refine w_nil ?_
      refine un_n ?_
      refine w_ret ?_
      refine ⟨.inr rfl, [(boolP false)], [(boolP false)], rfl, rfl, ?_⟩
      refine congrArg boolP (?_ : false = (isN x w))
      first | (exfalso; omega) | (first | (simp_all [isN]; done) | (simp_all [isN]; omega))
  · refine w_gn (dd := 7) rfl rfl h1 ?_
    try dsimp only [setD, List.set]
    refine w_gn (dd := 7) rfl rfl h1 ?_
    refine w_pk0 (boolP false) rfl h1 rfl ?_
    refine w_mv (boolP false) rfl ?_
    refine w_gn (dd := 11) rfl rfl rfl ?_
    try dsimp only [setD, List.set]
    refine w_gn (dd := 11) rfl rfl rfl ?_
    refine w_gn (dd := 11) rfl rfl rfl ?_
    refine w_pk0 (boolP false) rfl rfl rfl ?_
    refine w_as (boolP false) rfl ?_
    try dsimp only [setD, List.set]
    refine w_nil ?_
    refine un_n ?_
    refine w_ret ?_
    refine ⟨.inr rfl, [(boolP false)], [(boolP false)], rfl, rfl, ?_⟩
    refine congrArg boolP (?_ : false = (isN x w))
    first | (exfalso; omega) | (first | (simp_all [isN]; done) | (simp_all [isN]; omega))
theorem direct_close {x w : Int} (hw : whole w = true) (h0 : 0 ≤ x) (h1 : x < w) {c : List Int} (hc : c = upI x w) : PV.own 3 (c.length - (if (c.length : Int) < 1 then (c.length : Int) else 1).toNat) ((c.drop (if (c.length : Int) < 1 then (c.length : Int) else 1).toNat).flatMap intF) = ownInts (directN x.toNat w.toNat) := by
  obtain ⟨hu, _, _⟩ := up_all hw h0 h1
  have hl : 1 ≤ c.length := by rw [hc, hu]; simp
  rw [if_neg (by omega)]
  have e : directN x.toNat w.toNat = c.drop 1 := by
    rw [hc]
    unfold upI directN
    rw [if_neg (by omega), List.map_drop]
  rw [e]
  unfold ownInts
  simp
theorem run_direct (x : Int) (w : Int) (hw : whole w = true) (h0 : 0 ≤ x) (h1 : x < w) : Run C0 41 [(i64P x), (i64P w)] (ownInts (directN x.toNat w.toNat)) := by
  have hisn : isN x w = true := by unfold isN; simp [hw]; omega
  refine run_fn (C := C0) (c := _) [(i64P x), (i64P w), undefP, undefP, undefP, undefP, undefP, undefP, undefP, undefP, undefP, undefP, undefP, undefP, undefP] Tryz.func41 rfl rfl rfl rfl ?_
  have ho := own_nil []
  refine w_seq ?_
  refine w_reg ?_
  refine w_as nilS rfl ?_
  try dsimp only [setD, List.set]
  refine w_nil ?_
  refine un_n ?_
  refine w_seq ?_
  refine w_reg ?_
  refine w_mv (i64P x) rfl ?_
  refine w_mv (i64P w) rfl ?_
  try dsimp only [setD, List.set]
  refine w_inl [(i64P x), (i64P w), undefP, undefP, undefP, undefP] rfl rfl rfl Tryz.func46 rfl rfl rfl ?_
  refine w_seq ?_
  refine w_reg ?_
  refine w_box ho [(i64P x)] rfl (isC_cons rfl (isC_nil)) (fun _ r1 ho2 => ?_)
  refine w_box ho2 [(i64P w)] rfl (isC_cons rfl (isC_nil)) (fun _ r4 ho5 => ?_)
  refine w_as (.s .nilFunc) rfl ?_
  try dsimp only [setD, List.set]
  refine w_nil ?_
  refine un_n ?_
  refine w_seq ?_
  refine w_reg ?_
  refine w_mf (.fn 84 [] [(.ptr r1 0), (.ptr r4 0)]) rfl ?_
  refine w_as (.fn 84 [] [(.ptr r1 0), (.ptr r4 0)]) rfl ?_
  try dsimp only [setD, List.set]
  refine w_nil ?_
  refine un_n ?_
  refine w_ret ?_
  refine ⟨.inr rfl, [(.fn 84 [] [(.ptr r1 0), (.ptr r4 0)])], rfl, ?_⟩
  try dsimp only [setD, List.set]
  refine w_inl [(.fn 84 [] [(.ptr r1 0), (.ptr r4 0)]), undefP, undefP, undefP, undefP] rfl rfl rfl Tryz.func81 rfl rfl rfl ?_
  refine w_seq ?_
  refine w_reg ?_
  refine w_as nilS rfl ?_
  try dsimp only [setD, List.set]
  refine w_nil ?_
  refine un_n ?_
  refine w_seq ?_
  refine w_reg ?_
  refine w_mv (.fn 84 [] [(.ptr r1 0), (.ptr r4 0)]) rfl ?_
  try dsimp only [setD, List.set]
  refine w_inl [nilS, (.fn 84 [] [(.ptr r1 0), (.ptr r4 0)]), undefP, undefP, undefP, undefP, undefP, undefP, undefP, undefP, undefP, undefP, undefP] rfl rfl rfl Tryz.func121 rfl rfl rfl ?_
  refine w_seq ?_
  refine w_reg ?_
  refine w_box ho5 [nilS] rfl (isC_cons rfl (isC_nil)) (fun _ r7 ho8 => ?_)
  refine w_as nilS rfl ?_
  try dsimp only [setD, List.set]
  refine w_nil ?_
  refine un_n ?_
  refine w_seq ?_
  refine w_seq ?_
  refine w_reg ?_
  refine w_mv (.fn 84 [] [(.ptr r1 0), (.ptr r4 0)]) rfl ?_
  try dsimp only [setD, List.set]
  refine w_nil ?_
  refine un_n ?_
  refine w_block ?_
  refine w_range ho8 (fun y => [y, (.ptr r1 0), (.ptr r4 0), undefP, undefP, undefP, undefP, undefP, undefP, undefP, undefP, undefP, undefP, undefP, undefP, undefP, undefP, undefP]) rfl rfl Tryz.func84 rfl rfl (fun _ => rfl) (fun _ r10 as12 bo13 eas12 ebo13 ho11 => ?_)
  refine w_seq ?_
  refine w_seq ?_
  refine w_reg ?_
  refine w_ld (i64P x) (ld_var ho11 3 rfl (ld_one sz_3 ag_3 rfl)) ?_
  refine w_ld (i64P w) (ld_var ho11 2 rfl (ld_one sz_3 ag_3 rfl)) ?_
  refine w_cs _ (boolP (isN x w)) rfl (cl_cons (cl_i64 ..) (cl_cons (cl_i64 ..) (cl_nil _))) (run_index_Is x w) rfl (fun H => calm_s H _) ?_
  refine w_un (boolP (!(isN x w))) rfl ?_
  try dsimp only [setD, List.set]
  refine w_nil ?_
  refine un_n ?_
  refine w_if0 rfl (by rw [hisn]; rfl) ?_
  refine w_skip ?_
  refine un_n ?_
  refine w_block ?_
  have ho15 := ho11.nilS 3 1
  refine w_loop (fun n g H => ∃ (j8 : PV) (j9 : PV) (j10 : PV) (j11 : PV) (j12 : PV) (j13 : PV) (j14 : PV) (j15 : PV) (j16 : PV) (j17 : PV) (p : PV) (c : List Int) (y : Int), g = [(.yld r10), (.ptr r1 0), (.ptr r4 0), undefP, (i64P x), (i64P w), (boolP (isN x w)), (boolP (!(isN x w))), j8, j9, j10, j11, j12, j13, j14, j15, j16, j17] ∧ Own H [(p, .cells 3 (c.flatMap intF) (some 1) false), ((.yld r10), .loop .ready none [nilS, (.fn 84 [] [(.ptr r1 0), (.ptr r4 0)]), (.ptr r7 0), undefP, nilS, undefP, (.fn 84 [] [(.ptr r1 0), (.ptr r4 0)]), undefP, undefP, undefP, undefP, undefP, undefP] [7] as12 bo13), ((.ptr r7 0), .cells 33 [p] none false), ((.ptr r4 0), .cells 3 [(i64P w)] none false), ((.ptr r1 0), .cells 3 [(i64P y)] none false)] ∧ n = (upI y w).length ∧ (y = -1 ∨ 0 ≤ y ∧ y < w) ∧ (c ++ upI y w = upI x w) ∧ (c.length + (upI y w).length ≤ 8)) ⟨_, _, _, _, _, _, _, _, _, _, nilS, ([] : List Int), x, rfl, ho15, rfl, (by omega), rfl, (by simpa using (up_all hw h0 h1).2.2)⟩ ?_
  rintro m18 _ H ⟨j8, j9, j10, j11, j12, j13, j14, j15, j16, j17, p, c, y, rfl, ho17, em18, hy, hc, hcl⟩
  refine w_seq ?_
  refine w_seq ?_
  refine w_reg ?_
  refine w_ld (i64P y) (ld_var ho17 4 rfl (ld_one sz_3 ag_3 rfl)) ?_
  refine w_bin (boolP (decide (y ≥ 0))) rfl ?_
  refine w_mv (boolP (decide (y ≥ 0))) rfl ?_
  rcases Bool.eq_false_or_eq_true (decide (y ≥ 0)) with h19 | h19
  · have h19_ := of_decide_eq_true h19
    have hu := up_all (x := y) (w := w) hw (by omega) (by omega)
    have hcl2 : c.length ≤ 8 := by omega
    refine w_gd (dd := 10) rfl rfl h19 ?_
    refine w_mv (.yld r10) rfl ?_
    try dsimp only [setD, List.set]
    refine w_gd (dd := 10) rfl rfl h19 ?_
    refine w_ld (i64P y) (ld_var ho17 4 rfl (ld_one sz_3 ag_3 rfl)) ?_
    refine w_gd (dd := 10) rfl rfl h19 ?_
    try dsimp only [setD, List.set]
    refine w_yield ho17 1 [nilS, (.fn 84 [] [(.ptr r1 0), (.ptr r4 0)]), (.ptr r7 0), undefP, nilS, undefP, (.fn 84 [] [(.ptr r1 0), (.ptr r4 0)]), (i64P y), undefP, undefP, undefP, undefP, undefP] (fun k h => by cases h) rfl rfl rfl rfl ?_
    refine w_code eas12 ?_
    refine w_reg ?_
    refine w_as (i64P y) rfl ?_
    try dsimp only [setD, List.set]
    refine w_nil ?_
    refine ⟨rfl, 1, _, _, _, _, _, _, ho17, rfl, fun _ ho20 => ?_⟩
    try dsimp only [List.set] at ho20
    refine w_code ebo13 ?_
    refine w_block ?_
    refine w_reg ?_
    refine w_ld p (ld_var ho20 2 rfl (ld_one sz_33 ag_33 rfl)) ?_
    refine w_mv (i64P y) rfl ?_
    refine w_bs ho20 [(i64P y)] el_33 sz_3 zp_3 (by decide) (by decide) rfl (fill_cons rfl rfl rfl rfl (isC_cons rfl (isC_nil)) rfl fill_nil) rfl (fun _ r22 ho23 => ?_)
    refine w_app ho23 1 (l0 := c) (l' := ([y])) intF_len [((.row r22 0 1), .cells 3 [(i64P y)] (some 1) false), ((.yld r10), .loop .busy none [nilS, (.fn 84 [] [(.ptr r1 0), (.ptr r4 0)]), (.ptr r7 0), undefP, nilS, undefP, (.fn 84 [] [(.ptr r1 0), (.ptr r4 0)]), undefP, undefP, undefP, undefP, undefP, undefP] [7] as12 bo13), ((.ptr r7 0), .cells 33 [p] none false), ((.ptr r4 0), .cells 3 [(i64P w)] none false), ((.ptr r1 0), .cells 3 [(i64P y)] none false)] rfl rfl rfl el_33 el_33 sz_3 by_3 zp_3 (by decide) rfl (sl_ex (sl_own ho23 0 rfl (by decide) rfl)) (by first | omega | (simp; omega) | (simp [sortL]; omega)) (by first | omega | (simp; omega) | (simp [sortL]; omega)) kn_33 rfl (fun _ p25 ho26 => ?_)
    try dsimp only [setD, List.set]
    refine w_stv ho26 3 p25 [p25] [(p25, .cells 3 ((c ++ [y]).flatMap intF) (some 1) false), ((.row r22 0 1), .cells 3 [(i64P y)] (some 1) false), ((.yld r10), .loop .busy none [nilS, (.fn 84 [] [(.ptr r1 0), (.ptr r4 0)]), (.ptr r7 0), undefP, nilS, undefP, (.fn 84 [] [(.ptr r1 0), (.ptr r4 0)]), undefP, undefP, undefP, undefP, undefP, undefP] [7] as12 bo13), ((.ptr r7 0), .cells 33 [p25] none false), ((.ptr r4 0), .cells 3 [(i64P w)] none false), ((.ptr r1 0), .cells 3 [(i64P y)] none false)] rfl rfl rfl sz_33 (pc_own ho26 0 rfl) rfl (by decide) (isC_cons (isC_own ho26 0 rfl) isC_nil) (show 1 ≤ 1 by decide) rfl rfl (fun _ ho27 => ?_)
    refine w_nil ?_
    refine ⟨2, _, _, _, _, _, _, _, ho27, rfl, fun _ ho28 => ?_⟩
    replace ho28 : Own _ [(p25, .cells 3 ((c ++ [y]).flatMap intF) (some 1) false), ((.row r22 0 1), .cells 3 [(i64P y)] (some 1) false), ((.yld r10), .loop .ready none [nilS, (.fn 84 [] [(.ptr r1 0), (.ptr r4 0)]), (.ptr r7 0), undefP, nilS, undefP, (.fn 84 [] [(.ptr r1 0), (.ptr r4 0)]), undefP, undefP, undefP, undefP, undefP, undefP] [7] as12 bo13), ((.ptr r7 0), .cells 33 [p25] none false), ((.ptr r4 0), .cells 3 [(i64P w)] none false), ((.ptr r1 0), .cells 3 [(i64P y)] none false)] := ho28
    refine w_pk1 (boolP true) rfl h19 rfl ?_
    try dsimp only [setD, List.set]
    refine w_nil ?_
    refine un_n ?_
    refine w_if1 rfl rfl ?_
    refine w_skip ?_
    refine un_n ?_
    refine w_block ?_
    refine w_reg ?_
    refine w_ld (i64P y) (ld_var ho28 5 rfl (ld_one sz_3 ag_3 rfl)) ?_
    refine w_ld (i64P w) (ld_var ho28 4 rfl (ld_one sz_3 ag_3 rfl)) ?_
    refine w_cs _ (i64P (parI y.toNat w.toNat)) rfl (cl_cons (cl_i64 ..) (cl_cons (cl_i64 ..) (cl_nil _))) (run_parent y w (by first | assumption | exact sane_whole (by assumption) (by omega)) (by omega) (by omega)) rfl (fun H => calm_s H _) ?_
    refine w_stv ho28 5 (i64P (parI y.toNat w.toNat)) [(i64P (parI y.toNat w.toNat))] [(p25, .cells 3 ((c ++ [y]).flatMap intF) (some 1) false), ((.row r22 0 1), .cells 3 [(i64P y)] (some 1) false), ((.yld r10), .loop .ready none [nilS, (.fn 84 [] [(.ptr r1 0), (.ptr r4 0)]), (.ptr r7 0), undefP, nilS, undefP, (.fn 84 [] [(.ptr r1 0), (.ptr r4 0)]), undefP, undefP, undefP, undefP, undefP, undefP] [7] as12 bo13), ((.ptr r7 0), .cells 33 [p25] none false), ((.ptr r4 0), .cells 3 [(i64P w)] none false), ((.ptr r1 0), .cells 3 [(i64P (parI y.toNat w.toNat))] none false)] rfl rfl rfl sz_3 rfl rfl (by decide) (isC_cons rfl (isC_nil)) (show 1 ≤ 1 by decide) rfl rfl (fun _ ho29 => ?_)
    try dsimp only [setD, List.set]
    refine w_nil ?_
    exact un_n ⟨_, (by rw [em18, hu.1]; simp), _, _, _, _, _, _, _, _, _, _, p25, (c ++ [y]), (parI y.toNat w.toNat), rfl, (ho29.sub [0, 2, 3, 4, 5] (by decide) rfl), rfl, hu.2.1, (by rw [← hc, hu.1]; simp), (by rw [hu.1] at hcl; simp at hcl ⊢; omega)⟩
  · have h19_ := of_decide_eq_false h19
    have hcw : c = upI x w := by rw [show y = -1 from by omega, up_neg, List.append_nil] at hc; exact hc
    have hcl2 : c.length ≤ 8 := by omega
    refine w_gn (dd := 10) rfl rfl h19 ?_
    try dsimp only [setD, List.set]
    refine w_gn (dd := 10) rfl rfl h19 ?_
    refine w_gn (dd := 10) rfl rfl h19 ?_
    refine w_pk0 (boolP false) rfl h19 rfl ?_
    try dsimp only [setD, List.set]
    refine w_nil ?_
    refine un_n ?_
    refine w_if0 rfl rfl ?_
    refine w_exit ?_
    refine un_e ?_
    refine un_e ?_
    refine ⟨.inl rfl, ⟨[], rfl⟩, 1, _, _, _, _, _, _, _, _, ho17, rfl, (by decide), rfl, fun _ ho30 => ?_⟩
    try dsimp only [List.eraseIdx] at ho30
    refine un_n ?_
    refine w_seq ?_
    refine w_reg ?_
    refine w_ld p (ld_var ho30 1 rfl (ld_one sz_33 ag_33 rfl)) ?_
    refine w_as p rfl ?_
    try dsimp only [setD, List.set]
    refine w_nil ?_
    refine un_n ?_
    refine w_ret ?_
    refine ⟨.inr rfl, [p], rfl, ?_⟩
    refine w_as p rfl ?_
    try dsimp only [setD, List.set]
    refine w_nil ?_
    refine un_n ?_
    refine w_ret ?_
    refine ⟨.inr rfl, [p], rfl, ?_⟩
    refine w_as p rfl ?_
    try dsimp only [setD, List.set]
    refine w_nil ?_
    refine un_n ?_
    refine w_seq ?_
    refine w_reg ?_
    refine w_mv p rfl ?_
    refine w_mv p rfl ?_
    refine w_lenO ho30 0 c.length (c.length : Int) (by rw [el_33]; rfl) rfl rfl (by decide) (flat_len' intF_len (by first | assumption | (simp; done) | (simp [*]; done) | (simp; omega))) rfl ?_
    refine w_qb (i64P (if (c.length : Int) < 1 then (c.length : Int) else 1)) rfl rfl ?_
    try dsimp only [setD, List.set]
    refine w_slO ho30 0 (l0 := c) ((if (c.length : Int) < 1 then (c.length : Int) else 1).toNat) (c.length) intF_len (by decide) rfl rfl el_33 sz_3 (bound_i (by omega)) rfl (by first | omega | (simp; omega) | (simp [sortL]; omega)) (by first | omega | (simp; omega) | (simp [sortL]; omega)) (fun p31 hp32 => ?_)
    rw [List.take_of_length_le (by simp)] at hp32
    refine w_as p31 rfl ?_
    try dsimp only [setD, List.set]
    refine w_nil ?_
    refine un_n ?_
    refine w_ret ?_
    refine ⟨.inr rfl, [p31], [(.own 3 (c.length - (if (c.length : Int) < 1 then (c.length : Int) else 1).toNat) ((c.drop ((if (c.length : Int) < 1 then (c.length : Int) else 1).toNat)).flatMap intF))], rfl, (ca_cons (cr_pre hp32 el_33 sz_3 (offs_nil _) (hasE_intF _ _) (cl_flat' _ (fun _ => cl_intF _ _) _)) ca_nil), ?_⟩
    first | (exfalso; omega) | (exact direct_close hw h0 h1 hcw)
theorem run_shape_known1 (t : List Node) (ht : WfT t) (hs : sane t = true) : Run C0 48 [(nodesP t)] (nodesP t) := by
  refine run_fn (C := C0) (c := _) [(nodesP t), undefP, undefP, undefP, undefP, undefP] Tryz.func48 rfl rfl rfl rfl ?_
  have ho := own_nil []
  refine w_seq ?_
  refine w_reg ?_
  refine w_as nilS rfl ?_
  try dsimp only [setD, List.set]
  refine w_nil ?_
  refine un_n ?_
  refine w_seq ?_
  refine w_seq ?_
  refine w_reg ?_
  refine w_mv (nodesP t) rfl ?_
  refine w_cs _ (boolP (sane t)) rfl (cl_cons (cl_nodes ..) (cl_nil _)) (run_shape_Sane t (by assumption)) rfl (fun H => calm_s H _) ?_
  try dsimp only [setD, List.set]
  refine w_nil ?_
  refine un_n ?_
  refine w_if1 rfl hs ?_
  refine w_seq ?_
  refine w_reg ?_
  refine w_mv (nodesP t) rfl ?_
  refine w_as (nodesP t) rfl ?_
  try dsimp only [setD, List.set]
  refine w_nil ?_
  refine un_n ?_
  refine w_ret ?_
  refine un_r ?_
  refine ⟨.inr rfl, [(nodesP t)], [(nodesP t)], rfl, (ca_cons (cr_lst ..) ca_nil), ?_⟩
  first | (exfalso; omega) | (rfl)
theorem run_shape_known0 (t : List Node) (ht : WfT t) (hs : sane t = false) : Run C0 48 [(nodesP t)] (ownNodes []) := by
  refine run_fn (C := C0) (c := _) [(nodesP t), undefP, undefP, undefP, undefP, undefP] Tryz.func48 rfl rfl rfl rfl ?_
  have ho := own_nil []
  refine w_seq ?_
  refine w_reg ?_
  refine w_as nilS rfl ?_
  try dsimp only [setD, List.set]
  refine w_nil ?_
  refine un_n ?_
  refine w_seq ?_
  refine w_seq ?_
  refine w_reg ?_
  refine w_mv (nodesP t) rfl ?_
  refine w_cs _ (boolP (sane t)) rfl (cl_cons (cl_nodes ..) (cl_nil _)) (run_shape_Sane t (by assumption)) rfl (fun H => calm_s H _) ?_
  try dsimp only [setD, List.set]
  refine w_nil ?_
  refine un_n ?_
  refine w_if0 rfl hs ?_
  refine w_skip ?_
  refine un_n ?_
  refine w_seq ?_
  refine w_reg ?_
  refine w_as nilS rfl ?_
  try dsimp only [setD, List.set]
  refine w_nil ?_
  refine un_n ?_
  refine w_ret ?_
  refine ⟨.inr rfl, [nilS], [(.own 37 0 [])], rfl, (ca_cons (cr_nil el_22) ca_nil), ?_⟩
  first | (exfalso; omega) | (rfl)
theorem run_edit_known1 (t : List Node) (ht : WfT t) (hs : sane t = true) : Run C0 37 [(nodesP t)] (nodesP t) := by
  refine run_fn (C := C0) (c := _) [(nodesP t), undefP, undefP, undefP, undefP, undefP] Tryz.func37 rfl rfl rfl rfl ?_
  have ho := own_nil []
  refine w_seq ?_
  refine w_reg ?_
  refine w_as nilS rfl ?_
  try dsimp only [setD, List.set]
  refine w_nil ?_
  refine un_n ?_
  refine w_seq ?_
  refine w_seq ?_
  refine w_reg ?_
  refine w_mv (nodesP t) rfl ?_
  refine w_cs _ (boolP (sane t)) rfl (cl_cons (cl_nodes ..) (cl_nil _)) (run_shape_Sane t (by assumption)) rfl (fun H => calm_s H _) ?_
  try dsimp only [setD, List.set]
  refine w_nil ?_
  refine un_n ?_
  refine w_if1 rfl hs ?_
  refine w_seq ?_
  refine w_reg ?_
  refine w_mv (nodesP t) rfl ?_
  refine w_as (nodesP t) rfl ?_
  try dsimp only [setD, List.set]
  refine w_nil ?_
  refine un_n ?_
  refine w_ret ?_
  refine un_r ?_
  refine ⟨.inr rfl, [(nodesP t)], [(nodesP t)], rfl, (ca_cons (cr_lst ..) ca_nil), ?_⟩
  first | (exfalso; omega) | (rfl)
theorem run_edit_known0 (t : List Node) (ht : WfT t) (hs : sane t = false) : Run C0 37 [(nodesP t)] (ownNodes []) := by
  refine run_fn (C := C0) (c := _) [(nodesP t), undefP, undefP, undefP, undefP, undefP] Tryz.func37 rfl rfl rfl rfl ?_
  have ho := own_nil []
  refine w_seq ?_
  refine w_reg ?_
  refine w_as nilS rfl ?_
  try dsimp only [setD, List.set]
  refine w_nil ?_
  refine un_n ?_
  refine w_seq ?_
  refine w_seq ?_
  refine w_reg ?_
  refine w_mv (nodesP t) rfl ?_
  refine w_cs _ (boolP (sane t)) rfl (cl_cons (cl_nodes ..) (cl_nil _)) (run_shape_Sane t (by assumption)) rfl (fun H => calm_s H _) ?_
  try dsimp only [setD, List.set]
  refine w_nil ?_
  refine un_n ?_
  refine w_if0 rfl hs ?_
  refine w_skip ?_
  refine un_n ?_
  refine w_seq ?_
  refine w_reg ?_
  refine w_as nilS rfl ?_
  try dsimp only [setD, List.set]
  refine w_nil ?_
  refine un_n ?_
  refine w_ret ?_
  refine ⟨.inr rfl, [nilS], [(.own 37 0 [])], rfl, (ca_cons (cr_nil el_22) ca_nil), ?_⟩
  first | (exfalso; omega) | (rfl)
theorem run_chain_known1 (t : List Node) (ht : WfT t) (hs : sane t = true) : Run C0 69 [(nodesP t)] (nodesP t) := by
  refine run_fn (C := C0) (c := _) [(nodesP t), undefP, undefP, undefP, undefP, undefP] Tryz.func69 rfl rfl rfl rfl ?_
  have ho := own_nil []
  refine w_seq ?_
  refine w_reg ?_
  refine w_as nilS rfl ?_
  try dsimp only [setD, List.set]
  refine w_nil ?_
  refine un_n ?_
  refine w_seq ?_
  refine w_seq ?_
  refine w_reg ?_
  refine w_mv (nodesP t) rfl ?_
  refine w_cs _ (boolP (sane t)) rfl (cl_cons (cl_nodes ..) (cl_nil _)) (run_shape_Sane t (by assumption)) rfl (fun H => calm_s H _) ?_
  try dsimp only [setD, List.set]
  refine w_nil ?_
  refine un_n ?_
  refine w_if1 rfl hs ?_
  refine w_seq ?_
  refine w_reg ?_
  refine w_mv (nodesP t) rfl ?_
  refine w_as (nodesP t) rfl ?_
  try dsimp only [setD, List.set]
  refine w_nil ?_
  refine un_n ?_
  refine w_ret ?_
  refine un_r ?_
  refine ⟨.inr rfl, [(nodesP t)], [(nodesP t)], rfl, (ca_cons (cr_lst ..) ca_nil), ?_⟩
  first | (exfalso; omega) | (rfl)
theorem run_chain_known0 (t : List Node) (ht : WfT t) (hs : sane t = false) : Run C0 69 [(nodesP t)] (ownNodes []) := by
  refine run_fn (C := C0) (c := _) [(nodesP t), undefP, undefP, undefP, undefP, undefP] Tryz.func69 rfl rfl rfl rfl ?_
  have ho := own_nil []
  refine w_seq ?_
  refine w_reg ?_
  refine w_as nilS rfl ?_
  try dsimp only [setD, List.set]
  refine w_nil ?_
  refine un_n ?_
  refine w_seq ?_
  refine w_seq ?_
  refine w_reg ?_
  refine w_mv (nodesP t) rfl ?_
  refine w_cs _ (boolP (sane t)) rfl (cl_cons (cl_nodes ..) (cl_nil _)) (run_shape_Sane t (by assumption)) rfl (fun H => calm_s H _) ?_
  try dsimp only [setD, List.set]
  refine w_nil ?_
  refine un_n ?_
  refine w_if0 rfl hs ?_
  refine w_skip ?_
  refine un_n ?_
  refine w_seq ?_
  refine w_reg ?_
  refine w_as nilS rfl ?_
  try dsimp only [setD, List.set]
  refine w_nil ?_
  refine un_n ?_
  refine w_ret ?_
  refine ⟨.inr rfl, [nilS], [(.own 37 0 [])], rfl, (ca_cons (cr_nil el_22) ca_nil), ?_⟩
  first | (exfalso; omega) | (rfl)
theorem run_resolve_known1 (t : List Node) (ht : WfT t) (hs : sane t = true) : Run C0 110 [(nodesP t)] (nodesP t) := by
  refine run_fn (C := C0) (c := _) [(nodesP t), undefP, undefP, undefP, undefP, undefP] Tryz.func110 rfl rfl rfl rfl ?_
  have ho := own_nil []
  refine w_seq ?_
  refine w_reg ?_
  refine w_as nilS rfl ?_
  try dsimp only [setD, List.set]
  refine w_nil ?_
  refine un_n ?_
  refine w_seq ?_
  refine w_seq ?_
  refine w_reg ?_
  refine w_mv (nodesP t) rfl ?_
  refine w_cs _ (boolP (sane t)) rfl (cl_cons (cl_nodes ..) (cl_nil _)) (run_shape_Sane t (by assumption)) rfl (fun H => calm_s H _) ?_
  try dsimp only [setD, List.set]
  refine w_nil ?_
  refine un_n ?_
  refine w_if1 rfl hs ?_
  refine w_seq ?_
  refine w_reg ?_
  refine w_mv (nodesP t) rfl ?_
  refine w_as (nodesP t) rfl ?_
  try dsimp only [setD, List.set]
  refine w_nil ?_
  refine un_n ?_
  refine w_ret ?_
  refine un_r ?_
  refine ⟨.inr rfl, [(nodesP t)], [(nodesP t)], rfl, (ca_cons (cr_lst ..) ca_nil), ?_⟩
  first | (exfalso; omega) | (rfl)
theorem run_resolve_known0 (t : List Node) (ht : WfT t) (hs : sane t = false) : Run C0 110 [(nodesP t)] (ownNodes []) := by
  refine run_fn (C := C0) (c := _) [(nodesP t), undefP, undefP, undefP, undefP, undefP] Tryz.func110 rfl rfl rfl rfl ?_
  have ho := own_nil []
  refine w_seq ?_
  refine w_reg ?_
  refine w_as nilS rfl ?_
  try dsimp only [setD, List.set]
  refine w_nil ?_
  refine un_n ?_
  refine w_seq ?_
  refine w_seq ?_
  refine w_reg ?_
  refine w_mv (nodesP t) rfl ?_
  refine w_cs _ (boolP (sane t)) rfl (cl_cons (cl_nodes ..) (cl_nil _)) (run_shape_Sane t (by assumption)) rfl (fun H => calm_s H _) ?_
  try dsimp only [setD, List.set]
  refine w_nil ?_
  refine un_n ?_
  refine w_if0 rfl hs ?_
  refine w_skip ?_
  refine un_n ?_
  refine w_seq ?_
  refine w_reg ?_
  refine w_as nilS rfl ?_
  try dsimp only [setD, List.set]
  refine w_nil ?_
  refine un_n ?_
  refine w_ret ?_
  refine ⟨.inr rfl, [nilS], [(.own 37 0 [])], rfl, (ca_cons (cr_nil el_22) ca_nil), ?_⟩
  first | (exfalso; omega) | (rfl)
theorem run_hash_known1 (t : List Node) (ht : WfT t) (hs : sane t = true) : Run C0 174 [(nodesP t)] (nodesP t) := by
  refine run_fn (C := C0) (c := _) [(nodesP t), undefP, undefP, undefP, undefP, undefP] Tryz.func174 rfl rfl rfl rfl ?_
  have ho := own_nil []
  refine w_seq ?_
  refine w_reg ?_
  refine w_as nilS rfl ?_
  try dsimp only [setD, List.set]
  refine w_nil ?_
  refine un_n ?_
  refine w_seq ?_
  refine w_seq ?_
  refine w_reg ?_
  refine w_mv (nodesP t) rfl ?_
  refine w_cs _ (boolP (sane t)) rfl (cl_cons (cl_nodes ..) (cl_nil _)) (run_shape_Sane t (by assumption)) rfl (fun H => calm_s H _) ?_
  try dsimp only [setD, List.set]
  refine w_nil ?_
  refine un_n ?_
  refine w_if1 rfl hs ?_
  refine w_seq ?_
  refine w_reg ?_
  refine w_mv (nodesP t) rfl ?_
  refine w_as (nodesP t) rfl ?_
  try dsimp only [setD, List.set]
  refine w_nil ?_
  refine un_n ?_
  refine w_ret ?_
  refine un_r ?_
  refine ⟨.inr rfl, [(nodesP t)], [(nodesP t)], rfl, (ca_cons (cr_lst ..) ca_nil), ?_⟩
  first | (exfalso; omega) | (rfl)
theorem run_hash_known0 (t : List Node) (ht : WfT t) (hs : sane t = false) : Run C0 174 [(nodesP t)] (ownNodes []) := by
  refine run_fn (C := C0) (c := _) [(nodesP t), undefP, undefP, undefP, undefP, undefP] Tryz.func174 rfl rfl rfl rfl ?_
  have ho := own_nil []
  refine w_seq ?_
  refine w_reg ?_
  refine w_as nilS rfl ?_
  try dsimp only [setD, List.set]
  refine w_nil ?_
  refine un_n ?_
  refine w_seq ?_
  refine w_seq ?_
  refine w_reg ?_
  refine w_mv (nodesP t) rfl ?_
  refine w_cs _ (boolP (sane t)) rfl (cl_cons (cl_nodes ..) (cl_nil _)) (run_shape_Sane t (by assumption)) rfl (fun H => calm_s H _) ?_
  try dsimp only [setD, List.set]
  refine w_nil ?_
  refine un_n ?_
  refine w_if0 rfl hs ?_
  refine w_skip ?_
  refine un_n ?_
  refine w_seq ?_
  refine w_reg ?_
  refine w_as nilS rfl ?_
  try dsimp only [setD, List.set]
  refine w_nil ?_
  refine un_n ?_
  refine w_ret ?_
  refine ⟨.inr rfl, [nilS], [(.own 37 0 [])], rfl, (ca_cons (cr_nil el_22) ca_nil), ?_⟩
  first | (exfalso; omega) | (rfl)
theorem whole_le {w : Int} (h : whole w = true) : 0 ≤ w ∧ w ≤ 127 := by
  unfold whole at h
  simp only [Bool.or_eq_true, decide_eq_true_eq] at h
  omega
theorem sane_len {t : List Node} (h : sane t = true) : (t.length : Int) ≤ 127 := by
  unfold sane at h
  simp only [Bool.and_eq_true, Bool.or_eq_true, decide_eq_true_eq] at h
  rcases h.2 with h | h
  · omega
  · exact (whole_le h).2
theorem wf_nil : WfT [] := ⟨by simp, fun n h => by simp at h⟩
def tree (t : List Node) : List Node := if sane t then t else []
def leaves (t : List Node) : Int := ((tree t).length + 1) / 2
theorem run_Leaves1 (t : List Node) (ht : WfT t) (hs : sane t = true) : Run C0 31 [(nodesP t)] (i64P (((t.length : Int) + 1) / 2)) := by
  have hs_l := sane_len hs
  refine run_fn (C := C0) (c := _) [(nodesP t), undefP, undefP, undefP, undefP, undefP, undefP, undefP] Tryz.func31 rfl rfl rfl rfl ?_
  have ho := own_nil []
  refine w_seq ?_
  refine w_reg ?_
  refine w_as (i64P 0) rfl ?_
  try dsimp only [setD, List.set]
  refine w_nil ?_
  refine un_n ?_
  refine w_seq ?_
  refine w_reg ?_
  refine w_mv (nodesP t) rfl ?_
  refine w_ccl ho _ (nodesP t) [] rfl rfl (cl_cons (cl_nodes ..) (cl_nil _)) (run_shape_known1 t (by first | assumption | exact wf_nil) hs) (rv_lst ..) sl_nil (fun _ ho1 => ?_)
  refine w_lenC _ _ _ (t.length : Int) (by rw [el_22]; rfl) rfl rfl ?_
  refine w_bin (i64P ((t.length : Int) + 1)) (b_add rfl rfl (by omega) (by omega)) ?_
  try dsimp only [setD, List.set]
  refine w_bin (i64P (((t.length : Int) + 1) / 2)) (b_quo rfl rfl (by omega) (by omega) (by omega)) ?_
  refine w_as (i64P (((t.length : Int) + 1) / 2)) rfl ?_
  try dsimp only [setD, List.set]
  refine w_nil ?_
  refine un_n ?_
  refine w_ret ?_
  refine ⟨.inr rfl, [(i64P (((t.length : Int) + 1) / 2))], [(i64P (((t.length : Int) + 1) / 2))], rfl, rfl, ?_⟩
  refine congrArg i64P (?_ : (((t.length : Int) + 1) / 2) = (((t.length : Int) + 1) / 2))
  first | (exfalso; omega) | (rfl)
theorem run_Leaves0 (t : List Node) (ht : WfT t) (hs : sane t = false) : Run C0 31 [(nodesP t)] (i64P 0) := by
  refine run_fn (C := C0) (c := _) [(nodesP t), undefP, undefP, undefP, undefP, undefP, undefP, undefP] Tryz.func31 rfl rfl rfl rfl ?_
  have ho := own_nil []
  refine w_seq ?_
  refine w_reg ?_
  refine w_as (i64P 0) rfl ?_
  try dsimp only [setD, List.set]
  refine w_nil ?_
  refine un_n ?_
  refine w_seq ?_
  refine w_reg ?_
  refine w_mv (nodesP t) rfl ?_
  refine w_cown ho _ _ _ _ _ [] rfl rfl (cl_cons (cl_nodes ..) (cl_nil _)) (run_shape_known0 t (by first | assumption | exact wf_nil) hs) sz_37 (by decide) (flat_len nodeCs_len _) sl_nil (fun _ r2 ho1 => ?_)
  refine w_lenO ho1 0 0 (0 : Int) (by rw [el_22]; rfl) rfl rfl (by decide) rfl rfl ?_
  refine w_bin (i64P ((0 : Int) + 1)) (b_add rfl rfl (by omega) (by omega)) ?_
  try dsimp only [setD, List.set]
  refine w_bin (i64P (((0 : Int) + 1) / 2)) (b_quo rfl rfl (by omega) (by omega) (by omega)) ?_
  refine w_as (i64P (((0 : Int) + 1) / 2)) rfl ?_
  try dsimp only [setD, List.set]
  refine w_nil ?_
  refine un_n ?_
  refine w_ret ?_
  refine ⟨.inr rfl, [(i64P (((0 : Int) + 1) / 2))], [(i64P (((0 : Int) + 1) / 2))], rfl, rfl, ?_⟩
  refine congrArg i64P (?_ : (((0 : Int) + 1) / 2) = 0)
  first | (exfalso; omega) | (rfl)
theorem run_shape_blank (n : Node) : Run C0 51 [(.agg (nodeCs n))] (boolP (decide (n.kind = 0))) := by
  refine run_fn (C := C0) (c := _) [(.agg (nodeCs n)), undefP, undefP, undefP, undefP, undefP] Tryz.func51 rfl rfl rfl rfl ?_
  have ho := own_nil []
  refine w_seq ?_
  refine w_reg ?_
  refine w_box ho (nodeCs n) rfl (isC_node _) (fun _ r1 ho2 => ?_)
  refine w_as (boolP false) rfl ?_
  try dsimp only [setD, List.set]
  refine w_nil ?_
  refine un_n ?_
  refine w_seq ?_
  refine w_reg ?_
  refine w_fa (.ptr r1 0) (fa_ptr fd_37_0 sz_3 (by decide)) ?_
  refine w_ld (i64P n.kind) (ld_var ho2 0 rfl (ld_one sz_3 ag_3 rfl)) ?_
  refine w_bin (boolP (decide (n.kind = 0))) rfl ?_
  refine w_as (boolP (decide (n.kind = 0))) rfl ?_
  try dsimp only [setD, List.set]
  refine w_nil ?_
  refine un_n ?_
  refine w_ret ?_
  refine ⟨.inr rfl, [(boolP (decide (n.kind = 0)))], [(boolP (decide (n.kind = 0)))], rfl, rfl, ?_⟩
  refine congrArg boolP (?_ : (decide (n.kind = 0)) = (decide (n.kind = 0)))
  first | (exfalso; omega) | (first | rfl | (simp_all []; done) | (simp_all []; omega))
def sourceE (l : Leaf) (from_ : Int) : Int := if leafCheck l = 0 ∧ l.source ≠ from_ then 7 else leafCheck l
theorem run_edit_source (l : Leaf) (k : Int) : Run C0 38 [(.agg (leafCs l)), (i64P k)] (i64P (sourceE l k)) := by
  refine run_fn (C := C0) (c := _) [(.agg (leafCs l)), (i64P k), undefP, undefP, undefP, undefP, undefP, undefP, undefP, undefP, undefP, undefP, undefP, undefP, undefP, undefP, undefP] Tryz.func38 rfl rfl rfl rfl ?_
  have ho := own_nil []
  refine w_seq ?_
  refine w_reg ?_
  refine w_box ho (leafCs l) rfl (isC_leaf _) (fun _ r1 ho2 => ?_)
  refine w_as (i64P 0) rfl ?_
  try dsimp only [setD, List.set]
  refine w_nil ?_
  refine un_n ?_
  refine w_seq ?_
  refine w_reg ?_
  refine w_ld (.agg (leafCs l)) (ld_var ho2 0 rfl (ld_agg sz_25 ag_25 rfl (show 4 ≤ 4 by decide))) ?_
  refine w_cs _ (i64P (leafCheck l)) rfl (cl_cons (cl_agg (cl_leafCs ..)) (cl_nil _)) (run_leaf_Check0 l) rfl (fun H => calm_s H _) ?_
  refine w_as (i64P (leafCheck l)) rfl ?_
  try dsimp only [setD, List.set]
  refine w_nil ?_
  refine un_n ?_
  refine w_seq ?_
  refine w_seq ?_
  refine w_reg ?_
  refine w_mv (i64P (leafCheck l)) rfl ?_
  refine w_bin (boolP (decide ((leafCheck l) = 0))) rfl ?_
  refine w_mv (boolP (decide ((leafCheck l) = 0))) rfl ?_
  rcases Bool.eq_false_or_eq_true (decide ((leafCheck l) = 0)) with h4 | h4
  · have h4_ := of_decide_eq_true h4
    refine w_gd (dd := 10) rfl rfl h4 ?_
    refine w_fa (.ptr r1 2) (fa_ptr fd_25_2 sz_3 (by decide)) ?_
    try dsimp only [setD, List.set]
    refine w_gd (dd := 10) rfl rfl h4 ?_
    refine w_ld (i64P l.source) (ld_var ho2 0 rfl (ld_one sz_3 ag_3 rfl)) ?_
    refine w_gd (dd := 10) rfl rfl h4 ?_
    refine w_mv (i64P k) rfl ?_
    refine w_gd (dd := 10) rfl rfl h4 ?_
    refine w_bin (boolP (!(decide (l.source = k)))) rfl ?_
    refine w_pk1 (boolP (!(decide (l.source = k)))) rfl h4 rfl ?_
    try dsimp only [setD, List.set]
    refine w_nil ?_
    refine un_n ?_
    refine w_if (!(decide (l.source = k))) rfl (fun h5 => ?_) (fun h5 => ?_)
    · have h5' := nb1 h5
      have h5'_ := of_decide_eq_false h5'
      refine w_seq ?_
      refine w_reg ?_
      refine w_as (i64P 7) rfl ?_
      try dsimp only [setD, List.set]
      refine w_nil ?_
      refine un_n ?_
      refine w_ret ?_
      refine un_r ?_
      refine ⟨.inr rfl, [(i64P 7)], [(i64P 7)], rfl, rfl, ?_⟩
      refine congrArg i64P (?_ : 7 = (sourceE l k))
      first | (exfalso; omega) | (unfold sourceE; (repeat' split) <;> first | rfl | omega | (simp_all; done) | (simp_all; omega))
    · have h5' := nb0 h5
      have h5'_ := of_decide_eq_true h5'
      refine w_skip ?_
      refine un_n ?_
      refine w_seq ?_
      refine w_reg ?_
      refine w_mv (i64P (leafCheck l)) rfl ?_
      refine w_as (i64P (leafCheck l)) rfl ?_
      try dsimp only [setD, List.set]
      refine w_nil ?_
      refine un_n ?_
      refine w_ret ?_
      refine ⟨.inr rfl, [(i64P (leafCheck l))], [(i64P (leafCheck l))], rfl, rfl, ?_⟩
      refine congrArg i64P (?_ : (leafCheck l) = (sourceE l k))
      first | (exfalso; omega) | (unfold sourceE; (repeat' split) <;> first | rfl | omega | (simp_all; done) | (simp_all; omega))
  · have h4_ := of_decide_eq_false h4
    refine w_gn (dd := 10) rfl rfl h4 ?_
    try dsimp only [setD, List.set]
    refine w_gn (dd := 10) rfl rfl h4 ?_
    refine w_gn (dd := 10) rfl rfl h4 ?_
    refine w_gn (dd := 10) rfl rfl h4 ?_
    refine w_pk0 (boolP false) rfl h4 rfl ?_
    try dsimp only [setD, List.set]
    refine w_nil ?_
    refine un_n ?_
    refine w_if0 rfl rfl ?_
    refine w_skip ?_
    refine un_n ?_
    refine w_seq ?_
    refine w_reg ?_
    refine w_mv (i64P (leafCheck l)) rfl ?_
    refine w_as (i64P (leafCheck l)) rfl ?_
    try dsimp only [setD, List.set]
    refine w_nil ?_
    refine un_n ?_
    refine w_ret ?_
    refine ⟨.inr rfl, [(i64P (leafCheck l))], [(i64P (leafCheck l))], rfl, rfl, ?_⟩
    refine congrArg i64P (?_ : (leafCheck l) = (sourceE l k))
    first | (exfalso; omega) | (unfold sourceE; (repeat' split) <;> first | rfl | omega | (simp_all; done) | (simp_all; omega))
end Go.Proofs.YtkkdkhacligaoaaGreatDoor.law
