/- Walks: what functions of the program come to, as the pure interpreter runs them. -/
import Derived.Test.YtkkdkhacligaoaaGreatDoorW7
import Derived.Test.YtkkdkhacligaoaaGreatDoorAwake
set_option linter.unusedSimpArgs false
set_option linter.unusedVariables false
namespace Go.Proofs.YtkkdkhacligaoaaGreatDoor.law
open Go.PI
theorem wf_set {t : List Node} (h : WfT t) (x : Nat) {n : Node} (hn : WfN n) : WfT (t.set x n) := by
  refine ⟨by simpa using h.1, fun m hm => ?_⟩
  rcases List.mem_or_eq_of_mem_set hm with hm | rfl
  · exact h.2 m hm
  · exact hn
theorem wf_noNode : WfN noNode := by show ((noNode.inner.unmerged.length : Nat) : Int) ≤ _; decide
theorem wf_tree {t : List Node} (h : WfT t) : WfT (tree t) := by unfold tree; split; exact h; exact wf_nil
theorem wf_clearAll {t : List Node} (h : WfT t) (xs : List Int) : WfT (clearAll t xs) := by
  unfold clearAll
  induction xs generalizing t with
  | nil => exact h
  | cons x xs ih => exact ih (wf_set h _ wf_noNode)
theorem wf_laid {t : List Node} (h : WfT t) (i : Int) (l : Leaf) : WfT (laidL t i l) := wf_set h _ (by show ((noInner.unmerged.length : Nat) : Int) ≤ _; decide)
theorem wf_change {t : List Node} (h : WfT t) (i : Int) (l : Leaf) : WfT (changeT t i l) := by
  unfold changeT
  split
  · exact wf_laid (wf_clearAll (wf_tree h) _) _ _
  · exact wf_nil
theorem run_edit_Change (t : List Node) (i : Int) (l : Leaf) (ht : WfT t) : Run C0 19 [(nodesP t), (i64P i), (.agg (leafCs l))] (.tup [ownNodes (changeT t i l), i64P (changeE t i l)]) := by
  refine run_fn (C := C0) (c := _) [(nodesP t), (i64P i), (.agg (leafCs l)), undefP, undefP, undefP, undefP, undefP, undefP, undefP, undefP, undefP, undefP, undefP, undefP, undefP, undefP, undefP] Tryz.func19 rfl rfl rfl rfl ?_
  have ho := own_nil []
  refine w_seq ?_
  refine w_reg ?_
  refine w_box ho [(i64P i)] rfl (isC_cons rfl (isC_nil)) (fun _ r1 ho2 => ?_)
  refine w_box ho2 (leafCs l) rfl (isC_leaf _) (fun _ r4 ho5 => ?_)
  refine w_as nilS rfl ?_
  refine w_as (i64P 0) rfl ?_
  try dsimp only [setD, List.set]
  refine w_nil ?_
  refine un_n ?_
  refine w_seq ?_
  refine w_reg ?_
  refine w_mf (.fn 52 [] [(.ptr r1 0)]) rfl ?_
  refine w_bd (.agg [(i64P 2), (.fn 52 [] [(.ptr r1 0)])]) (bd_st zp_68 pl_68 (fill_cons rfl rfl rfl rfl (isC_cons rfl (isC_nil)) rfl (fill_cons rfl rfl rfl rfl (isC_cons rfl (isC_nil)) rfl fill_nil))) ?_
  refine w_alloc ho5 [(i64P 0), (.s .nilFunc)] zp_68 (fun _ r7 ho8 => ?_)
  refine w_stv ho8 0 (.agg [(i64P 2), (.fn 52 [] [(.ptr r1 0)])]) [(i64P 2), (.fn 52 [] [(.ptr r1 0)])] [((.ptr r7 0), .cells 68 [(i64P 2), (.fn 52 [] [(.ptr r1 0)])] none false), ((.ptr r4 0), .cells 25 (leafCs l) none false), ((.ptr r1 0), .cells 3 [(i64P i)] none false)] rfl rfl rfl sz_68 rfl rfl (by decide) (isC_cons rfl (isC_cons rfl (isC_nil))) (show 2 ≤ 2 by decide) rfl rfl (fun _ ho10 => ?_)
  try dsimp only [setD, List.set]
  refine w_nil ?_
  refine un_n ?_
  refine w_seq ?_
  refine w_reg ?_
  refine w_ld (.agg [(i64P 2), (.fn 52 [] [(.ptr r1 0)])]) (ld_var ho10 0 rfl (ld_agg sz_68 ag_68 rfl (show 2 ≤ 2 by decide))) ?_
  refine w_mv (nodesP t) rfl ?_
  refine w_ld (i64P i) (ld_var ho10 2 rfl (ld_one sz_3 ag_3 rfl)) ?_
  refine w_ld (.agg (leafCs l)) (ld_var ho10 1 rfl (ld_agg sz_25 ag_25 rfl (show 4 ≤ 4 by decide))) ?_
  try dsimp only [setD, List.set]
  refine w_cownt ho10 _ _ _ _ _ [(.int .i64 (changeE t i l))] [((.ptr r7 0), .cells 68 [(i64P 2), (.fn 52 [] [(.ptr r1 0)])] none false), ((.ptr r4 0), .cells 25 (leafCs l) none false), ((.ptr r1 0), .cells 3 [(i64P i)] none (false || hasE 3 (.tup [(ownNodes (changeT t i l)), (i64P (changeE t i l))])))] rfl rfl (cl_cons (cl_agg (cl_cons (cl_i64 ..) (cl_cons (cl_fn (cl_nil _) (cl_cons (cl_var ho10 2 rfl (cl_cons (cl_i64 ..) (cl_nil _))) (cl_nil _))) (cl_nil _)))) (cl_cons (cl_nodes ..) (cl_cons (cl_i64 ..) (cl_cons (cl_agg (cl_leafCs ..)) (cl_nil _))))) (run_on_change t i l (by first | assumption | exact wf_nil | exact wf_change (by assumption) _ _ | exact wf_change (wf_change (by assumption) _ _) _ _)) sz_37 (by decide) (flat_len nodeCs_len _) (sl_cons (so_cells (has_tup (has_own (hasE_nodeCs (by decide) (by decide) (by decide) _)))) (sl_cons (so_cells (has_tup (has_own (hasE_nodeCs (by decide) (by decide) (by decide) _)))) (sl_cons rfl sl_nil))) (fun _ r12 ho11 => ?_)
  rw [← rs_cells] at ho11
  refine w_xt [(.row r12 0 (changeT t i l).length), (i64P (changeE t i l))] (.row r12 0 (changeT t i l).length) rfl rfl ?_
  refine w_xt [(.row r12 0 (changeT t i l).length), (i64P (changeE t i l))] (i64P (changeE t i l)) rfl rfl ?_
  refine w_as (.row r12 0 (changeT t i l).length) rfl ?_
  try dsimp only [setD, List.set]
  refine w_as (i64P (changeE t i l)) rfl ?_
  try dsimp only [setD, List.set]
  refine w_nil ?_
  refine un_n ?_
  refine w_ret ?_
  refine ⟨.inr rfl, [(.row r12 0 (changeT t i l).length), (i64P (changeE t i l))], [(.own 37 (changeT t i l).length ((((changeT t i l).map Node.r).map RNode.node).flatMap nodeCs)), (i64P (changeE t i l))], rfl, (ca_cons (cr_own ho11 0 rfl (by decide) (flat_len' rCs_len (by first | assumption | (simp; done) | (simp [*]; done) | (simp; omega))) el_22 sz_37 (offs_cons (off_i _ _) (offs_nil _)) (hasE_nodeCs (e := 37) (by decide) (by decide) (by decide) _) (cl_flat _ (fun _ => cl_rCs _ _) _)) (ca_cons (cr_i64 _) ca_nil)), ?_⟩
  first | (exfalso; omega) | (exact congrArg (fun q => PV.tup [q, i64P _]) (own_eq (rs_node _) (by simp)))
/-! ### Two leaves change in either order -/
theorem clearAll_get (t : List Node) (xs : List Int) (x : Nat) (hx : x < t.length) (h0 : ∀ y ∈ xs, 0 ≤ y) : (clearAll t xs)[x]'(by rw [clearAll_len]; exact hx) = if (x : Int) ∈ xs then noNode else t[x] := by
  induction xs generalizing t with
  | nil => simp [clearAll]
  | cons y xs ih =>
    have e : clearAll t (y :: xs) = clearAll (t.set y.toNat noNode) xs := rfl
    have h1 := ih (t.set y.toNat noNode) (by simpa using hx) (fun z hz => h0 z (List.mem_cons_of_mem _ hz))
    simp only [e, h1]
    have hy := h0 y (by simp)
    by_cases hm : (x : Int) ∈ xs
    · simp [hm]
    · by_cases hxy : (x : Int) = y
      · have : y.toNat = x := by omega
        simp [hm, hxy, this]
      · have : y.toNat ≠ x := by omega
        simp [hm, hxy, this]
theorem direct_odd_t : (wholes.all fun w => (List.range w).all fun x => (directN x w).all fun y => decide (y % 2 = 1)) = true := by decide +kernel
theorem direct_odd {x w : Int} (hw : whole w = true) (h0 : 0 ≤ x) (h1 : x < w) {y : Int} (hy : y ∈ directN x.toNat w.toNat) : y % 2 = 1 := by
  obtain ⟨h2, h3⟩ := whole_mem hw
  have := List.all_eq_true.1 (List.all_eq_true.1 (List.all_eq_true.1 direct_odd_t _ h3) x.toNat (List.mem_range.2 (by omega))) y hy
  simpa using this
theorem way_even {i : Int} {n : Nat} (hw : whole n = true) (h0 : 0 ≤ i) (h1 : 2 * i < n) {y : Int} (hy : y ∈ wayUp i n) (he : y % 2 = 0) : y = 2 * i := by
  rcases List.mem_append.1 hy with h | h
  · have := direct_odd hw (x := 2 * i) (by omega) h1 (by simpa using h); omega
  · simpa using h
theorem sane_get {t : List Node} (h : sane t = true) (x : Nat) (hx : x < t.length) : okAt x t[x] = true := by
  unfold sane at h
  simp only [Bool.and_eq_true] at h
  have := List.all_eq_true.1 h.1 x (List.mem_range.2 hx)
  simpa [hx] using this
theorem sane_of {t u : List Node} (h : sane t = true) (hl : u.length = t.length) (hu : ∀ x (hx : x < u.length), okAt x u[x] = true) : sane u = true := by
  unfold sane at h ⊢
  simp only [Bool.and_eq_true] at h ⊢
  refine ⟨List.all_eq_true.2 fun x hx => ?_, by rw [hl]; exact h.2⟩
  have hx := List.mem_range.1 hx
  simpa [hx] using hu x hx
theorem ok_noNode (x : Int) : okAt x noNode = true := by
  have h1 : nodeCheck noNode = 0 := by decide
  have h2 : fits x noNode.kind = true := by
    show (if x % 2 = 0 then !decide ((0 : Int) = 2) else !decide ((0 : Int) = 1)) = true
    split <;> rfl
  unfold okAt
  rw [h1, h2]; rfl
theorem ok_leaf {x : Int} {l : Leaf} (hx : x % 2 = 0) (h : leafCheck l = 0) : okAt x ⟨1, l, noInner⟩ = true := by
  unfold okAt fits nodeCheck
  simp [hx, h]
theorem have_zero {t : List Node} {i : Int} (h : haveE t i = 0) : 0 ≤ i ∧ 2 * i < t.length ∧ (nth t (2 * i)).kind ≠ 0 := by
  unfold haveE at h
  split at h
  · omega
  · split at h
    · omega
    · exact ⟨by omega, by omega, by assumption⟩
theorem change_zero {t : List Node} {i : Int} {l : Leaf} (hs : sane t = true) (h : changeE t i l = 0) : haveE t i = 0 ∧ sourceE l 2 = 0 ∧ leafCheck l = 0 ∧ changeT t i l = laidL (clearL t i) i l := by
  have ht : tree t = t := by unfold tree; rw [if_pos hs]
  have h' := h
  unfold changeE at h'
  rw [ht] at h'
  split at h'
  · rename_i h0
    refine ⟨h0, h', ?_, by unfold changeT; rw [if_pos h, ht]⟩
    unfold sourceE at h'
    split at h'
    · omega
    · exact h'
  · exact absurd h' (by assumption)
theorem change_get {t : List Node} {i : Int} (hs : sane t = true) (h0 : 0 ≤ i) (h1 : 2 * i < t.length) (l : Leaf) (x : Nat) (hx : x < t.length) :
    (laidL (clearL t i) i l)[x]'(by rw [laidL_len, clearL_len]; exact hx) = if (x : Int) = 2 * i then ⟨1, l, noInner⟩ else if (x : Int) ∈ wayUp i t.length then noNode else t[x] := by
  have hw := sane_whole hs (by omega)
  have hb : ∀ y ∈ wayUp i t.length, 0 ≤ y := fun y hy => (way_bound hw h0 h1 hy).1
  unfold laidL clearL
  rw [List.getElem_set]
  by_cases hx2 : (x : Int) = 2 * i
  · rw [if_pos (by omega), if_pos hx2]
  · rw [if_neg (by omega), if_neg hx2, clearAll_get _ _ _ hx hb]
theorem change_sane {t : List Node} {i : Int} {l : Leaf} (hs : sane t = true) (h0 : 0 ≤ i) (h1 : 2 * i < t.length) (hl : leafCheck l = 0) : sane (laidL (clearL t i) i l) = true := by
  refine sane_of hs (by rw [laidL_len, clearL_len]) fun x hx => ?_
  have hx' : x < t.length := by rw [laidL_len, clearL_len] at hx; exact hx
  rw [change_get hs h0 h1 l x hx']
  split
  · exact ok_leaf (by omega) hl
  · split
    · exact ok_noNode _
    · exact sane_get hs x hx'
theorem change_other {t : List Node} {i k : Int} {l m : Leaf} (hs : sane t = true) (hne : ¬ i = k) (hi : changeE t i l = 0) (hk : changeE t k m = 0) : changeE (changeT t i l) k m = 0 := by
  obtain ⟨a1, a2, a3, a4⟩ := change_zero hs hi
  obtain ⟨b1, b2, b3, b4⟩ := change_zero hs hk
  obtain ⟨h0, h1, _⟩ := have_zero a1
  obtain ⟨k0, k1, k2⟩ := have_zero b1
  have hsa := change_sane hs h0 h1 a3
  have hw := sane_whole hs (by omega)
  rw [a4]
  have hl : (laidL (clearL t i) i l).length = t.length := by rw [laidL_len, clearL_len]
  have hn : nth (laidL (clearL t i) i l) (2 * k) = nth t (2 * k) := by
    have e : (2 * k) = ((2 * k).toNat : Int) := by omega
    rw [e, nth_get (by rw [hl]; omega), nth_get (by omega), change_get hs h0 h1 l _ (by omega), if_neg (by omega), if_neg]
    intro hmem
    have := way_even hw h0 h1 hmem (by omega)
    omega
  unfold changeE
  have ht : tree (laidL (clearL t i) i l) = laidL (clearL t i) i l := by unfold tree; rw [if_pos hsa]
  have hh : haveE (laidL (clearL t i) i l) k = 0 := by
    unfold haveE
    rw [hl, hn, if_neg (by omega), if_neg k2]
  rw [ht, hh, if_pos rfl, b2]
theorem change_two {t : List Node} {i k : Int} {l m : Leaf} (hs : sane t = true) (hne : ¬ i = k) (hi : changeE t i l = 0) (hk : changeE t k m = 0) (x : Nat) (hx : x < t.length) :
    ∃ hx' : x < (changeT (changeT t i l) k m).length, (changeT (changeT t i l) k m)[x] = if (x : Int) = 2 * k then ⟨1, m, noInner⟩ else if (x : Int) = 2 * i then ⟨1, l, noInner⟩ else if (x : Int) ∈ wayUp k t.length then noNode else if (x : Int) ∈ wayUp i t.length then noNode else t[x] := by
  have hc := change_other hs hne hi hk
  obtain ⟨a1, a2, a3, a4⟩ := change_zero hs hi
  obtain ⟨b1, b2, b3, b4⟩ := change_zero hs hk
  obtain ⟨h0, h1, _⟩ := have_zero a1
  obtain ⟨k0, k1, k2⟩ := have_zero b1
  have hsa := change_sane hs h0 h1 a3
  have hw := sane_whole hs (by omega)
  rw [a4] at hc
  obtain ⟨c1, c2, c3, c4⟩ := change_zero hsa hc
  have hl : (laidL (clearL t i) i l).length = t.length := by rw [laidL_len, clearL_len]
  have e : changeT (changeT t i l) k m = laidL (clearL (laidL (clearL t i) i l) k) k m := by rw [a4, c4]
  simp only [e]
  refine ⟨by rw [laidL_len, clearL_len, hl]; exact hx, ?_⟩
  rw [change_get hsa k0 (by rw [hl]; exact k1) m x (by rw [hl]; exact hx), change_get hs h0 h1 l x hx, hl]
  split
  · rfl
  · by_cases hx2 : (x : Int) = 2 * i
    · rw [if_pos hx2, if_pos hx2, if_neg]
      intro hmem
      have := way_even hw k0 k1 hmem (by omega)
      omega
    · rw [if_neg hx2, if_neg hx2]
theorem change_two_len {t : List Node} {i k : Int} {l m : Leaf} (hs : sane t = true) (hne : ¬ i = k) (hi : changeE t i l = 0) (hk : changeE t k m = 0) : (changeT (changeT t i l) k m).length = t.length := by
  have hc := change_other hs hne hi hk
  obtain ⟨a1, a2, a3, a4⟩ := change_zero hs hi
  obtain ⟨h0, h1, _⟩ := have_zero a1
  have hsa := change_sane hs h0 h1 a3
  rw [a4] at hc ⊢
  obtain ⟨c1, c2, c3, c4⟩ := change_zero hsa hc
  rw [c4, laidL_len, clearL_len, laidL_len, clearL_len]
theorem order_all {t : List Node} {i k : Int} {l m : Leaf} (hs : sane t = true) (hne : ¬ i = k) (hi : changeE t i l = 0) (hk : changeE t k m = 0) :
    changeE (changeT t i l) k m = 0 ∧ changeE (changeT t k m) i l = 0 ∧ changeT (changeT t i l) k m = changeT (changeT t k m) i l ∧ (changeT (changeT t i l) k m).length = t.length := by
  have hne' : ¬ k = i := fun h => hne h.symm
  refine ⟨change_other hs hne hi hk, change_other hs hne' hk hi, ?_, change_two_len hs hne hi hk⟩
  refine List.ext_getElem (by rw [change_two_len hs hne hi hk, change_two_len hs hne' hk hi]) fun x hx1 hx2 => ?_
  have hx : x < t.length := by rw [change_two_len hs hne hi hk] at hx1; exact hx1
  obtain ⟨_, e1⟩ := change_two hs hne hi hk x hx
  obtain ⟨_, e2⟩ := change_two hs hne' hk hi x hx
  rw [e1, e2]
  by_cases c1 : (x : Int) = 2 * k
  · rw [if_pos c1, if_neg (by omega), if_pos c1]
  · rw [if_neg c1]
    by_cases c2 : (x : Int) = 2 * i
    · rw [if_pos c2, if_pos c2]
    · rw [if_neg c2, if_neg c2, if_neg c1]
      split <;> split <;> rfl
theorem run_EditOrder (t : List Node) (i : Int) (k : Int) (l : Leaf) (m : Leaf) (ht : WfT t) : Run C0 5 [(nodesP t), (i64P i), (i64P k), (.agg (leafCs l)), (.agg (leafCs m))] (boolP true) := by
  have hlt := ht.1
  refine run_fn (C := C0) (c := _) [(nodesP t), (i64P i), (i64P k), (.agg (leafCs l)), (.agg (leafCs m)), undefP, undefP, undefP, undefP, undefP, undefP, undefP, undefP, undefP, undefP, undefP, undefP, undefP, undefP, undefP, undefP, undefP, undefP, undefP, undefP, undefP, undefP, undefP, undefP, undefP, undefP, undefP, undefP, undefP, undefP, undefP, undefP, undefP, undefP, undefP, undefP, undefP, undefP, undefP, undefP, undefP, undefP, undefP, undefP, undefP, undefP, undefP, undefP, undefP, undefP, undefP, undefP, undefP, undefP, undefP, undefP, undefP, undefP, undefP, undefP, undefP, undefP, undefP, undefP, undefP, undefP, undefP, undefP, undefP, undefP, undefP, undefP, undefP, undefP, undefP, undefP, undefP, undefP, undefP, undefP, undefP, undefP, undefP, undefP, undefP, undefP] Tryz.func5 rfl rfl rfl rfl ?_
  have ho := own_nil []
  refine w_seq ?_
  refine w_reg ?_
  refine w_box ho (leafCs l) rfl (isC_leaf _) (fun _ r1 ho2 => ?_)
  refine w_box ho2 (leafCs m) rfl (isC_leaf _) (fun _ r4 ho5 => ?_)
  refine w_as (boolP false) rfl ?_
  try dsimp only [setD, List.set]
  refine w_nil ?_
  refine un_n ?_
  refine w_seq ?_
  refine w_reg ?_
  refine w_cs _ (boolP true) rfl (cl_nil _) (awake ) rfl (fun H => calm_s H _) ?_
  refine w_as (boolP true) rfl ?_
  try dsimp only [setD, List.set]
  refine w_nil ?_
  refine un_n ?_
  refine w_seq ?_
  refine w_seq ?_
  refine w_reg ?_
  refine w_mv (nodesP t) rfl ?_
  refine w_cs _ (boolP (few t)) rfl (cl_cons (cl_nodes ..) (cl_nil _)) (run_cordwoodref10_Few t (by first | assumption | omega)) rfl (fun H => calm_s H _) ?_
  refine w_un (boolP (!(few t))) rfl ?_
  refine w_mv (boolP (!(few t))) rfl ?_
  try dsimp only [setD, List.set]
  rcases Bool.eq_false_or_eq_true (!(few t)) with h7 | h7
  · have h7' := nb1 h7
    refine w_gn (dd := 24) rfl rfl h7 ?_
    refine w_gn (dd := 24) rfl rfl h7 ?_
    refine w_gn (dd := 24) rfl rfl h7 ?_
    refine w_pk1 (boolP true) rfl h7 rfl ?_
    try dsimp only [setD, List.set]
    refine w_mv (boolP true) rfl ?_
    refine w_gn (dd := 29) rfl rfl rfl ?_
    refine w_gn (dd := 29) rfl rfl rfl ?_
    refine w_gn (dd := 29) rfl rfl rfl ?_
    try dsimp only [setD, List.set]
    refine w_pk1 (boolP true) rfl rfl rfl ?_
    try dsimp only [setD, List.set]
    refine w_nil ?_
    refine un_n ?_
    refine w_if1 rfl rfl ?_
    refine w_seq ?_
    refine w_reg ?_
    refine w_mv (boolP true) rfl ?_
    refine w_as (boolP true) rfl ?_
    try dsimp only [setD, List.set]
    refine w_nil ?_
    refine un_n ?_
    refine w_ret ?_
    refine un_r ?_
    refine ⟨.inr rfl, [(boolP true)], [(boolP true)], rfl, rfl, ?_⟩
    refine congrArg boolP (?_ : true = true)
    first | (exfalso; omega) | (first | rfl | (obtain ⟨z1, z2, z3, z4⟩ := order_all (t := t) (i := i) (k := k) (l := l) (m := m) (by assumption) (by assumption) (by assumption) (by assumption); simp_all))
  · have h7' := nb0 h7
    refine w_gd (dd := 24) rfl rfl h7 ?_
    refine w_mv (nodesP t) rfl ?_
    refine w_gd (dd := 24) rfl rfl h7 ?_
    refine w_cs _ (boolP (sane t)) rfl (cl_cons (cl_nodes ..) (cl_nil _)) (run_shape_Sane t (by first | assumption | exact wf_nil | exact wf_change (by assumption) _ _ | exact wf_change (wf_change (by assumption) _ _) _ _)) rfl (fun H => calm_s H _) ?_
    refine w_gd (dd := 24) rfl rfl h7 ?_
    refine w_un (boolP (!(sane t))) rfl ?_
    refine w_pk0 (boolP (!(sane t))) rfl h7 rfl ?_
    try dsimp only [setD, List.set]
    refine w_mv (boolP (!(sane t))) rfl ?_
    rcases Bool.eq_false_or_eq_true (!(sane t)) with h8 | h8
    · have h8' := nb1 h8
      refine w_gn (dd := 29) rfl rfl h8 ?_
      refine w_gn (dd := 29) rfl rfl h8 ?_
      refine w_gn (dd := 29) rfl rfl h8 ?_
      try dsimp only [setD, List.set]
      refine w_pk1 (boolP true) rfl h8 rfl ?_
      try dsimp only [setD, List.set]
      refine w_nil ?_
      refine un_n ?_
      refine w_if1 rfl rfl ?_
      refine w_seq ?_
      refine w_reg ?_
      refine w_mv (boolP true) rfl ?_
      refine w_as (boolP true) rfl ?_
      try dsimp only [setD, List.set]
      refine w_nil ?_
      refine un_n ?_
      refine w_ret ?_
      refine un_r ?_
      refine ⟨.inr rfl, [(boolP true)], [(boolP true)], rfl, rfl, ?_⟩
      refine congrArg boolP (?_ : true = true)
      first | (exfalso; omega) | (first | rfl | (obtain ⟨z1, z2, z3, z4⟩ := order_all (t := t) (i := i) (k := k) (l := l) (m := m) (by assumption) (by assumption) (by assumption) (by assumption); simp_all))
    · have h8' := nb0 h8
      have h8'_l := sane_len h8'
      refine w_gd (dd := 29) rfl rfl h8 ?_
      refine w_mv (i64P i) rfl ?_
      refine w_gd (dd := 29) rfl rfl h8 ?_
      refine w_mv (i64P k) rfl ?_
      refine w_gd (dd := 29) rfl rfl h8 ?_
      refine w_bin (boolP (decide (i = k))) rfl ?_
      try dsimp only [setD, List.set]
      refine w_pk0 (boolP (decide (i = k))) rfl h8 rfl ?_
      try dsimp only [setD, List.set]
      refine w_nil ?_
      refine un_n ?_
      refine w_if (decide (i = k)) rfl (fun h9 => ?_) (fun h9 => ?_)
      · have h9_ := of_decide_eq_true h9
        refine w_seq ?_
        refine w_reg ?_
        refine w_mv (boolP true) rfl ?_
        refine w_as (boolP true) rfl ?_
        try dsimp only [setD, List.set]
        refine w_nil ?_
        refine un_n ?_
        refine w_ret ?_
        refine un_r ?_
        refine ⟨.inr rfl, [(boolP true)], [(boolP true)], rfl, rfl, ?_⟩
        refine congrArg boolP (?_ : true = true)
        first | (exfalso; omega) | (first | rfl | (obtain ⟨z1, z2, z3, z4⟩ := order_all (t := t) (i := i) (k := k) (l := l) (m := m) (by assumption) (by assumption) (by assumption) (by assumption); simp_all))
      · have h9_ := of_decide_eq_false h9
        refine w_skip ?_
        refine un_n ?_
        refine w_seq ?_
        refine w_reg ?_
        refine w_mv (nodesP t) rfl ?_
        refine w_mv (i64P i) rfl ?_
        refine w_ld (.agg (leafCs l)) (ld_var ho5 1 rfl (ld_agg sz_25 ag_25 rfl (show 4 ≤ 4 by decide))) ?_
        refine w_cownt ho5 _ _ _ _ _ [(.int .i64 (changeE t i l))] [((.ptr r4 0), .cells 25 (leafCs m) none false), ((.ptr r1 0), .cells 25 (leafCs l) none false)] rfl rfl (cl_cons (cl_nodes ..) (cl_cons (cl_i64 ..) (cl_cons (cl_agg (cl_leafCs ..)) (cl_nil _)))) (run_edit_Change t i l (by first | assumption | exact wf_nil | exact wf_change (by assumption) _ _ | exact wf_change (wf_change (by assumption) _ _) _ _)) sz_37 (by decide) (flat_len nodeCs_len _) (sl_cons (so_cells (has_tup (has_own (hasE_nodeCs (by decide) (by decide) (by decide) _)))) (sl_cons (so_cells (has_tup (has_own (hasE_nodeCs (by decide) (by decide) (by decide) _)))) sl_nil)) (fun _ r11 ho10 => ?_)
        rw [← rs_cells] at ho10
        try dsimp only [setD, List.set]
        refine w_mv (.tup [(.row r11 0 (changeT t i l).length), (i64P (changeE t i l))]) rfl ?_
        refine w_xt [(.row r11 0 (changeT t i l).length), (i64P (changeE t i l))] (.row r11 0 (changeT t i l).length) rfl rfl ?_
        refine w_xt [(.row r11 0 (changeT t i l).length), (i64P (changeE t i l))] (i64P (changeE t i l)) rfl rfl ?_
        refine w_as (.row r11 0 (changeT t i l).length) rfl ?_
        try dsimp only [setD, List.set]
        refine w_as (i64P (changeE t i l)) rfl ?_
        try dsimp only [setD, List.set]
        refine w_nil ?_
        refine un_n ?_
        refine w_seq ?_
        refine w_reg ?_
        refine w_mv (nodesP t) rfl ?_
        refine w_mv (i64P k) rfl ?_
        refine w_ld (.agg (leafCs m)) (ld_var ho10 1 rfl (ld_agg sz_25 ag_25 rfl (show 4 ≤ 4 by decide))) ?_
        refine w_cownt ho10 _ _ _ _ _ [(.int .i64 (changeE t k m))] [((.row r11 0 (changeT t i l).length), .cells 37 (((changeT t i l).map Node.r).flatMap rCs) (some 8) false), ((.ptr r4 0), .cells 25 (leafCs m) none false), ((.ptr r1 0), .cells 25 (leafCs l) none false)] rfl rfl (cl_cons (cl_nodes ..) (cl_cons (cl_i64 ..) (cl_cons (cl_agg (cl_leafCs ..)) (cl_nil _)))) (run_edit_Change t k m (by first | assumption | exact wf_nil | exact wf_change (by assumption) _ _ | exact wf_change (wf_change (by assumption) _ _) _ _)) sz_37 (by decide) (flat_len nodeCs_len _) (sl_cons (so_cells (has_tup (has_own (hasE_nodeCs (by decide) (by decide) (by decide) _)))) (sl_cons (so_cells (has_tup (has_own (hasE_nodeCs (by decide) (by decide) (by decide) _)))) (sl_cons (so_cells (has_tup (has_own (hasE_nodeCs (by decide) (by decide) (by decide) _)))) sl_nil))) (fun _ r14 ho13 => ?_)
        rw [← rs_cells] at ho13
        try dsimp only [setD, List.set]
        refine w_mv (.tup [(.row r14 0 (changeT t k m).length), (i64P (changeE t k m))]) rfl ?_
        refine w_xt [(.row r14 0 (changeT t k m).length), (i64P (changeE t k m))] (.row r14 0 (changeT t k m).length) rfl rfl ?_
        refine w_xt [(.row r14 0 (changeT t k m).length), (i64P (changeE t k m))] (i64P (changeE t k m)) rfl rfl ?_
        refine w_as (.row r14 0 (changeT t k m).length) rfl ?_
        try dsimp only [setD, List.set]
        refine w_as (i64P (changeE t k m)) rfl ?_
        try dsimp only [setD, List.set]
        refine w_nil ?_
        refine un_n ?_
        refine w_seq ?_
        refine w_seq ?_
        refine w_reg ?_
        refine w_mv (i64P (changeE t i l)) rfl ?_
        refine w_bin (boolP (!(decide ((changeE t i l) = 0)))) rfl ?_
        refine w_mv (boolP (!(decide ((changeE t i l) = 0)))) rfl ?_
        rcases Bool.eq_false_or_eq_true (!(decide ((changeE t i l) = 0))) with h16 | h16
        · have h16' := nb1 h16
          have h16'_ := of_decide_eq_false h16'
          refine w_gn (dd := 51) rfl rfl h16 ?_
          try dsimp only [setD, List.set]
          refine w_gn (dd := 51) rfl rfl h16 ?_
          refine w_pk1 (boolP true) rfl h16 rfl ?_
          try dsimp only [setD, List.set]
          refine w_nil ?_
          refine un_n ?_
          refine w_if1 rfl rfl ?_
          refine w_seq ?_
          refine w_reg ?_
          refine w_mv (boolP true) rfl ?_
          refine w_as (boolP true) rfl ?_
          try dsimp only [setD, List.set]
          refine w_nil ?_
          refine un_n ?_
          refine w_ret ?_
          refine un_r ?_
          refine ⟨.inr rfl, [(boolP true)], [(boolP true)], rfl, rfl, ?_⟩
          refine congrArg boolP (?_ : true = true)
          first | (exfalso; omega) | (first | rfl | (obtain ⟨z1, z2, z3, z4⟩ := order_all (t := t) (i := i) (k := k) (l := l) (m := m) (by assumption) (by assumption) (by assumption) (by assumption); simp_all))
        · have h16' := nb0 h16
          have h16'_ := of_decide_eq_true h16'
          refine w_gd (dd := 51) rfl rfl h16 ?_
          refine w_mv (i64P (changeE t k m)) rfl ?_
          try dsimp only [setD, List.set]
          refine w_gd (dd := 51) rfl rfl h16 ?_
          refine w_bin (boolP (!(decide ((changeE t k m) = 0)))) rfl ?_
          refine w_pk0 (boolP (!(decide ((changeE t k m) = 0)))) rfl h16 rfl ?_
          try dsimp only [setD, List.set]
          refine w_nil ?_
          refine un_n ?_
          refine w_if (!(decide ((changeE t k m) = 0))) rfl (fun h17 => ?_) (fun h17 => ?_)
          · have h17' := nb1 h17
            have h17'_ := of_decide_eq_false h17'
            refine w_seq ?_
            refine w_reg ?_
            refine w_mv (boolP true) rfl ?_
            refine w_as (boolP true) rfl ?_
            try dsimp only [setD, List.set]
            refine w_nil ?_
            refine un_n ?_
            refine w_ret ?_
            refine un_r ?_
            refine ⟨.inr rfl, [(boolP true)], [(boolP true)], rfl, rfl, ?_⟩
            refine congrArg boolP (?_ : true = true)
            first | (exfalso; omega) | (first | rfl | (obtain ⟨z1, z2, z3, z4⟩ := order_all (t := t) (i := i) (k := k) (l := l) (m := m) (by assumption) (by assumption) (by assumption) (by assumption); simp_all))
          · have h17' := nb0 h17
            have h17'_ := of_decide_eq_true h17'
            refine w_skip ?_
            refine un_n ?_
            refine w_seq ?_
            refine w_reg ?_
            refine w_mv (.row r11 0 (changeT t i l).length) rfl ?_
            refine w_mv (i64P k) rfl ?_
            refine w_ld (.agg (leafCs m)) (ld_var ho13 2 rfl (ld_agg sz_25 ag_25 rfl (show 4 ≤ 4 by decide))) ?_
            refine w_cownt ho13 _ _ _ _ _ [(.int .i64 (changeE (changeT t i l) k m))] [((.row r14 0 (changeT t k m).length), .cells 37 (((changeT t k m).map Node.r).flatMap rCs) (some 8) false), ((.row r11 0 (changeT t i l).length), .cells 37 (((changeT t i l).map Node.r).flatMap rCs) (some 8) false), ((.ptr r4 0), .cells 25 (leafCs m) none false), ((.ptr r1 0), .cells 25 (leafCs l) none false)] rfl rfl (cl_cons (cl_rn0 ho13 1 rfl) (cl_cons (cl_i64 ..) (cl_cons (cl_agg (cl_leafCs ..)) (cl_nil _)))) (run_edit_Change (changeT t i l) k m (by first | assumption | exact wf_nil | exact wf_change (by assumption) _ _ | exact wf_change (wf_change (by assumption) _ _) _ _)) sz_37 (by decide) (flat_len nodeCs_len _) (sl_cons (so_cells (has_tup (has_own (hasE_nodeCs (by decide) (by decide) (by decide) _)))) (sl_cons (so_cells (has_tup (has_own (hasE_nodeCs (by decide) (by decide) (by decide) _)))) (sl_cons (so_cells (has_tup (has_own (hasE_nodeCs (by decide) (by decide) (by decide) _)))) (sl_cons (so_cells (has_tup (has_own (hasE_nodeCs (by decide) (by decide) (by decide) _)))) sl_nil)))) (fun _ r19 ho18 => ?_)
            rw [← rs_cells] at ho18
            try dsimp only [setD, List.set]
            refine w_mv (.tup [(.row r19 0 (changeT (changeT t i l) k m).length), (i64P (changeE (changeT t i l) k m))]) rfl ?_
            refine w_xt [(.row r19 0 (changeT (changeT t i l) k m).length), (i64P (changeE (changeT t i l) k m))] (.row r19 0 (changeT (changeT t i l) k m).length) rfl rfl ?_
            refine w_xt [(.row r19 0 (changeT (changeT t i l) k m).length), (i64P (changeE (changeT t i l) k m))] (i64P (changeE (changeT t i l) k m)) rfl rfl ?_
            refine w_as (.row r19 0 (changeT (changeT t i l) k m).length) rfl ?_
            try dsimp only [setD, List.set]
            refine w_as (i64P (changeE (changeT t i l) k m)) rfl ?_
            try dsimp only [setD, List.set]
            refine w_nil ?_
            refine un_n ?_
            refine w_seq ?_
            refine w_reg ?_
            refine w_mv (.row r14 0 (changeT t k m).length) rfl ?_
            refine w_mv (i64P i) rfl ?_
            refine w_ld (.agg (leafCs l)) (ld_var ho18 4 rfl (ld_agg sz_25 ag_25 rfl (show 4 ≤ 4 by decide))) ?_
            refine w_cownt ho18 _ _ _ _ _ [(.int .i64 (changeE (changeT t k m) i l))] [((.row r19 0 (changeT (changeT t i l) k m).length), .cells 37 (((changeT (changeT t i l) k m).map Node.r).flatMap rCs) (some 8) false), ((.row r14 0 (changeT t k m).length), .cells 37 (((changeT t k m).map Node.r).flatMap rCs) (some 8) false), ((.row r11 0 (changeT t i l).length), .cells 37 (((changeT t i l).map Node.r).flatMap rCs) (some 8) false), ((.ptr r4 0), .cells 25 (leafCs m) none false), ((.ptr r1 0), .cells 25 (leafCs l) none false)] rfl rfl (cl_cons (cl_rn0 ho18 1 rfl) (cl_cons (cl_i64 ..) (cl_cons (cl_agg (cl_leafCs ..)) (cl_nil _)))) (run_edit_Change (changeT t k m) i l (by first | assumption | exact wf_nil | exact wf_change (by assumption) _ _ | exact wf_change (wf_change (by assumption) _ _) _ _)) sz_37 (by decide) (flat_len nodeCs_len _) (sl_cons (so_cells (has_tup (has_own (hasE_nodeCs (by decide) (by decide) (by decide) _)))) (sl_cons (so_cells (has_tup (has_own (hasE_nodeCs (by decide) (by decide) (by decide) _)))) (sl_cons (so_cells (has_tup (has_own (hasE_nodeCs (by decide) (by decide) (by decide) _)))) (sl_cons (so_cells (has_tup (has_own (hasE_nodeCs (by decide) (by decide) (by decide) _)))) (sl_cons (so_cells (has_tup (has_own (hasE_nodeCs (by decide) (by decide) (by decide) _)))) sl_nil))))) (fun _ r22 ho21 => ?_)
            rw [← rs_cells] at ho21
            try dsimp only [setD, List.set]
            refine w_mv (.tup [(.row r22 0 (changeT (changeT t k m) i l).length), (i64P (changeE (changeT t k m) i l))]) rfl ?_
            refine w_xt [(.row r22 0 (changeT (changeT t k m) i l).length), (i64P (changeE (changeT t k m) i l))] (.row r22 0 (changeT (changeT t k m) i l).length) rfl rfl ?_
            refine w_xt [(.row r22 0 (changeT (changeT t k m) i l).length), (i64P (changeE (changeT t k m) i l))] (i64P (changeE (changeT t k m) i l)) rfl rfl ?_
            refine w_as (.row r22 0 (changeT (changeT t k m) i l).length) rfl ?_
            try dsimp only [setD, List.set]
            refine w_as (i64P (changeE (changeT t k m) i l)) rfl ?_
            try dsimp only [setD, List.set]
            refine w_nil ?_
            refine un_n ?_
            refine w_seq ?_
            refine w_reg ?_
            refine w_mv (boolP true) rfl ?_
            refine w_mv (boolP true) rfl ?_
            refine w_gd (dd := 71) rfl rfl rfl ?_
            refine w_mv (i64P (changeE (changeT t i l) k m)) rfl ?_
            refine w_gd (dd := 71) rfl rfl rfl ?_
            refine w_bin (boolP (decide ((changeE (changeT t i l) k m) = 0))) rfl ?_
            try dsimp only [setD, List.set]
            refine w_pk1 (boolP (decide ((changeE (changeT t i l) k m) = 0))) rfl rfl rfl ?_
            refine w_mv (boolP (decide ((changeE (changeT t i l) k m) = 0))) rfl ?_
            rcases Bool.eq_false_or_eq_true (decide ((changeE (changeT t i l) k m) = 0)) with h24 | h24
            · have h24_ := of_decide_eq_true h24
              refine w_gd (dd := 75) rfl rfl h24 ?_
              refine w_mv (i64P (changeE (changeT t k m) i l)) rfl ?_
              refine w_gd (dd := 75) rfl rfl h24 ?_
              refine w_bin (boolP (decide ((changeE (changeT t k m) i l) = 0))) rfl ?_
              try dsimp only [setD, List.set]
              refine w_pk1 (boolP (decide ((changeE (changeT t k m) i l) = 0))) rfl h24 rfl ?_
              refine w_mv (boolP (decide ((changeE (changeT t k m) i l) = 0))) rfl ?_
              rcases Bool.eq_false_or_eq_true (decide ((changeE (changeT t k m) i l) = 0)) with h25 | h25
              · have h25_ := of_decide_eq_true h25
                refine w_gd (dd := 79) rfl rfl h25 ?_
                refine w_mv (.row r19 0 (changeT (changeT t i l) k m).length) rfl ?_
                refine w_gd (dd := 79) rfl rfl h25 ?_
                refine w_mv (.row r22 0 (changeT (changeT t k m) i l).length) rfl ?_
                try dsimp only [setD, List.set]
                refine w_gd (dd := 79) rfl rfl h25 ?_
                refine w_cs _ (boolP (decide ((changeT (changeT t i l) k m) = (changeT (changeT t k m) i l)))) rfl (cl_cons (cl_rn0 ho21 1 rfl) (cl_cons (cl_rn0 ho21 0 rfl) (cl_nil _))) (run_cordwoodref10_Same (changeT (changeT t i l) k m) (changeT (changeT t k m) i l) (by first | assumption | exact wf_nil | exact wf_change (by assumption) _ _ | exact wf_change (wf_change (by assumption) _ _) _ _)) rfl (fun H => calm_s H _) ?_
                refine w_pk1 (boolP (decide ((changeT (changeT t i l) k m) = (changeT (changeT t k m) i l)))) rfl h25 rfl ?_
                refine w_mv (boolP (decide ((changeT (changeT t i l) k m) = (changeT (changeT t k m) i l)))) rfl ?_
                rcases Bool.eq_false_or_eq_true (decide ((changeT (changeT t i l) k m) = (changeT (changeT t k m) i l))) with h26 | h26
                · have h26_ := of_decide_eq_true h26
                  refine w_gd (dd := 84) rfl rfl h26 ?_
                  refine w_mv (.row r19 0 (changeT (changeT t i l) k m).length) rfl ?_
                  try dsimp only [setD, List.set]
                  refine w_gd (dd := 84) rfl rfl h26 ?_
                  refine w_lenO ho21 1 ((changeT (changeT t i l) k m).length) ((changeT (changeT t i l) k m).length : Int) (by rw [el_22]; rfl) rfl rfl (by decide) (flat_len' rCs_len (by first | assumption | (simp; done) | (simp [*]; done) | (simp; omega))) rfl ?_
                  refine w_gd (dd := 84) rfl rfl h26 ?_
                  refine w_mv (nodesP t) rfl ?_
                  refine w_gd (dd := 84) rfl rfl h26 ?_
                  refine w_lenC _ _ _ (t.length : Int) (by rw [el_22]; rfl) rfl rfl ?_
                  refine w_gd (dd := 84) rfl rfl h26 ?_
                  refine w_bin (boolP (decide (((changeT (changeT t i l) k m).length : Int) = (t.length : Int)))) rfl ?_
                  try dsimp only [setD, List.set]
                  refine w_pk1 (boolP (decide (((changeT (changeT t i l) k m).length : Int) = (t.length : Int)))) rfl h26 rfl ?_
                  refine w_as (boolP (decide (((changeT (changeT t i l) k m).length : Int) = (t.length : Int)))) rfl ?_
                  try dsimp only [setD, List.set]
                  refine w_nil ?_
                  refine un_n ?_
                  refine w_ret ?_
                  refine ⟨.inr rfl, [(boolP (decide (((changeT (changeT t i l) k m).length : Int) = (t.length : Int))))], [(boolP (decide (((changeT (changeT t i l) k m).length : Int) = (t.length : Int))))], rfl, rfl, ?_⟩
                  refine congrArg boolP (?_ : (decide (((changeT (changeT t i l) k m).length : Int) = (t.length : Int))) = true)
                  first | (exfalso; omega) | (first | rfl | (obtain ⟨z1, z2, z3, z4⟩ := order_all (t := t) (i := i) (k := k) (l := l) (m := m) (by assumption) (by assumption) (by assumption) (by assumption); simp_all))
                · have h26_ := of_decide_eq_false h26
                  refine w_gn (dd := 84) rfl rfl h26 ?_
                  try dsimp only [setD, List.set]
                  refine w_gn (dd := 84) rfl rfl h26 ?_
                  refine w_gn (dd := 84) rfl rfl h26 ?_
                  refine w_gn (dd := 84) rfl rfl h26 ?_
                  refine w_gn (dd := 84) rfl rfl h26 ?_
                  try dsimp only [setD, List.set]
                  refine w_pk0 (boolP false) rfl h26 rfl ?_
                  refine w_as (boolP false) rfl ?_
                  try dsimp only [setD, List.set]
                  refine w_nil ?_
                  refine un_n ?_
                  refine w_ret ?_
                  refine ⟨.inr rfl, [(boolP false)], [(boolP false)], rfl, rfl, ?_⟩
                  refine congrArg boolP (?_ : false = true)
                  first | (exfalso; omega) | (first | rfl | (obtain ⟨z1, z2, z3, z4⟩ := order_all (t := t) (i := i) (k := k) (l := l) (m := m) (by assumption) (by assumption) (by assumption) (by assumption); simp_all))
              · have h25_ := of_decide_eq_false h25
                refine w_gn (dd := 79) rfl rfl h25 ?_
                refine w_gn (dd := 79) rfl rfl h25 ?_
                try dsimp only [setD, List.set]
                refine w_gn (dd := 79) rfl rfl h25 ?_
                refine w_pk0 (boolP false) rfl h25 rfl ?_
                refine w_mv (boolP false) rfl ?_
                refine w_gn (dd := 84) rfl rfl rfl ?_
                try dsimp only [setD, List.set]
                refine w_gn (dd := 84) rfl rfl rfl ?_
                refine w_gn (dd := 84) rfl rfl rfl ?_
                refine w_gn (dd := 84) rfl rfl rfl ?_
                refine w_gn (dd := 84) rfl rfl rfl ?_
                try dsimp only [setD, List.set]
                refine w_pk0 (boolP false) rfl rfl rfl ?_
                refine w_as (boolP false) rfl ?_
                try dsimp only [setD, List.set]
                refine w_nil ?_
                refine un_n ?_
                refine w_ret ?_
                refine ⟨.inr rfl, [(boolP false)], [(boolP false)], rfl, rfl, ?_⟩
                refine congrArg boolP (?_ : false = true)
                first | (exfalso; omega) | (first | rfl | (obtain ⟨z1, z2, z3, z4⟩ := order_all (t := t) (i := i) (k := k) (l := l) (m := m) (by assumption) (by assumption) (by assumption) (by assumption); simp_all))
            · have h24_ := of_decide_eq_false h24
              refine w_gn (dd := 75) rfl rfl h24 ?_
              refine w_gn (dd := 75) rfl rfl h24 ?_
              try dsimp only [setD, List.set]
              refine w_pk0 (boolP false) rfl h24 rfl ?_
              refine w_mv (boolP false) rfl ?_
              refine w_gn (dd := 79) rfl rfl rfl ?_
              refine w_gn (dd := 79) rfl rfl rfl ?_
              try dsimp only [setD, List.set]
              refine w_gn (dd := 79) rfl rfl rfl ?_
              refine w_pk0 (boolP false) rfl rfl rfl ?_
              refine w_mv (boolP false) rfl ?_
              refine w_gn (dd := 84) rfl rfl rfl ?_
              try dsimp only [setD, List.set]
              refine w_gn (dd := 84) rfl rfl rfl ?_
              refine w_gn (dd := 84) rfl rfl rfl ?_
              refine w_gn (dd := 84) rfl rfl rfl ?_
              refine w_gn (dd := 84) rfl rfl rfl ?_
              try dsimp only [setD, List.set]
              refine w_pk0 (boolP false) rfl rfl rfl ?_
              refine w_as (boolP false) rfl ?_
              try dsimp only [setD, List.set]
              refine w_nil ?_
              refine un_n ?_
              refine w_ret ?_
              refine ⟨.inr rfl, [(boolP false)], [(boolP false)], rfl, rfl, ?_⟩
              refine congrArg boolP (?_ : false = true)
              first | (exfalso; omega) | (first | rfl | (obtain ⟨z1, z2, z3, z4⟩ := order_all (t := t) (i := i) (k := k) (l := l) (m := m) (by assumption) (by assumption) (by assumption) (by assumption); simp_all))
end Go.Proofs.YtkkdkhacligaoaaGreatDoor.law
