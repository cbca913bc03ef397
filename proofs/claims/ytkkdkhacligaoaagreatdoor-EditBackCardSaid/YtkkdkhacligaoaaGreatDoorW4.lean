/- Walks: what functions of the program come to, as the pure interpreter runs them. -/
import Derived.Test.YtkkdkhacligaoaaGreatDoorW3
set_option linter.unusedSimpArgs false
set_option linter.unusedVariables false
namespace Go.Proofs.YtkkdkhacligaoaaGreatDoor.law
open Go.PI
theorem wf_nth {t : List Node} (h : WfT t) {i : Int} (h0 : 0 ≤ i) (h1 : i < t.length) : WfN (nth t i) := h.2 _ (nth_mem h0 h1)
theorem run_cordwoodref10_Same (a : List Node) (b : List Node) (ha : WfT a) : Run C0 16 [(nodesP a), (nodesP b)] (boolP (decide (a = b))) := by
  have hla := ha.1
  refine run_fn (C := C0) (c := _) [(nodesP a), (nodesP b), undefP, undefP, undefP, undefP, undefP, undefP, undefP, undefP, undefP, undefP, undefP, undefP, undefP, undefP, undefP, undefP, undefP, undefP, undefP, undefP, undefP, undefP, undefP, undefP, undefP] Tryz.func16 rfl rfl rfl rfl ?_
  have ho := own_nil []
  refine w_seq ?_
  refine w_reg ?_
  refine w_as (boolP false) rfl ?_
  try dsimp only [setD, List.set]
  refine w_nil ?_
  refine un_n ?_
  refine w_seq ?_
  refine w_seq ?_
  refine w_reg ?_
  refine w_mv (nodesP a) rfl ?_
  refine w_lenC _ _ _ (a.length : Int) (by rw [el_22]; rfl) rfl rfl ?_
  refine w_mv (nodesP b) rfl ?_
  refine w_lenC _ _ _ (b.length : Int) (by rw [el_22]; rfl) rfl rfl ?_
  try dsimp only [setD, List.set]
  refine w_bin (boolP (!(decide ((a.length : Int) = (b.length : Int))))) rfl ?_
  try dsimp only [setD, List.set]
  refine w_nil ?_
  refine un_n ?_
  refine w_if (!(decide ((a.length : Int) = (b.length : Int)))) rfl (fun h1 => ?_) (fun h1 => ?_)
  · have h1' := nb1 h1
    have h1'_ := of_decide_eq_false h1'
    refine w_seq ?_
    refine w_reg ?_
    refine w_as (boolP false) rfl ?_
    try dsimp only [setD, List.set]
    refine w_nil ?_
    refine un_n ?_
    refine w_ret ?_
    refine un_r ?_
    refine ⟨.inr rfl, [(boolP false)], [(boolP false)], rfl, rfl, ?_⟩
    refine congrArg boolP (?_ : false = (decide (a = b)))
    first | (exfalso; omega) | (first | exact (decide_eq_true (eq_all (by omega) (fun j hj => hall j (by omega)))).symm | exact (decide_eq_false (by rintro rfl; first | omega | (simp_all; done))).symm)
  · have h1' := nb0 h1
    have h1'_ := of_decide_eq_true h1'
    refine w_skip ?_
    refine un_n ?_
    refine w_seq ?_
    refine w_seq ?_
    refine w_reg ?_
    refine w_as (i64P 0) rfl ?_
    try dsimp only [setD, List.set]
    refine w_nil ?_
    refine un_n ?_
    refine w_block ?_
    refine w_loop (fun n g H => ∃ (i : Int) (j4 : PV) (j11 : PV) (j12 : PV) (j13 : PV) (j14 : PV) (j15 : PV) (j16 : PV) (j17 : PV) (j18 : PV) (j19 : PV) (j20 : PV) (j21 : PV) (j22 : PV) (j23 : PV) (j24 : PV) (j25 : PV) (j26 : PV), g = [(nodesP a), (nodesP b), undefP, undefP, j4, (i64P i), (nodesP a), (i64P (a.length : Int)), (nodesP b), (i64P (b.length : Int)), (boolP (!(decide ((a.length : Int) = (b.length : Int))))), j11, j12, j13, j14, j15, j16, j17, j18, j19, j20, j21, j22, j23, j24, j25, j26] ∧ Own H [] ∧ n = ((a.length : Int) - i).toNat ∧ (0 ≤ i) ∧ (i ≤ (a.length : Int)) ∧ (∀ j : Nat, (j : Int) < i → nth a j = nth b j)) ⟨0, _, _, _, _, _, _, _, _, _, _, _, _, _, _, _, _, _, rfl, (own_nil _), rfl, (by omega), (by omega), (fun j hj => by omega)⟩ ?_
    rintro m3 _ H ⟨i, j4, j11, j12, j13, j14, j15, j16, j17, j18, j19, j20, j21, j22, j23, j24, j25, j26, rfl, ho2, em3, h0, hi, hall⟩
    refine w_seq ?_
    refine w_seq ?_
    refine w_reg ?_
    refine w_mv (i64P i) rfl ?_
    refine w_mv (nodesP a) rfl ?_
    refine w_lenC _ _ _ (a.length : Int) (by rw [el_22]; rfl) rfl rfl ?_
    refine w_bin (boolP (decide (i < (a.length : Int)))) rfl ?_
    try dsimp only [setD, List.set]
    refine w_nil ?_
    refine un_n ?_
    refine w_if (decide (i < (a.length : Int))) rfl (fun h4 => ?_) (fun h4 => ?_)
    · have h4_ := of_decide_eq_true h4
      refine w_skip ?_
      refine un_n ?_
      refine w_seq ?_
      refine w_block ?_
      refine w_seq ?_
      refine w_reg ?_
      refine w_mv (nodesP a) rfl ?_
      refine w_mv (i64P i) rfl ?_
      refine w_ia (.lptr 37 (atF nodeCs 8 a i 0)) (ix_lst nodeCs_len el_22 sz_37 (by omega) (by omega)) ?_
      refine w_ld (.agg (nodeCs (nth a i))) (ld_lptr (ld_at nodeCs_len (by omega) (by omega) (by decide) (ld_agg sz_37 ag_37 rfl (show 8 ≤ 8 by decide)))) ?_
      try dsimp only [setD, List.set]
      refine w_mv (nodesP b) rfl ?_
      refine w_mv (i64P i) rfl ?_
      refine w_ia (.lptr 37 (atF nodeCs 8 b i 0)) (ix_lst nodeCs_len el_22 sz_37 (by omega) (by omega)) ?_
      refine w_ld (.agg (nodeCs (nth b i))) (ld_lptr (ld_at nodeCs_len (by omega) (by omega) (by decide) (ld_agg sz_37 ag_37 rfl (show 8 ≤ 8 by decide)))) ?_
      try dsimp only [setD, List.set]
      refine w_cs _ (boolP (decide ((nth a i) = (nth b i)))) rfl (cl_cons (cl_agg (cl_nodeCs ..)) (cl_cons (cl_agg (cl_nodeCs ..)) (cl_nil _))) (run_cordwoodref09_Same (nth a i) (nth b i) (by first | assumption | exact wf_nth (by assumption) (by omega) (by omega))) rfl (fun H => calm_s H _) ?_
      refine w_un (boolP (!(decide ((nth a i) = (nth b i))))) rfl ?_
      try dsimp only [setD, List.set]
      refine w_nil ?_
      refine un_n ?_
      refine w_if (!(decide ((nth a i) = (nth b i)))) rfl (fun h5 => ?_) (fun h5 => ?_)
      · have h5' := nb1 h5
        have h5'_ := of_decide_eq_false h5'
        refine w_seq ?_
        refine w_reg ?_
        refine w_as (boolP false) rfl ?_
        try dsimp only [setD, List.set]
        refine w_nil ?_
        refine un_n ?_
        refine w_ret ?_
        refine un_r ?_
        refine un_r ?_
        refine un_r ?_
        refine ⟨.inr rfl, [(boolP false)], [(boolP false)], rfl, rfl, ?_⟩
        refine congrArg boolP (?_ : false = (decide (a = b)))
        first | (exfalso; omega) | (first | exact (decide_eq_true (eq_all (by omega) (fun j hj => hall j (by omega)))).symm | exact (decide_eq_false (by rintro rfl; first | omega | (simp_all; done))).symm)
      · have h5' := nb0 h5
        have h5'_ := of_decide_eq_true h5'
        refine w_skip ?_
        refine un_n ?_
        refine w_reg ?_
        refine w_mv (i64P i) rfl ?_
        refine w_bin (i64P (i + 1)) (b_add rfl rfl (by omega) (by omega)) ?_
        refine w_as (i64P (i + 1)) rfl ?_
        try dsimp only [setD, List.set]
        refine w_nil ?_
        exact un_n ⟨_, (by omega), (i + 1), _, _, _, _, _, _, _, _, _, _, _, _, _, _, _, _, _, rfl, (own_nil _), rfl, (by omega), (by omega), (eq_next (by simp_all) hall)⟩
    · have h4_ := of_decide_eq_false h4
      refine w_exit ?_
      refine un_e ?_
      refine un_e ?_
      refine un_n ?_
      refine w_seq ?_
      refine w_reg ?_
      refine w_as (boolP true) rfl ?_
      try dsimp only [setD, List.set]
      refine w_nil ?_
      refine un_n ?_
      refine w_ret ?_
      refine ⟨.inr rfl, [(boolP true)], [(boolP true)], rfl, rfl, ?_⟩
      refine congrArg boolP (?_ : true = (decide (a = b)))
      first | (exfalso; omega) | (first | exact (decide_eq_true (eq_all (by omega) (fun j hj => hall j (by omega)))).symm | exact (decide_eq_false (by rintro rfl; first | omega | (simp_all; done))).symm)
theorem run_cordwoodref07_Few (l : Leaf) : Run C0 74 [(.agg (leafCs l))] (boolP (fewLeaf l)) := by
  refine run_fn (C := C0) (c := _) [(.agg (leafCs l)), undefP, undefP, undefP, undefP, undefP, undefP, undefP, undefP, undefP, undefP, undefP, undefP, undefP, undefP] Tryz.func74 rfl rfl rfl rfl ?_
  have ho := own_nil []
  refine w_seq ?_
  refine w_reg ?_
  refine w_box ho (leafCs l) rfl (isC_leaf _) (fun _ r1 ho2 => ?_)
  refine w_as (boolP false) rfl ?_
  try dsimp only [setD, List.set]
  refine w_nil ?_
  refine un_n ?_
  refine w_seq ?_
  refine w_reg ?_
  refine w_fa (.ptr r1 0) (fa_ptr fd_25_0 sz_23 (by decide)) ?_
  refine w_ld (octP l.enc) (ld_var ho2 0 rfl (ld_one sz_23 ag_23 rfl)) ?_
  refine w_lenC _ _ _ (l.enc.length : Int) (by rw [el_23]; rfl) rfl rfl ?_
  refine w_fa (.ptr r1 1) (fa_ptr fd_25_1 sz_23 (by decide)) ?_
  try dsimp only [setD, List.set]
  refine w_ld (octP l.cred) (ld_var ho2 0 rfl (ld_one sz_23 ag_23 rfl)) ?_
  refine w_lenC _ _ _ (l.cred.length : Int) (by rw [el_23]; rfl) rfl rfl ?_
  refine w_bin (i64P (IntKind.wrap .i64 ((l.enc.length : Int) + (l.cred.length : Int)))) rfl ?_
  refine w_fa (.ptr r1 3) (fa_ptr fd_25_3 sz_23 (by decide)) ?_
  try dsimp only [setD, List.set]
  refine w_ld (octP l.parent) (ld_var ho2 0 rfl (ld_one sz_23 ag_23 rfl)) ?_
  refine w_lenC _ _ _ (l.parent.length : Int) (by rw [el_23]; rfl) rfl rfl ?_
  refine w_bin (i64P (IntKind.wrap .i64 ((IntKind.wrap .i64 ((l.enc.length : Int) + (l.cred.length : Int))) + (l.parent.length : Int)))) rfl ?_
  refine w_bin (boolP (decide ((IntKind.wrap .i64 ((IntKind.wrap .i64 ((l.enc.length : Int) + (l.cred.length : Int))) + (l.parent.length : Int))) ≤ 1000))) rfl ?_
  try dsimp only [setD, List.set]
  refine w_as (boolP (decide ((IntKind.wrap .i64 ((IntKind.wrap .i64 ((l.enc.length : Int) + (l.cred.length : Int))) + (l.parent.length : Int))) ≤ 1000))) rfl ?_
  try dsimp only [setD, List.set]
  refine w_nil ?_
  refine un_n ?_
  refine w_ret ?_
  refine ⟨.inr rfl, [(boolP (decide ((IntKind.wrap .i64 ((IntKind.wrap .i64 ((l.enc.length : Int) + (l.cred.length : Int))) + (l.parent.length : Int))) ≤ 1000)))], [(boolP (decide ((IntKind.wrap .i64 ((IntKind.wrap .i64 ((l.enc.length : Int) + (l.cred.length : Int))) + (l.parent.length : Int))) ≤ 1000)))], rfl, rfl, ?_⟩
  refine congrArg boolP (?_ : (decide ((IntKind.wrap .i64 ((IntKind.wrap .i64 ((l.enc.length : Int) + (l.cred.length : Int))) + (l.parent.length : Int))) ≤ 1000)) = (fewLeaf l))
  first | (exfalso; omega) | (rfl)
theorem run_cordwoodref08_Few (n : Inner) : Run C0 75 [(.agg (innerCs n))] (boolP (fewInner n)) := by
  refine run_fn (C := C0) (c := _) [(.agg (innerCs n)), undefP, undefP, undefP, undefP, undefP, undefP, undefP, undefP, undefP, undefP, undefP, undefP, undefP, undefP] Tryz.func75 rfl rfl rfl rfl ?_
  have ho := own_nil []
  refine w_seq ?_
  refine w_reg ?_
  refine w_box ho (innerCs n) rfl (isC_inner _) (fun _ r1 ho2 => ?_)
  refine w_as (boolP false) rfl ?_
  try dsimp only [setD, List.set]
  refine w_nil ?_
  refine un_n ?_
  refine w_seq ?_
  refine w_reg ?_
  refine w_fa (.ptr r1 0) (fa_ptr fd_35_0 sz_23 (by decide)) ?_
  refine w_ld (octP n.enc) (ld_var ho2 0 rfl (ld_one sz_23 ag_23 rfl)) ?_
  refine w_lenC _ _ _ (n.enc.length : Int) (by rw [el_23]; rfl) rfl rfl ?_
  refine w_fa (.ptr r1 1) (fa_ptr fd_35_1 sz_23 (by decide)) ?_
  try dsimp only [setD, List.set]
  refine w_ld (octP n.hash) (ld_var ho2 0 rfl (ld_one sz_23 ag_23 rfl)) ?_
  refine w_lenC _ _ _ (n.hash.length : Int) (by rw [el_23]; rfl) rfl rfl ?_
  refine w_bin (i64P (IntKind.wrap .i64 ((n.enc.length : Int) + (n.hash.length : Int)))) rfl ?_
  refine w_fa (.ptr r1 2) (fa_ptr fd_35_2 sz_33 (by decide)) ?_
  try dsimp only [setD, List.set]
  refine w_ld (intsP n.unmerged) (ld_var ho2 0 rfl (ld_one sz_33 ag_33 rfl)) ?_
  refine w_lenC _ _ _ (n.unmerged.length : Int) (by rw [el_33]; rfl) rfl rfl ?_
  refine w_bin (i64P (IntKind.wrap .i64 ((IntKind.wrap .i64 ((n.enc.length : Int) + (n.hash.length : Int))) + (n.unmerged.length : Int)))) rfl ?_
  refine w_bin (boolP (decide ((IntKind.wrap .i64 ((IntKind.wrap .i64 ((n.enc.length : Int) + (n.hash.length : Int))) + (n.unmerged.length : Int))) ≤ 600))) rfl ?_
  try dsimp only [setD, List.set]
  refine w_as (boolP (decide ((IntKind.wrap .i64 ((IntKind.wrap .i64 ((n.enc.length : Int) + (n.hash.length : Int))) + (n.unmerged.length : Int))) ≤ 600))) rfl ?_
  try dsimp only [setD, List.set]
  refine w_nil ?_
  refine un_n ?_
  refine w_ret ?_
  refine ⟨.inr rfl, [(boolP (decide ((IntKind.wrap .i64 ((IntKind.wrap .i64 ((n.enc.length : Int) + (n.hash.length : Int))) + (n.unmerged.length : Int))) ≤ 600)))], [(boolP (decide ((IntKind.wrap .i64 ((IntKind.wrap .i64 ((n.enc.length : Int) + (n.hash.length : Int))) + (n.unmerged.length : Int))) ≤ 600)))], rfl, rfl, ?_⟩
  refine congrArg boolP (?_ : (decide ((IntKind.wrap .i64 ((IntKind.wrap .i64 ((n.enc.length : Int) + (n.hash.length : Int))) + (n.unmerged.length : Int))) ≤ 600)) = (fewInner n))
  first | (exfalso; omega) | (rfl)
theorem run_cordwoodref09_Few (n : Node) : Run C0 33 [(.agg (nodeCs n))] (boolP (fewNode n)) := by
  refine run_fn (C := C0) (c := _) [(.agg (nodeCs n)), undefP, undefP, undefP, undefP, undefP, undefP, undefP, undefP, undefP, undefP] Tryz.func33 rfl rfl rfl rfl ?_
  have ho := own_nil []
  refine w_seq ?_
  refine w_reg ?_
  refine w_box ho (nodeCs n) rfl (isC_node _) (fun _ r1 ho2 => ?_)
  refine w_as (boolP false) rfl ?_
  try dsimp only [setD, List.set]
  refine w_nil ?_
  refine un_n ?_
  refine w_seq ?_
  refine w_reg ?_
  refine w_fa (.ptr r1 1) (fa_ptr fd_37_1 sz_25 (by decide)) ?_
  refine w_ld (.agg (leafCs n.leaf)) (ld_var ho2 0 rfl (ld_agg sz_25 ag_25 rfl (show 4 ≤ 7 by decide))) ?_
  refine w_cs _ (boolP (fewLeaf n.leaf)) rfl (cl_cons (cl_agg (cl_leafCs ..)) (cl_nil _)) (run_cordwoodref07_Few n.leaf) rfl (fun H => calm_s H _) ?_
  refine w_mv (boolP (fewLeaf n.leaf)) rfl ?_
  try dsimp only [setD, List.set]
  rcases Bool.eq_false_or_eq_true (fewLeaf n.leaf) with h4 | h4
  · refine w_gd (dd := 6) rfl rfl h4 ?_
    refine w_fa (.ptr r1 5) (fa_ptr fd_37_2 sz_35 (by decide)) ?_
    refine w_gd (dd := 6) rfl rfl h4 ?_
    refine w_ld (.agg (innerCs n.inner)) (ld_var ho2 0 rfl (ld_agg sz_35 ag_35 rfl (show 3 ≤ 3 by decide))) ?_
    refine w_gd (dd := 6) rfl rfl h4 ?_
    refine w_cs _ (boolP (fewInner n.inner)) rfl (cl_cons (cl_agg (cl_innerCs ..)) (cl_nil _)) (run_cordwoodref08_Few n.inner) rfl (fun H => calm_s H _) ?_
    refine w_pk1 (boolP (fewInner n.inner)) rfl h4 rfl ?_
    try dsimp only [setD, List.set]
    refine w_as (boolP (fewInner n.inner)) rfl ?_
    try dsimp only [setD, List.set]
    refine w_nil ?_
    refine un_n ?_
    refine w_ret ?_
    refine ⟨.inr rfl, [(boolP (fewInner n.inner))], [(boolP (fewInner n.inner))], rfl, rfl, ?_⟩
    refine congrArg boolP (?_ : (fewInner n.inner) = (fewNode n))
    first | (exfalso; omega) | (first | rfl | (simp_all [fewNode]; done) | (simp_all [fewNode]; omega))
  · refine w_gn (dd := 6) rfl rfl h4 ?_
    refine w_gn (dd := 6) rfl rfl h4 ?_
    refine w_gn (dd := 6) rfl rfl h4 ?_
    refine w_pk0 (boolP false) rfl h4 rfl ?_
    try dsimp only [setD, List.set]
    refine w_as (boolP false) rfl ?_
    try dsimp only [setD, List.set]
    refine w_nil ?_
    refine un_n ?_
    refine w_ret ?_
    refine ⟨.inr rfl, [(boolP false)], [(boolP false)], rfl, rfl, ?_⟩
    refine congrArg boolP (?_ : false = (fewNode n))
    first | (exfalso; omega) | (first | rfl | (simp_all [fewNode]; done) | (simp_all [fewNode]; omega))
theorem all_next {α : Type} [Inhabited α] {p : α → Bool} {l : List α} {i : Int} (h : p (nth l i) = true) (h2 : ∀ j (hj : j < l.length), (j : Int) < i → p l[j] = true) : ∀ j (hj : j < l.length), (j : Int) < i + 1 → p l[j] = true := by
  intro j hj hji
  by_cases he : (j : Int) = i
  · rw [← he, nth_get hj] at h; exact h
  · exact h2 j hj (by omega)
theorem all_of {α : Type} {p : α → Bool} {l : List α} {i : Int} (h : ¬ i < (l.length : Int)) (h2 : ∀ j (hj : j < l.length), (j : Int) < i → p l[j] = true) : l.all p = true := by
  rw [List.all_eq_true]
  intro x hx
  obtain ⟨j, hj, rfl⟩ := List.getElem_of_mem hx
  exact h2 j hj (by omega)
theorem all_not {α : Type} [Inhabited α] {p : α → Bool} {l : List α} {i : Int} (h0 : 0 ≤ i) (h1 : i < (l.length : Int)) (h : p (nth l i) = false) : l.all p = false := by
  rw [Bool.eq_false_iff]
  intro h2
  rw [List.all_eq_true.1 h2 _ (nth_mem h0 h1)] at h
  cases h
theorem run_cordwoodref10_Few (t : List Node) (ht : (t.length : Int) ≤ 9223372036854775807) : Run C0 11 [(nodesP t)] (boolP (few t)) := by
  refine run_fn (C := C0) (c := _) [(nodesP t), undefP, undefP, undefP, undefP, undefP, undefP, undefP, undefP, undefP, undefP, undefP, undefP, undefP, undefP, undefP, undefP, undefP, undefP] Tryz.func11 rfl rfl rfl rfl ?_
  have ho := own_nil []
  refine w_seq ?_
  refine w_reg ?_
  refine w_as (boolP false) rfl ?_
  try dsimp only [setD, List.set]
  refine w_nil ?_
  refine un_n ?_
  refine w_seq ?_
  refine w_seq ?_
  refine w_reg ?_
  refine w_as (i64P 0) rfl ?_
  try dsimp only [setD, List.set]
  refine w_nil ?_
  refine un_n ?_
  refine w_block ?_
  refine w_loop (fun n g H => ∃ (i : Int) (j2 : PV) (j4 : PV) (j5 : PV) (j6 : PV) (j7 : PV) (j8 : PV) (j9 : PV) (j10 : PV) (j11 : PV) (j12 : PV) (j13 : PV) (j14 : PV) (j15 : PV), g = [(nodesP t), undefP, j2, (i64P i), j4, j5, j6, j7, j8, j9, j10, j11, j12, j13, j14, j15, undefP, undefP, undefP] ∧ Own H [] ∧ n = ((t.length : Int) - i).toNat ∧ (0 ≤ i) ∧ (i ≤ (t.length : Int)) ∧ (∀ j (hj : j < t.length), (j : Int) < i → fewNode t[j] = true)) ⟨0, _, _, _, _, _, _, _, _, _, _, _, _, _, rfl, (own_nil _), rfl, (by omega), (by omega), (fun j hj hji => by omega)⟩ ?_
  rintro m2 _ H ⟨i, j2, j4, j5, j6, j7, j8, j9, j10, j11, j12, j13, j14, j15, rfl, ho1, em2, h0, hi, hall⟩
  refine w_seq ?_
  refine w_seq ?_
  refine w_reg ?_
  refine w_mv (i64P i) rfl ?_
  refine w_mv (nodesP t) rfl ?_
  refine w_lenC _ _ _ (t.length : Int) (by rw [el_22]; rfl) rfl rfl ?_
  refine w_bin (boolP (decide (i < (t.length : Int)))) rfl ?_
  try dsimp only [setD, List.set]
  refine w_nil ?_
  refine un_n ?_
  refine w_if (decide (i < (t.length : Int))) rfl (fun h3 => ?_) (fun h3 => ?_)
  · have h3_ := of_decide_eq_true h3
    refine w_skip ?_
    refine un_n ?_
    refine w_seq ?_
    refine w_block ?_
    refine w_seq ?_
    refine w_reg ?_
    refine w_mv (nodesP t) rfl ?_
    refine w_mv (i64P i) rfl ?_
    refine w_ia (.lptr 37 (atF nodeCs 8 t i 0)) (ix_lst nodeCs_len el_22 sz_37 (by omega) (by omega)) ?_
    refine w_ld (.agg (nodeCs (nth t i))) (ld_lptr (ld_at nodeCs_len (by omega) (by omega) (by decide) (ld_agg sz_37 ag_37 rfl (show 8 ≤ 8 by decide)))) ?_
    try dsimp only [setD, List.set]
    refine w_cs _ (boolP (fewNode (nth t i))) rfl (cl_cons (cl_agg (cl_nodeCs ..)) (cl_nil _)) (run_cordwoodref09_Few (nth t i)) rfl (fun H => calm_s H _) ?_
    refine w_un (boolP (!(fewNode (nth t i)))) rfl ?_
    try dsimp only [setD, List.set]
    refine w_nil ?_
    refine un_n ?_
    refine w_if (!(fewNode (nth t i))) rfl (fun h4 => ?_) (fun h4 => ?_)
    · have h4' := nb1 h4
      refine w_seq ?_
      refine w_reg ?_
      refine w_as (boolP false) rfl ?_
      try dsimp only [setD, List.set]
      refine w_nil ?_
      refine un_n ?_
      refine w_ret ?_
      refine un_r ?_
      refine un_r ?_
      refine un_r ?_
      refine ⟨.inr rfl, [(boolP false)], [(boolP false)], rfl, rfl, ?_⟩
      refine congrArg boolP (?_ : false = (few t))
      first | (exfalso; omega) | (unfold few; first | (rw [all_not (by assumption) (by assumption) (by assumption)]; rfl) | (rw [all_of (by assumption) hall]; simp; omega) | (rw [all_of (by assumption) hall]; simp))
    · have h4' := nb0 h4
      refine w_skip ?_
      refine un_n ?_
      refine w_reg ?_
      refine w_mv (i64P i) rfl ?_
      refine w_bin (i64P (i + 1)) (b_add rfl rfl (by omega) (by omega)) ?_
      refine w_as (i64P (i + 1)) rfl ?_
      try dsimp only [setD, List.set]
      refine w_nil ?_
      exact un_n ⟨_, (by omega), (i + 1), _, _, _, _, _, _, _, _, _, _, _, _, _, rfl, (own_nil _), rfl, (by omega), (by omega), (all_next (by assumption) hall)⟩
  · have h3_ := of_decide_eq_false h3
    refine w_exit ?_
    refine un_e ?_
    refine un_e ?_
    refine un_n ?_
    refine w_seq ?_
    refine w_reg ?_
    refine w_mv (nodesP t) rfl ?_
    refine w_lenC _ _ _ (t.length : Int) (by rw [el_22]; rfl) rfl rfl ?_
    refine w_bin (boolP (decide ((t.length : Int) ≤ 300))) rfl ?_
    refine w_as (boolP (decide ((t.length : Int) ≤ 300))) rfl ?_
    try dsimp only [setD, List.set]
    refine w_nil ?_
    refine un_n ?_
    refine w_ret ?_
    refine ⟨.inr rfl, [(boolP (decide ((t.length : Int) ≤ 300)))], [(boolP (decide ((t.length : Int) ≤ 300)))], rfl, rfl, ?_⟩
    refine congrArg boolP (?_ : (decide ((t.length : Int) ≤ 300)) = (few t))
    first | (exfalso; omega) | (unfold few; first | (rw [all_not (by assumption) (by assumption) (by assumption)]; rfl) | (rw [all_of (by assumption) hall]; simp; omega) | (rw [all_of (by assumption) hall]; simp))
theorem run_whole_out (w : Int) (hw : w ≤ 0 ∨ 127 < w) : Run C0 36 [(i64P w)] (boolP (whole w)) := by
  refine run_fn (C := C0) (c := _) [(i64P w), undefP, undefP, undefP, undefP, undefP, undefP, undefP, undefP, undefP, undefP, undefP, undefP, undefP, undefP, undefP] Tryz.func36 rfl rfl rfl rfl ?_
  have ho := own_nil []
  refine w_seq ?_
  refine w_reg ?_
  refine w_as (boolP false) rfl ?_
  try dsimp only [setD, List.set]
  refine w_nil ?_
  refine un_n ?_
  refine w_seq ?_
  refine w_reg ?_
  refine w_mv (i64P w) rfl ?_
  refine w_bin (boolP (decide (w > 0))) rfl ?_
  refine w_mv (boolP (decide (w > 0))) rfl ?_
  rcases Bool.eq_false_or_eq_true (decide (w > 0)) with h1 | h1
  · have h1_ := of_decide_eq_true h1
    refine w_gd (dd := 5) rfl rfl h1 ?_
    refine w_mv (i64P w) rfl ?_
    try dsimp only [setD, List.set]
    refine w_gd (dd := 5) rfl rfl h1 ?_
    refine w_bin (boolP (decide (w ≤ 127))) rfl ?_
    refine w_pk1 (boolP (decide (w ≤ 127))) rfl h1 rfl ?_
    refine w_mv (boolP (decide (w ≤ 127))) rfl ?_
    rcases Bool.eq_false_or_eq_true (decide (w ≤ 127)) with h2 | h2
    · have h2_ := of_decide_eq_true h2
      refine w_gd (dd := 9) rfl rfl h2 ?_
      refine w_mv (i64P w) rfl ?_
      try dsimp only [setD, List.set]
      refine w_gd (dd := 9) rfl rfl h2 ?_
      refine w_mv (i64P w) rfl ?_
      refine w_gd (dd := 9) rfl rfl h2 ?_
      refine w_bin (i64P (w + 1)) (b_add rfl rfl (by omega) (by omega)) ?_
      refine w_gd (dd := 9) rfl rfl h2 ?_
      refine w_bin (i64P (IntKind.wrap .i64 (((BitVec.ofInt (IntKind.bits .i64) w) &&& (BitVec.ofInt (IntKind.bits .i64) (w + 1))).toNat : Nat))) rfl ?_
      refine w_gd (dd := 9) rfl rfl h2 ?_
      refine w_bin (boolP (decide ((IntKind.wrap .i64 (((BitVec.ofInt (IntKind.bits .i64) w) &&& (BitVec.ofInt (IntKind.bits .i64) (w + 1))).toNat : Nat)) = 0))) rfl ?_
      try dsimp only [setD, List.set]
      refine w_pk1 (boolP (decide ((IntKind.wrap .i64 (((BitVec.ofInt (IntKind.bits .i64) w) &&& (BitVec.ofInt (IntKind.bits .i64) (w + 1))).toNat : Nat)) = 0))) rfl h2 rfl ?_
      refine w_as (boolP (decide ((IntKind.wrap .i64 (((BitVec.ofInt (IntKind.bits .i64) w) &&& (BitVec.ofInt (IntKind.bits .i64) (w + 1))).toNat : Nat)) = 0))) rfl ?_
      try dsimp only [setD, List.set]
      refine w_nil ?_
      refine un_n ?_
      refine w_ret ?_
      refine ⟨.inr rfl, [(boolP (decide ((IntKind.wrap .i64 (((BitVec.ofInt (IntKind.bits .i64) w) &&& (BitVec.ofInt (IntKind.bits .i64) (w + 1))).toNat : Nat)) = 0)))], [(boolP (decide ((IntKind.wrap .i64 (((BitVec.ofInt (IntKind.bits .i64) w) &&& (BitVec.ofInt (IntKind.bits .i64) (w + 1))).toNat : Nat)) = 0)))], rfl, rfl, ?_⟩
      refine congrArg boolP (?_ : (decide ((IntKind.wrap .i64 (((BitVec.ofInt (IntKind.bits .i64) w) &&& (BitVec.ofInt (IntKind.bits .i64) (w + 1))).toNat : Nat)) = 0)) = (whole w))
      first | (exfalso; omega) | (first | (exfalso; omega) | (unfold whole; symm; simp; omega))
    · have h2_ := of_decide_eq_false h2
      refine w_gn (dd := 9) rfl rfl h2 ?_
      try dsimp only [setD, List.set]
      refine w_gn (dd := 9) rfl rfl h2 ?_
      refine w_gn (dd := 9) rfl rfl h2 ?_
      refine w_gn (dd := 9) rfl rfl h2 ?_
      refine w_gn (dd := 9) rfl rfl h2 ?_
      try dsimp only [setD, List.set]
      refine w_pk0 (boolP false) rfl h2 rfl ?_
      refine w_as (boolP false) rfl ?_
      try dsimp only [setD, List.set]
      refine w_nil ?_
      refine un_n ?_
      refine w_ret ?_
      refine ⟨.inr rfl, [(boolP false)], [(boolP false)], rfl, rfl, ?_⟩
      refine congrArg boolP (?_ : false = (whole w))
      first | (exfalso; omega) | (first | (exfalso; omega) | (unfold whole; symm; simp; omega))
  · have h1_ := of_decide_eq_false h1
    refine w_gn (dd := 5) rfl rfl h1 ?_
    try dsimp only [setD, List.set]
    refine w_gn (dd := 5) rfl rfl h1 ?_
    refine w_pk0 (boolP false) rfl h1 rfl ?_
    refine w_mv (boolP false) rfl ?_
    refine w_gn (dd := 9) rfl rfl rfl ?_
    try dsimp only [setD, List.set]
    refine w_gn (dd := 9) rfl rfl rfl ?_
    refine w_gn (dd := 9) rfl rfl rfl ?_
    refine w_gn (dd := 9) rfl rfl rfl ?_
    refine w_gn (dd := 9) rfl rfl rfl ?_
    try dsimp only [setD, List.set]
    refine w_pk0 (boolP false) rfl rfl rfl ?_
    refine w_as (boolP false) rfl ?_
    try dsimp only [setD, List.set]
    refine w_nil ?_
    refine un_n ?_
    refine w_ret ?_
    refine ⟨.inr rfl, [(boolP false)], [(boolP false)], rfl, rfl, ?_⟩
    refine congrArg boolP (?_ : false = (whole w))
    first | (exfalso; omega) | (first | (exfalso; omega) | (unfold whole; symm; simp; omega))
noncomputable def wholeT : Bool := (List.range 128).all fun (w : Nat) => isBool (pcall C0 (run C0 60) 36 [i64P w]) (whole w)
set_option maxRecDepth 100000 in
theorem whole_t : wholeT = true := by kernel_rfl
theorem run_whole (w : Int) : Run C0 36 [i64P w] (boolP (whole w)) := by
  by_cases h : w ≤ 0 ∨ 127 < w
  · exact run_whole_out w h
  · have hw : w = (w.toNat : Int) := by omega
    have := List.all_eq_true.1 whole_t w.toNat (List.mem_range.2 (by omega))
    rw [← hw] at this
    exact of_isBool this
theorem sane_not {t : List Node} {i : Int} (h0 : 0 ≤ i) (h1 : i < (t.length : Int)) (h : okAt i (nth t i) = false) : sane t = false := by
  unfold sane
  have : ((List.range t.length).all fun i => okAt i (t.getD i default)) = false := by
    rw [Bool.eq_false_iff]
    intro h2
    have := List.all_eq_true.1 h2 i.toNat (List.mem_range.2 (by omega))
    rw [show ((i.toNat : Nat) : Int) = i from by omega] at this
    unfold nth at h
    rw [this] at h
    cases h
  rw [this]; rfl
theorem sane_at {t : List Node} {i : Int} (h0 : ¬ i < (t.length : Int)) (h : ∀ j : Nat, (j : Int) < i → okAt j (nth t j) = true) : sane t = (decide (t.length = 0) || whole t.length) := by
  unfold sane
  have : ((List.range t.length).all fun i => okAt i (t.getD i default)) = true := by
    rw [List.all_eq_true]
    intro j hj
    have := h j (by have := List.mem_range.1 hj; omega)
    rwa [nth_nat] at this
  rw [this, Bool.true_and]
theorem ok_next {t : List Node} {i : Int} (h : okAt i (nth t i) = true) (h2 : ∀ j : Nat, (j : Int) < i → okAt j (nth t j) = true) : ∀ j : Nat, (j : Int) < i + 1 → okAt j (nth t j) = true := by
  intro j hj
  by_cases he : (j : Int) = i
  · rw [he]; exact h
  · exact h2 j (by omega)
theorem run_shape_Sane (t : List Node) (ht : WfT t) : Run C0 12 [(nodesP t)] (boolP (sane t)) := by
  have hlt := ht.1
  refine run_fn (C := C0) (c := _) [(nodesP t), undefP, undefP, undefP, undefP, undefP, undefP, undefP, undefP, undefP, undefP, undefP, undefP, undefP, undefP, undefP, undefP, undefP, undefP, undefP, undefP, undefP, undefP, undefP, undefP, undefP, undefP, undefP, undefP, undefP, undefP] Tryz.func12 rfl rfl rfl rfl ?_
  have ho := own_nil []
  refine w_seq ?_
  refine w_reg ?_
  refine w_as (boolP false) rfl ?_
  try dsimp only [setD, List.set]
  refine w_nil ?_
  refine un_n ?_
  refine w_seq ?_
  refine w_seq ?_
  refine w_reg ?_
  refine w_mv (nodesP t) rfl ?_
  refine w_lenC _ _ _ (t.length : Int) (by rw [el_22]; rfl) rfl rfl ?_
  refine w_mv (i64P 0) rfl ?_
  try dsimp only [setD, List.set]
  refine w_nil ?_
  refine un_n ?_
  refine w_block ?_
  refine w_loop (fun n g H => ∃ (i : Int) (j2 : PV) (j3 : PV) (j4 : PV) (j8 : PV) (j9 : PV) (j10 : PV) (j11 : PV) (j12 : PV) (j13 : PV) (j14 : PV) (j15 : PV) (j16 : PV) (j17 : PV) (j18 : PV) (j19 : PV) (j20 : PV) (j21 : PV) (j22 : PV), g = [(nodesP t), undefP, j2, j3, j4, (nodesP t), (i64P (t.length : Int)), (i64P i), j8, j9, j10, j11, j12, j13, j14, j15, j16, j17, j18, j19, j20, j21, j22, undefP, undefP, undefP, undefP, undefP, undefP, undefP, undefP] ∧ Own H [] ∧ n = ((t.length : Int) - i).toNat ∧ (0 ≤ i) ∧ (i ≤ (t.length : Int)) ∧ (∀ j : Nat, (j : Int) < i → okAt j (nth t j) = true)) ⟨0, _, _, _, _, _, _, _, _, _, _, _, _, _, _, _, _, _, _, rfl, (own_nil _), rfl, (by omega), (by omega), (fun j hj => by omega)⟩ ?_
  rintro m2 _ H ⟨i, j2, j3, j4, j8, j9, j10, j11, j12, j13, j14, j15, j16, j17, j18, j19, j20, j21, j22, rfl, ho1, em2, h0, hi, hall⟩
  refine w_seq ?_
  refine w_reg ?_
  refine w_bin (boolP (decide (i < (t.length : Int)))) rfl ?_
  try dsimp only [setD, List.set]
  refine w_nil ?_
  refine un_n ?_
  refine w_seq ?_
  refine w_if (decide (i < (t.length : Int))) rfl (fun h3 => ?_) (fun h3 => ?_)
  · have h3_ := of_decide_eq_true h3
    refine w_skip ?_
    refine un_n ?_
    refine w_seq ?_
    refine w_block ?_
    refine w_seq ?_
    refine w_reg ?_
    refine w_mv (i64P i) rfl ?_
    refine w_ia (.lptr 37 (atF nodeCs 8 t i 0)) (ix_lst nodeCs_len el_22 sz_37 (by omega) (by omega)) ?_
    refine w_ld (.agg (nodeCs (nth t i))) (ld_lptr (ld_at nodeCs_len (by omega) (by omega) (by decide) (ld_agg sz_37 ag_37 rfl (show 8 ≤ 8 by decide)))) ?_
    refine w_alloc ho1 [(i64P 0), nilS, nilS, (i64P 0), nilS, nilS, nilS, nilS] zp_37 (fun _ r4 ho5 => ?_)
    try dsimp only [setD, List.set]
    refine w_as (i64P i) rfl ?_
    refine w_stv ho5 0 (.agg (nodeCs (nth t i))) (nodeCs (nth t i)) [((.ptr r4 0), .cells 37 (nodeCs (nth t i)) none false)] rfl rfl rfl sz_37 rfl rfl (by decide) (isC_node _) (show 8 ≤ 8 by decide) rfl rfl (fun _ ho7 => ?_)
    try dsimp only [setD, List.set]
    refine w_nil ?_
    refine un_n ?_
    refine w_seq ?_
    refine w_reg ?_
    refine w_mv (i64P i) rfl ?_
    refine w_fa (.ptr r4 0) (fa_ptr fd_37_0 sz_3 (by decide)) ?_
    refine w_ld (i64P ((nth t i).kind)) (ld_var ho7 0 rfl (ld_one sz_3 ag_3 rfl)) ?_
    refine w_cs _ (boolP (fits i ((nth t i).kind))) rfl (cl_cons (cl_i64 ..) (cl_cons (cl_i64 ..) (cl_nil _))) (run_shape_fits i ((nth t i).kind) (by omega)) rfl (fun H => calm_s H _) ?_
    try dsimp only [setD, List.set]
    refine w_un (boolP (!(fits i ((nth t i).kind)))) rfl ?_
    refine w_mv (boolP (!(fits i ((nth t i).kind)))) rfl ?_
    rcases Bool.eq_false_or_eq_true (!(fits i ((nth t i).kind))) with h8 | h8
    · have h8' := nb1 h8
      refine w_gn (dd := 17) rfl rfl h8 ?_
      refine w_gn (dd := 17) rfl rfl h8 ?_
      try dsimp only [setD, List.set]
      refine w_gn (dd := 17) rfl rfl h8 ?_
      refine w_pk1 (boolP true) rfl h8 rfl ?_
      try dsimp only [setD, List.set]
      refine w_nil ?_
      refine un_n ?_
      refine w_if1 rfl rfl ?_
      refine w_seq ?_
      refine w_reg ?_
      refine w_as (boolP false) rfl ?_
      try dsimp only [setD, List.set]
      refine w_nil ?_
      refine un_n ?_
      refine w_ret ?_
      refine un_r ?_
      refine un_r ?_
      refine un_r ?_
      refine ⟨.inr rfl, [(boolP false)], [(boolP false)], rfl, rfl, ?_⟩
      refine congrArg boolP (?_ : false = (sane t))
      first | (exfalso; omega) | (first | exact (sane_not (i := i) (by assumption) (by assumption) (by unfold okAt; simp_all)).symm | (rw [sane_at (i := i) (by assumption) hall]; simp_all) | (rw [sane_at (i := i) (by assumption) hall]; simp_all; omega))
    · have h8' := nb0 h8
      refine w_gd (dd := 17) rfl rfl h8 ?_
      refine w_ld (.agg (nodeCs (nth t i))) (ld_var ho7 0 rfl (ld_agg sz_37 ag_37 rfl (show 8 ≤ 8 by decide))) ?_
      refine w_gd (dd := 17) rfl rfl h8 ?_
      refine w_cs _ (i64P (nodeCheck (nth t i))) rfl (cl_cons (cl_agg (cl_nodeCs ..)) (cl_nil _)) (run_node_Check (nth t i) (by first | assumption | exact wf_nth (by assumption) (by omega) (by omega))) rfl (fun H => calm_s H _) ?_
      try dsimp only [setD, List.set]
      refine w_gd (dd := 17) rfl rfl h8 ?_
      refine w_bin (boolP (!(decide ((nodeCheck (nth t i)) = 0)))) rfl ?_
      refine w_pk0 (boolP (!(decide ((nodeCheck (nth t i)) = 0)))) rfl h8 rfl ?_
      try dsimp only [setD, List.set]
      refine w_nil ?_
      refine un_n ?_
      refine w_if (!(decide ((nodeCheck (nth t i)) = 0))) rfl (fun h9 => ?_) (fun h9 => ?_)
      · have h9' := nb1 h9
        have h9'_ := of_decide_eq_false h9'
        refine w_seq ?_
        refine w_reg ?_
        refine w_as (boolP false) rfl ?_
        try dsimp only [setD, List.set]
        refine w_nil ?_
        refine un_n ?_
        refine w_ret ?_
        refine un_r ?_
        refine un_r ?_
        refine un_r ?_
        refine ⟨.inr rfl, [(boolP false)], [(boolP false)], rfl, rfl, ?_⟩
        refine congrArg boolP (?_ : false = (sane t))
        first | (exfalso; omega) | (first | exact (sane_not (i := i) (by assumption) (by assumption) (by unfold okAt; simp_all)).symm | (rw [sane_at (i := i) (by assumption) hall]; simp_all) | (rw [sane_at (i := i) (by assumption) hall]; simp_all; omega))
      · have h9' := nb0 h9
        have h9'_ := of_decide_eq_true h9'
        refine w_skip ?_
        refine un_n ?_
        refine w_reg ?_
        refine w_bin (i64P (i + 1)) (b_add rfl rfl (by omega) (by omega)) ?_
        refine w_mv (i64P (i + 1)) rfl ?_
        try dsimp only [setD, List.set]
        refine w_nil ?_
        exact un_n ⟨_, (by omega), (i + 1), _, _, _, _, _, _, _, _, _, _, _, _, _, _, _, _, _, _, rfl, (own_nil _), rfl, (by omega), (by omega), (ok_next (by unfold okAt; simp_all) hall)⟩
  · have h3_ := of_decide_eq_false h3
    refine w_exit ?_
    refine un_e ?_
    refine un_e ?_
    refine un_n ?_
    refine w_seq ?_
    refine w_reg ?_
    refine w_mv (nodesP t) rfl ?_
    refine w_lenC _ _ _ (t.length : Int) (by rw [el_22]; rfl) rfl rfl ?_
    refine w_bin (boolP (decide ((t.length : Int) = 0))) rfl ?_
    refine w_mv (boolP (decide ((t.length : Int) = 0))) rfl ?_
    try dsimp only [setD, List.set]
    rcases Bool.eq_false_or_eq_true (decide ((t.length : Int) = 0)) with h10 | h10
    · have h10_ := of_decide_eq_true h10
      refine w_gn (dd := 26) rfl rfl h10 ?_
      refine w_gn (dd := 26) rfl rfl h10 ?_
      refine w_gn (dd := 26) rfl rfl h10 ?_
      refine w_pk1 (boolP true) rfl h10 rfl ?_
      try dsimp only [setD, List.set]
      refine w_as (boolP true) rfl ?_
      try dsimp only [setD, List.set]
      refine w_nil ?_
      refine un_n ?_
      refine w_ret ?_
      refine ⟨.inr rfl, [(boolP true)], [(boolP true)], rfl, rfl, ?_⟩
      refine congrArg boolP (?_ : true = (sane t))
      first | (exfalso; omega) | (first | exact (sane_not (i := i) (by assumption) (by assumption) (by unfold okAt; simp_all)).symm | (rw [sane_at (i := i) (by assumption) hall]; simp_all) | (rw [sane_at (i := i) (by assumption) hall]; simp_all; omega))
    · have h10_ := of_decide_eq_false h10
      refine w_gd (dd := 26) rfl rfl h10 ?_
      refine w_mv (nodesP t) rfl ?_
      refine w_gd (dd := 26) rfl rfl h10 ?_
      refine w_lenC _ _ _ (t.length : Int) (by rw [el_22]; rfl) rfl rfl ?_
      refine w_gd (dd := 26) rfl rfl h10 ?_
      refine w_cs _ (boolP (whole (t.length : Int))) rfl (cl_cons (cl_i64 ..) (cl_nil _)) (run_whole (t.length : Int)) rfl (fun H => calm_s H _) ?_
      refine w_pk0 (boolP (whole (t.length : Int))) rfl h10 rfl ?_
      try dsimp only [setD, List.set]
      refine w_as (boolP (whole (t.length : Int))) rfl ?_
      try dsimp only [setD, List.set]
      refine w_nil ?_
      refine un_n ?_
      refine w_ret ?_
      refine ⟨.inr rfl, [(boolP (whole (t.length : Int)))], [(boolP (whole (t.length : Int)))], rfl, rfl, ?_⟩
      refine congrArg boolP (?_ : (whole (t.length : Int)) = (sane t))
      first | (exfalso; omega) | (first | exact (sane_not (i := i) (by assumption) (by assumption) (by unfold okAt; simp_all)).symm | (rw [sane_at (i := i) (by assumption) hall]; simp_all) | (rw [sane_at (i := i) (by assumption) hall]; simp_all; omega))
end Go.Proofs.YtkkdkhacligaoaaGreatDoor.law
