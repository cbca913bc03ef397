/- Walks: what functions of the program come to, as the pure interpreter runs them. -/
import Derived.Test.YtkkdkhacligaoaaGreatDoorW11
set_option linter.unusedSimpArgs false
set_option linter.unusedVariables false
namespace Go.Proofs.YtkkdkhacligaoaaGreatDoor.law
open Go.PI
/-! ### A leaf less -/
def removeE (t : List Node) (i : Int) : Int := haveE (tree t) i
def removeK (t : List Node) (i : Int) : Bool := decide (haveE (tree t) i = 0) && trimK (clearL (tree t) i)
def removeT (t : List Node) (i : Int) : List Node := if removeK t i then trimN (clearL (tree t) i) else []
theorem wf_clear {t : List Node} (h : WfT t) (i : Int) : WfT (clearL t i) := wf_clearAll h _
theorem removeK_one {t : List Node} {i : Int} (h : removeK t i = true) : haveE (tree t) i = 0 ∧ trimK (clearL (tree t) i) = true := by
  unfold removeK at h
  simpa using h
theorem removeK_no {t : List Node} {i : Int} (h : removeK t i = false) (h2 : haveE (tree t) i = 0) : trimK (clearL (tree t) i) = false := by
  unfold removeK at h
  simpa [h2] using h
theorem run_Remove_f1 (t : List Node) (i : Int) (ht : WfT t) (hs : sane t = true) (h0 : 0 ≤ i) (h1 : 2 * i < t.length) (hk : trimK (clearL t i) = true) : Run C0 43 [(nodesP t), (.lptr 3 [(i64P i)])] (.tup [nodesP (trimN (clearL t i)), i64P 0]) := by
  have hwc := wf_clear ht i
  refine run_fn (C := C0) (c := _) [(nodesP t), (.lptr 3 [(i64P i)]), undefP, undefP, undefP, undefP, undefP, undefP, undefP, undefP, undefP, undefP, undefP, undefP, undefP, undefP] Tryz.func43 rfl rfl rfl rfl ?_
  have ho := own_nil []
  refine w_seq ?_
  refine w_reg ?_
  refine w_as nilS rfl ?_
  refine w_as (i64P 0) rfl ?_
  try dsimp only [setD, List.set]
  refine w_nil ?_
  refine un_n ?_
  refine w_seq ?_
  refine w_reg ?_
  refine w_mv (nodesP t) rfl ?_
  refine w_ld (i64P i) (ld_lptr (ld_one sz_3 ag_3 rfl)) ?_
  refine w_cownt ho _ _ _ _ _ [(.int .i64 0)] [] rfl rfl (cl_cons (cl_nodes ..) (cl_cons (cl_i64 ..) (cl_nil _))) (run_Clear1 t i (by assumption) (by assumption) (by omega) (by omega)) sz_37 (by decide) (flat_len nodeCs_len _) sl_nil (fun _ r2 ho1 => ?_)
  rw [← rs_cells] at ho1
  refine w_mv (.tup [(.row r2 0 (clearL t i).length), (i64P 0)]) rfl ?_
  try dsimp only [setD, List.set]
  refine w_xt [(.row r2 0 (clearL t i).length), (i64P 0)] (.row r2 0 (clearL t i).length) rfl rfl ?_
  refine w_xt [(.row r2 0 (clearL t i).length), (i64P 0)] (i64P 0) rfl rfl ?_
  refine w_as (.row r2 0 (clearL t i).length) rfl ?_
  refine w_as (i64P 0) rfl ?_
  try dsimp only [setD, List.set]
  refine w_nil ?_
  refine un_n ?_
  refine w_seq ?_
  refine w_reg ?_
  refine w_mv (.row r2 0 (clearL t i).length) rfl ?_
  refine w_ccl ho1 _ (nodesP (trimN (clearL t i))) [((.row r2 0 (clearL t i).length), .cells 37 (((clearL t i).map Node.r).flatMap rCs) (some 8) (false || hasE 37 (nodesP (trimN (clearL t i)))))] rfl rfl (cl_cons (cl_rn0 ho1 0 rfl) (cl_nil _)) (run_Trim1 (clearL t i) (by first | assumption | exact wf_nil | exact wf_change (by assumption) _ _ | exact wf_change (wf_change (by assumption) _ _) _ _) hk) (rv_lst ..) (sl_cons rfl sl_nil) (fun _ ho4 => ?_)
  refine w_mv (i64P 0) rfl ?_
  refine w_as (nodesP (trimN (clearL t i))) rfl ?_
  try dsimp only [setD, List.set]
  refine w_as (i64P 0) rfl ?_
  try dsimp only [setD, List.set]
  refine w_nil ?_
  refine un_n ?_
  refine w_ret ?_
  refine ⟨.inr rfl, [(nodesP (trimN (clearL t i))), (i64P 0)], [(nodesP (trimN (clearL t i))), (i64P 0)], rfl, (ca_cons (cr_lst ..) (ca_cons (cr_i64 _) ca_nil)), ?_⟩
  first | (exfalso; omega) | (rfl)
theorem run_Remove_f0 (t : List Node) (i : Int) (ht : WfT t) (hs : sane t = true) (h0 : 0 ≤ i) (h1 : 2 * i < t.length) (hk : trimK (clearL t i) = false) : Run C0 43 [(nodesP t), (.lptr 3 [(i64P i)])] (.tup [ownNodes [], i64P 0]) := by
  have hwc := wf_clear ht i
  refine run_fn (C := C0) (c := _) [(nodesP t), (.lptr 3 [(i64P i)]), undefP, undefP, undefP, undefP, undefP, undefP, undefP, undefP, undefP, undefP, undefP, undefP, undefP, undefP] Tryz.func43 rfl rfl rfl rfl ?_
  have ho := own_nil []
  refine w_seq ?_
  refine w_reg ?_
  refine w_as nilS rfl ?_
  refine w_as (i64P 0) rfl ?_
  try dsimp only [setD, List.set]
  refine w_nil ?_
  refine un_n ?_
  refine w_seq ?_
  refine w_reg ?_
  refine w_mv (nodesP t) rfl ?_
  refine w_ld (i64P i) (ld_lptr (ld_one sz_3 ag_3 rfl)) ?_
  refine w_cownt ho _ _ _ _ _ [(.int .i64 0)] [] rfl rfl (cl_cons (cl_nodes ..) (cl_cons (cl_i64 ..) (cl_nil _))) (run_Clear1 t i (by assumption) (by assumption) (by omega) (by omega)) sz_37 (by decide) (flat_len nodeCs_len _) sl_nil (fun _ r2 ho1 => ?_)
  rw [← rs_cells] at ho1
  refine w_mv (.tup [(.row r2 0 (clearL t i).length), (i64P 0)]) rfl ?_
  try dsimp only [setD, List.set]
  refine w_xt [(.row r2 0 (clearL t i).length), (i64P 0)] (.row r2 0 (clearL t i).length) rfl rfl ?_
  refine w_xt [(.row r2 0 (clearL t i).length), (i64P 0)] (i64P 0) rfl rfl ?_
  refine w_as (.row r2 0 (clearL t i).length) rfl ?_
  refine w_as (i64P 0) rfl ?_
  try dsimp only [setD, List.set]
  refine w_nil ?_
  refine un_n ?_
  refine w_seq ?_
  refine w_reg ?_
  refine w_mv (.row r2 0 (clearL t i).length) rfl ?_
  refine w_cown ho1 _ _ _ _ _ [((.row r2 0 (clearL t i).length), .cells 37 (((clearL t i).map Node.r).flatMap rCs) (some 8) false)] rfl rfl (cl_cons (cl_rn0 ho1 0 rfl) (cl_nil _)) (run_Trim0 (clearL t i) (by first | assumption | exact wf_nil | exact wf_change (by assumption) _ _ | exact wf_change (wf_change (by assumption) _ _) _ _) hk) sz_37 (by decide) (flat_len nodeCs_len _) (sl_cons (so_cells (has_own (hasE_nodeCs (by decide) (by decide) (by decide) _))) sl_nil) (fun _ r5 ho4 => ?_)
  refine w_mv (i64P 0) rfl ?_
  refine w_as (.row r5 0 0) rfl ?_
  try dsimp only [setD, List.set]
  refine w_as (i64P 0) rfl ?_
  try dsimp only [setD, List.set]
  refine w_nil ?_
  refine un_n ?_
  refine w_ret ?_
  refine ⟨.inr rfl, [(.row r5 0 0), (i64P 0)], [(.own 37 0 ((([] : List RNode).map RNode.node).flatMap nodeCs)), (i64P 0)], rfl, (ca_cons (cr_own ho4 0 rfl (by decide) rfl el_22 sz_37 (offs_cons (off_i _ _) (offs_nil _)) (hasE_nodeCs (e := 37) (by decide) (by decide) (by decide) _) rfl) (ca_cons (cr_i64 _) ca_nil)), ?_⟩
  first | (exfalso; omega) | (rfl)
theorem run_on_remove11 (t : List Node) (i : Int) (l : Leaf) (ht : WfT t) (hs : sane t = true) (hk : removeK t i = true) : Run C0 45 [(.agg [(i64P 0), (.fn 43 [] [(.lptr 3 [(i64P i)])])]), (nodesP t), (i64P i), (.agg (leafCs l))] (.tup [nodesP (removeT t i), i64P 0]) := by
  have htt : tree t = t := by unfold tree; simp [hs]
  have hs_l := sane_len hs
  have hv := (removeK_one hk).1
  rw [htt] at hv
  have hrt : removeT t i = trimN (clearL t i) := by unfold removeT; rw [if_pos hk, htt]
  refine run_fn (C := C0) (c := _) [(.agg [(i64P 0), (.fn 43 [] [(.lptr 3 [(i64P i)])])]), (nodesP t), (i64P i), (.agg (leafCs l)), undefP, undefP, undefP, undefP, undefP, undefP, undefP, undefP, undefP, undefP, undefP, undefP, undefP, undefP, undefP, undefP, undefP, undefP, undefP, undefP, undefP, undefP, undefP, undefP, undefP, undefP, undefP, undefP, undefP, undefP, undefP, undefP, undefP, undefP, undefP, undefP, undefP, undefP, undefP, undefP, undefP, undefP, undefP, undefP, undefP, undefP, undefP, undefP, undefP, undefP, undefP, undefP, undefP, undefP, undefP, undefP, undefP] Tryz.func45 rfl rfl rfl rfl ?_
  have ho := own_nil []
  refine w_seq ?_
  refine w_reg ?_
  refine w_box ho [(i64P 0), (.fn 43 [] [(.lptr 3 [(i64P i)])])] rfl (isC_cons rfl (isC_cons rfl (isC_nil))) (fun _ r1 ho2 => ?_)
  refine w_box ho2 (leafCs l) rfl (isC_leaf _) (fun _ r4 ho5 => ?_)
  refine w_as nilS rfl ?_
  refine w_as (i64P 0) rfl ?_
  try dsimp only [setD, List.set]
  refine w_nil ?_
  refine un_n ?_
  refine w_seq ?_
  refine w_reg ?_
  refine w_mv (nodesP t) rfl ?_
  refine w_ccl ho5 _ (nodesP t) [((.ptr r4 0), .cells 25 (leafCs l) none false), ((.ptr r1 0), .cells 68 [(i64P 0), (.fn 43 [] [(.lptr 3 [(i64P i)])])] none false)] rfl rfl (cl_cons (cl_nodes ..) (cl_nil _)) (run_edit_known1 t (by first | assumption | exact wf_nil) hs) (rv_lst ..) (sl_cons (so_cells (hasE_nodes (by decide) (by decide) (by decide) (by decide) _)) (sl_cons (so_cells (hasE_nodes (by decide) (by decide) (by decide) (by decide) _)) sl_nil)) (fun _ ho7 => ?_)
  refine w_as (nodesP t) rfl ?_
  try dsimp only [setD, List.set]
  refine w_nil ?_
  refine un_n ?_
  refine w_seq ?_
  refine w_block ?_
  refine w_seq ?_
  refine w_reg ?_
  refine w_mv (i64P i) rfl ?_
  refine w_bin (boolP (decide (i < 0))) rfl ?_
  refine w_mv (boolP (decide (i < 0))) rfl ?_
  rcases Bool.eq_false_or_eq_true (decide (i < 0)) with h8 | h8
  · have h8_ := of_decide_eq_true h8
    refine w_gn (dd := 17) rfl rfl h8 ?_
    try dsimp only [setD, List.set]
    refine w_gn (dd := 17) rfl rfl h8 ?_
    refine w_gn (dd := 17) rfl rfl h8 ?_
    refine w_gn (dd := 17) rfl rfl h8 ?_
    refine w_pk1 (boolP true) rfl h8 rfl ?_
    try dsimp only [setD, List.set]
    refine w_as (boolP true) rfl ?_
    try dsimp only [setD, List.set]
    refine w_nil ?_
    refine un_n ?_
    refine w_if1 rfl rfl ?_
    refine w_seq ?_
    refine w_reg ?_
    refine w_as nilS rfl ?_
    refine w_as (i64P 3) rfl ?_
    try dsimp only [setD, List.set]
    refine w_nil ?_
    refine un_n ?_
    refine w_ret ?_
    refine un_r ?_
    refine ⟨.inr rfl, [nilS, (i64P 3)], [(.own 37 0 []), (i64P 3)], rfl, (ca_cons (cr_nil el_22) (ca_cons (cr_i64 _) ca_nil)), ?_⟩
    first | (exfalso; omega) | (first | exact congrArg (fun q => PV.tup [nodesP q, i64P 0]) hrt.symm | (exfalso; simp at hv0; omega) | (exfalso; obtain ⟨z1, z2, z3⟩ := have_zero hv; first | omega | (apply z3; assumption) | simp_all))
  · have h8_ := of_decide_eq_false h8
    refine w_gd (dd := 17) rfl rfl h8 ?_
    refine w_mv (i64P i) rfl ?_
    try dsimp only [setD, List.set]
    refine w_gd (dd := 17) rfl rfl h8 ?_
    refine w_mv (nodesP t) rfl ?_
    refine w_gd (dd := 17) rfl rfl h8 ?_
    refine w_cs _ (i64P (((t.length : Int) + 1) / 2)) rfl (cl_cons (cl_nodes ..) (cl_nil _)) (run_Leaves1 t (by first | assumption | exact wf_nil) hs) rfl (fun H => calm_s H _) ?_
    refine w_gd (dd := 17) rfl rfl h8 ?_
    refine w_bin (boolP (decide (i ≥ (((t.length : Int) + 1) / 2)))) rfl ?_
    refine w_pk0 (boolP (decide (i ≥ (((t.length : Int) + 1) / 2)))) rfl h8 rfl ?_
    try dsimp only [setD, List.set]
    refine w_as (boolP (decide (i ≥ (((t.length : Int) + 1) / 2)))) rfl ?_
    try dsimp only [setD, List.set]
    refine w_nil ?_
    refine un_n ?_
    refine w_if (decide (i ≥ (((t.length : Int) + 1) / 2))) rfl (fun h9 => ?_) (fun h9 => ?_)
    · have h9_ := of_decide_eq_true h9
      refine w_seq ?_
      refine w_reg ?_
      refine w_as nilS rfl ?_
      refine w_as (i64P 3) rfl ?_
      try dsimp only [setD, List.set]
      refine w_nil ?_
      refine un_n ?_
      refine w_ret ?_
      refine un_r ?_
      refine ⟨.inr rfl, [nilS, (i64P 3)], [(.own 37 0 []), (i64P 3)], rfl, (ca_cons (cr_nil el_22) (ca_cons (cr_i64 _) ca_nil)), ?_⟩
      first | (exfalso; omega) | (first | exact congrArg (fun q => PV.tup [nodesP q, i64P 0]) hrt.symm | (exfalso; simp at hv0; omega) | (exfalso; obtain ⟨z1, z2, z3⟩ := have_zero hv; first | omega | (apply z3; assumption) | simp_all))
    · have h9_ := of_decide_eq_false h9
      refine w_seq ?_
      refine w_reg ?_
      refine w_mv (nodesP t) rfl ?_
      refine w_mv (i64P i) rfl ?_
      refine w_bin (i64P (2 * i)) (b_mul rfl rfl (by omega) (by omega)) ?_
      refine w_ia (.lptr 37 (atF nodeCs 8 t (2 * i) 0)) (ix_lst nodeCs_len el_22 sz_37 (by omega) (by omega)) ?_
      try dsimp only [setD, List.set]
      refine w_fa (.lptr 37 (atF nodeCs 8 t (2 * i) 0)) (fa_at nodeCs_len (by omega) (by omega) fd_37_0 sz_3 (by decide) (by decide)) ?_
      refine w_ld (i64P ((nth t (2 * i)).kind)) (ld_lptr (ld_at nodeCs_len (by omega) (by omega) (by decide) (ld_one sz_3 ag_3 rfl))) ?_
      refine w_bin (boolP (decide ((nth t (2 * i)).kind = 0))) rfl ?_
      refine w_as (boolP (decide ((nth t (2 * i)).kind = 0))) rfl ?_
      try dsimp only [setD, List.set]
      refine w_nil ?_
      refine un_n ?_
      refine w_if (decide ((nth t (2 * i)).kind = 0)) rfl (fun h10 => ?_) (fun h10 => ?_)
      · have h10_ := of_decide_eq_true h10
        refine w_seq ?_
        refine w_reg ?_
        refine w_as nilS rfl ?_
        refine w_as (i64P 9) rfl ?_
        try dsimp only [setD, List.set]
        refine w_nil ?_
        refine un_n ?_
        refine w_ret ?_
        refine un_r ?_
        refine ⟨.inr rfl, [nilS, (i64P 9)], [(.own 37 0 []), (i64P 9)], rfl, (ca_cons (cr_nil el_22) (ca_cons (cr_i64 _) ca_nil)), ?_⟩
        first | (exfalso; omega) | (first | exact congrArg (fun q => PV.tup [nodesP q, i64P 0]) hrt.symm | (exfalso; simp at hv0; omega) | (exfalso; obtain ⟨z1, z2, z3⟩ := have_zero hv; first | omega | (apply z3; assumption) | simp_all))
      · have h10_ := of_decide_eq_false h10
        refine w_skip ?_
        refine un_n ?_
        refine w_seq ?_
        refine w_seq ?_
        refine w_reg ?_
        refine w_fa (.ptr r1 0) (fa_ptr fd_68_0 sz_3 (by decide)) ?_
        refine w_ld (i64P 0) (ld_var ho7 1 rfl (ld_one sz_3 ag_3 rfl)) ?_
        refine w_bin (boolP (decide ((0 : Int) = 0))) rfl ?_
        try dsimp only [setD, List.set]
        refine w_nil ?_
        refine un_n ?_
        refine w_if1 rfl (by decide) ?_
        refine w_seq ?_
        refine w_reg ?_
        refine w_fa (.ptr r1 1) (fa_ptr fd_68_1 sz_63 (by decide)) ?_
        refine w_ld (.fn 43 [] [(.lptr 3 [(i64P i)])]) (ld_var ho7 1 rfl (ld_one sz_63 ag_63 rfl)) ?_
        refine w_mv (nodesP t) rfl ?_
        refine w_cclt ho7 _ _ _ _ [(.int .i64 0)] [((.ptr r4 0), .cells 25 (leafCs l) none false), ((.ptr r1 0), .cells 68 [(i64P 0), (.fn 43 [] [(.lptr 3 [(i64P i)])])] none false)] rfl rfl (cl_cons (cl_nodes ..) (cl_cons rfl (cl_nil _))) (run_Remove_f1 t i (by assumption) (by assumption) (by omega) (by omega) (by have hq := (removeK_one hk).2; rw [htt] at hq; exact hq)) (sl_cons (so_cells (has_tup (hasE_nodes (by decide) (by decide) (by decide) (by decide) _))) (sl_cons (so_cells (has_tup (hasE_nodes (by decide) (by decide) (by decide) (by decide) _))) sl_nil)) (fun _ ho11 => ?_)
        try dsimp only [setD, List.set]
        refine w_xt [(nodesP (trimN (clearL t i))), (i64P 0)] (nodesP (trimN (clearL t i))) rfl rfl ?_
        refine w_xt [(nodesP (trimN (clearL t i))), (i64P 0)] (i64P 0) rfl rfl ?_
        refine w_as (nodesP (trimN (clearL t i))) rfl ?_
        refine w_as (i64P 0) rfl ?_
        try dsimp only [setD, List.set]
        refine w_nil ?_
        refine un_n ?_
        refine w_ret ?_
        refine un_r ?_
        refine ⟨.inr rfl, [(nodesP (trimN (clearL t i))), (i64P 0)], [(nodesP (trimN (clearL t i))), (i64P 0)], rfl, (ca_cons (cr_lst ..) (ca_cons (cr_i64 _) ca_nil)), ?_⟩
        first | (exfalso; omega) | (first | exact congrArg (fun q => PV.tup [nodesP q, i64P 0]) hrt.symm | (exfalso; simp at hv0; omega) | (exfalso; obtain ⟨z1, z2, z3⟩ := have_zero hv; first | omega | (apply z3; assumption) | simp_all))
theorem run_on_remove10 (t : List Node) (i : Int) (l : Leaf) (ht : WfT t) (hs : sane t = false) (hk : removeK t i = true) : Run C0 45 [(.agg [(i64P 0), (.fn 43 [] [(.lptr 3 [(i64P i)])])]), (nodesP t), (i64P i), (.agg (leafCs l))] (.tup [nodesP (removeT t i), i64P 0]) := by
  have htt : tree t = [] := by unfold tree; simp [hs]
  have hv := (removeK_one hk).1
  rw [htt] at hv
  have hv0 := have_zero hv
  refine run_fn (C := C0) (c := _) [(.agg [(i64P 0), (.fn 43 [] [(.lptr 3 [(i64P i)])])]), (nodesP t), (i64P i), (.agg (leafCs l)), undefP, undefP, undefP, undefP, undefP, undefP, undefP, undefP, undefP, undefP, undefP, undefP, undefP, undefP, undefP, undefP, undefP, undefP, undefP, undefP, undefP, undefP, undefP, undefP, undefP, undefP, undefP, undefP, undefP, undefP, undefP, undefP, undefP, undefP, undefP, undefP, undefP, undefP, undefP, undefP, undefP, undefP, undefP, undefP, undefP, undefP, undefP, undefP, undefP, undefP, undefP, undefP, undefP, undefP, undefP, undefP, undefP] Tryz.func45 rfl rfl rfl rfl ?_
  have ho := own_nil []
  refine w_seq ?_
  refine w_reg ?_
  refine w_box ho [(i64P 0), (.fn 43 [] [(.lptr 3 [(i64P i)])])] rfl (isC_cons rfl (isC_cons rfl (isC_nil))) (fun _ r1 ho2 => ?_)
  refine w_box ho2 (leafCs l) rfl (isC_leaf _) (fun _ r4 ho5 => ?_)
  refine w_as nilS rfl ?_
  refine w_as (i64P 0) rfl ?_
  try dsimp only [setD, List.set]
  refine w_nil ?_
  refine un_n ?_
  refine w_seq ?_
  refine w_reg ?_
  refine w_mv (nodesP t) rfl ?_
  refine w_cown ho5 _ _ _ _ _ [((.ptr r4 0), .cells 25 (leafCs l) none false), ((.ptr r1 0), .cells 68 [(i64P 0), (.fn 43 [] [(.lptr 3 [(i64P i)])])] none false)] rfl rfl (cl_cons (cl_nodes ..) (cl_nil _)) (run_edit_known0 t (by first | assumption | exact wf_nil) hs) sz_37 (by decide) (flat_len nodeCs_len _) (sl_cons (so_cells (has_own (hasE_nodeCs (by decide) (by decide) (by decide) _))) (sl_cons (so_cells (has_own (hasE_nodeCs (by decide) (by decide) (by decide) _))) sl_nil)) (fun _ r8 ho7 => ?_)
  refine w_as (.row r8 0 0) rfl ?_
  try dsimp only [setD, List.set]
  refine w_nil ?_
  refine un_n ?_
  refine w_seq ?_
  refine w_block ?_
  refine w_seq ?_
  refine w_reg ?_
  refine w_mv (i64P i) rfl ?_
  refine w_bin (boolP (decide (i < 0))) rfl ?_
  refine w_mv (boolP (decide (i < 0))) rfl ?_
  rcases Bool.eq_false_or_eq_true (decide (i < 0)) with h10 | h10
  · have h10_ := of_decide_eq_true h10
    refine w_gn (dd := 17) rfl rfl h10 ?_
    try dsimp only [setD, List.set]
    refine w_gn (dd := 17) rfl rfl h10 ?_
    refine w_gn (dd := 17) rfl rfl h10 ?_
    refine w_gn (dd := 17) rfl rfl h10 ?_
    refine w_pk1 (boolP true) rfl h10 rfl ?_
    try dsimp only [setD, List.set]
    refine w_as (boolP true) rfl ?_
    try dsimp only [setD, List.set]
    refine w_nil ?_
    refine un_n ?_
    refine w_if1 rfl rfl ?_
    refine w_seq ?_
    refine w_reg ?_
    refine w_as nilS rfl ?_
    refine w_as (i64P 3) rfl ?_
    try dsimp only [setD, List.set]
    refine w_nil ?_
    refine un_n ?_
    refine w_ret ?_
    refine un_r ?_
    refine ⟨.inr rfl, [nilS, (i64P 3)], [(.own 37 0 []), (i64P 3)], rfl, (ca_cons (cr_nil el_22) (ca_cons (cr_i64 _) ca_nil)), ?_⟩
    first | (exfalso; omega) | (first | exact congrArg (fun q => PV.tup [nodesP q, i64P 0]) hrt.symm | (exfalso; simp at hv0; omega) | (exfalso; obtain ⟨z1, z2, z3⟩ := have_zero hv; first | omega | (apply z3; assumption) | simp_all))
  · have h10_ := of_decide_eq_false h10
    refine w_gd (dd := 17) rfl rfl h10 ?_
    refine w_mv (i64P i) rfl ?_
    try dsimp only [setD, List.set]
    refine w_gd (dd := 17) rfl rfl h10 ?_
    refine w_mv (.row r8 0 0) rfl ?_
    refine w_gd (dd := 17) rfl rfl h10 ?_
    refine w_cs _ (i64P 0) rfl (cl_cons (cl_rn0 (X := []) ho7 0 rfl) (cl_nil _)) (run_Leaves1 ([] : List Node) (by first | assumption | exact wf_nil) (by rfl)) rfl (fun H => calm_s H _) ?_
    refine w_gd (dd := 17) rfl rfl h10 ?_
    refine w_bin (boolP (decide (i ≥ 0))) rfl ?_
    refine w_pk0 (boolP (decide (i ≥ 0))) rfl h10 rfl ?_
    try dsimp only [setD, List.set]
    refine w_as (boolP (decide (i ≥ 0))) rfl ?_
    try dsimp only [setD, List.set]
    refine w_nil ?_
    refine un_n ?_
    refine w_if (decide (i ≥ 0)) rfl (fun h11 => ?_) (fun h11 => ?_)
    · have h11_ := of_decide_eq_true h11
      refine w_seq ?_
      refine w_reg ?_
      refine w_as nilS rfl ?_
      refine w_as (i64P 3) rfl ?_
      try dsimp only [setD, List.set]
      refine w_nil ?_
      refine un_n ?_
      refine w_ret ?_
      refine un_r ?_
      refine ⟨.inr rfl, [nilS, (i64P 3)], [(.own 37 0 []), (i64P 3)], rfl, (ca_cons (cr_nil el_22) (ca_cons (cr_i64 _) ca_nil)), ?_⟩
      first | (exfalso; omega) | (first | exact congrArg (fun q => PV.tup [nodesP q, i64P 0]) hrt.symm | (exfalso; simp at hv0; omega) | (exfalso; obtain ⟨z1, z2, z3⟩ := have_zero hv; first | omega | (apply z3; assumption) | simp_all))
    · have h11_ := of_decide_eq_false h11
      exfalso; omega
theorem run_on_remove01 (t : List Node) (i : Int) (l : Leaf) (ht : WfT t) (hs : sane t = true) (hk : removeK t i = false) : Run C0 45 [(.agg [(i64P 0), (.fn 43 [] [(.lptr 3 [(i64P i)])])]), (nodesP t), (i64P i), (.agg (leafCs l))] (.tup [ownNodes [], i64P (removeE t i)]) := by
  have htt : tree t = t := by unfold tree; simp [hs]
  have hs_l := sane_len hs
  refine run_fn (C := C0) (c := _) [(.agg [(i64P 0), (.fn 43 [] [(.lptr 3 [(i64P i)])])]), (nodesP t), (i64P i), (.agg (leafCs l)), undefP, undefP, undefP, undefP, undefP, undefP, undefP, undefP, undefP, undefP, undefP, undefP, undefP, undefP, undefP, undefP, undefP, undefP, undefP, undefP, undefP, undefP, undefP, undefP, undefP, undefP, undefP, undefP, undefP, undefP, undefP, undefP, undefP, undefP, undefP, undefP, undefP, undefP, undefP, undefP, undefP, undefP, undefP, undefP, undefP, undefP, undefP, undefP, undefP, undefP, undefP, undefP, undefP, undefP, undefP, undefP, undefP] Tryz.func45 rfl rfl rfl rfl ?_
  have ho := own_nil []
  refine w_seq ?_
  refine w_reg ?_
  refine w_box ho [(i64P 0), (.fn 43 [] [(.lptr 3 [(i64P i)])])] rfl (isC_cons rfl (isC_cons rfl (isC_nil))) (fun _ r1 ho2 => ?_)
  refine w_box ho2 (leafCs l) rfl (isC_leaf _) (fun _ r4 ho5 => ?_)
  refine w_as nilS rfl ?_
  refine w_as (i64P 0) rfl ?_
  try dsimp only [setD, List.set]
  refine w_nil ?_
  refine un_n ?_
  refine w_seq ?_
  refine w_reg ?_
  refine w_mv (nodesP t) rfl ?_
  refine w_ccl ho5 _ (nodesP t) [((.ptr r4 0), .cells 25 (leafCs l) none false), ((.ptr r1 0), .cells 68 [(i64P 0), (.fn 43 [] [(.lptr 3 [(i64P i)])])] none false)] rfl rfl (cl_cons (cl_nodes ..) (cl_nil _)) (run_edit_known1 t (by first | assumption | exact wf_nil) hs) (rv_lst ..) (sl_cons (so_cells (hasE_nodes (by decide) (by decide) (by decide) (by decide) _)) (sl_cons (so_cells (hasE_nodes (by decide) (by decide) (by decide) (by decide) _)) sl_nil)) (fun _ ho7 => ?_)
  refine w_as (nodesP t) rfl ?_
  try dsimp only [setD, List.set]
  refine w_nil ?_
  refine un_n ?_
  refine w_seq ?_
  refine w_block ?_
  refine w_seq ?_
  refine w_reg ?_
  refine w_mv (i64P i) rfl ?_
  refine w_bin (boolP (decide (i < 0))) rfl ?_
  refine w_mv (boolP (decide (i < 0))) rfl ?_
  rcases Bool.eq_false_or_eq_true (decide (i < 0)) with h8 | h8
  · have h8_ := of_decide_eq_true h8
    refine w_gn (dd := 17) rfl rfl h8 ?_
    try dsimp only [setD, List.set]
    refine w_gn (dd := 17) rfl rfl h8 ?_
    refine w_gn (dd := 17) rfl rfl h8 ?_
    refine w_gn (dd := 17) rfl rfl h8 ?_
    refine w_pk1 (boolP true) rfl h8 rfl ?_
    try dsimp only [setD, List.set]
    refine w_as (boolP true) rfl ?_
    try dsimp only [setD, List.set]
    refine w_nil ?_
    refine un_n ?_
    refine w_if1 rfl rfl ?_
    refine w_seq ?_
    refine w_reg ?_
    refine w_as nilS rfl ?_
    refine w_as (i64P 3) rfl ?_
    try dsimp only [setD, List.set]
    refine w_nil ?_
    refine un_n ?_
    refine w_ret ?_
    refine un_r ?_
    refine ⟨.inr rfl, [nilS, (i64P 3)], [(.own 37 0 []), (i64P 3)], rfl, (ca_cons (cr_nil el_22) (ca_cons (cr_i64 _) ca_nil)), ?_⟩
    first | (exfalso; omega) | (first | exact congrArg (fun q => PV.tup [ownNodes [], i64P q]) (by unfold removeE; rw [htt]; unfold haveE; (repeat' split) <;> first | rfl | omega | (exfalso; simp_all; done) | (exfalso; simp_all; omega)))
  · have h8_ := of_decide_eq_false h8
    refine w_gd (dd := 17) rfl rfl h8 ?_
    refine w_mv (i64P i) rfl ?_
    try dsimp only [setD, List.set]
    refine w_gd (dd := 17) rfl rfl h8 ?_
    refine w_mv (nodesP t) rfl ?_
    refine w_gd (dd := 17) rfl rfl h8 ?_
    refine w_cs _ (i64P (((t.length : Int) + 1) / 2)) rfl (cl_cons (cl_nodes ..) (cl_nil _)) (run_Leaves1 t (by first | assumption | exact wf_nil) hs) rfl (fun H => calm_s H _) ?_
    refine w_gd (dd := 17) rfl rfl h8 ?_
    refine w_bin (boolP (decide (i ≥ (((t.length : Int) + 1) / 2)))) rfl ?_
    refine w_pk0 (boolP (decide (i ≥ (((t.length : Int) + 1) / 2)))) rfl h8 rfl ?_
    try dsimp only [setD, List.set]
    refine w_as (boolP (decide (i ≥ (((t.length : Int) + 1) / 2)))) rfl ?_
    try dsimp only [setD, List.set]
    refine w_nil ?_
    refine un_n ?_
    refine w_if (decide (i ≥ (((t.length : Int) + 1) / 2))) rfl (fun h9 => ?_) (fun h9 => ?_)
    · have h9_ := of_decide_eq_true h9
      refine w_seq ?_
      refine w_reg ?_
      refine w_as nilS rfl ?_
      refine w_as (i64P 3) rfl ?_
      try dsimp only [setD, List.set]
      refine w_nil ?_
      refine un_n ?_
      refine w_ret ?_
      refine un_r ?_
      refine ⟨.inr rfl, [nilS, (i64P 3)], [(.own 37 0 []), (i64P 3)], rfl, (ca_cons (cr_nil el_22) (ca_cons (cr_i64 _) ca_nil)), ?_⟩
      first | (exfalso; omega) | (first | exact congrArg (fun q => PV.tup [ownNodes [], i64P q]) (by unfold removeE; rw [htt]; unfold haveE; (repeat' split) <;> first | rfl | omega | (exfalso; simp_all; done) | (exfalso; simp_all; omega)))
    · have h9_ := of_decide_eq_false h9
      refine w_seq ?_
      refine w_reg ?_
      refine w_mv (nodesP t) rfl ?_
      refine w_mv (i64P i) rfl ?_
      refine w_bin (i64P (2 * i)) (b_mul rfl rfl (by omega) (by omega)) ?_
      refine w_ia (.lptr 37 (atF nodeCs 8 t (2 * i) 0)) (ix_lst nodeCs_len el_22 sz_37 (by omega) (by omega)) ?_
      try dsimp only [setD, List.set]
      refine w_fa (.lptr 37 (atF nodeCs 8 t (2 * i) 0)) (fa_at nodeCs_len (by omega) (by omega) fd_37_0 sz_3 (by decide) (by decide)) ?_
      refine w_ld (i64P ((nth t (2 * i)).kind)) (ld_lptr (ld_at nodeCs_len (by omega) (by omega) (by decide) (ld_one sz_3 ag_3 rfl))) ?_
      refine w_bin (boolP (decide ((nth t (2 * i)).kind = 0))) rfl ?_
      refine w_as (boolP (decide ((nth t (2 * i)).kind = 0))) rfl ?_
      try dsimp only [setD, List.set]
      refine w_nil ?_
      refine un_n ?_
      refine w_if (decide ((nth t (2 * i)).kind = 0)) rfl (fun h10 => ?_) (fun h10 => ?_)
      · have h10_ := of_decide_eq_true h10
        refine w_seq ?_
        refine w_reg ?_
        refine w_as nilS rfl ?_
        refine w_as (i64P 9) rfl ?_
        try dsimp only [setD, List.set]
        refine w_nil ?_
        refine un_n ?_
        refine w_ret ?_
        refine un_r ?_
        refine ⟨.inr rfl, [nilS, (i64P 9)], [(.own 37 0 []), (i64P 9)], rfl, (ca_cons (cr_nil el_22) (ca_cons (cr_i64 _) ca_nil)), ?_⟩
        first | (exfalso; omega) | (first | exact congrArg (fun q => PV.tup [ownNodes [], i64P q]) (by unfold removeE; rw [htt]; unfold haveE; (repeat' split) <;> first | rfl | omega | (exfalso; simp_all; done) | (exfalso; simp_all; omega)))
      · have h10_ := of_decide_eq_false h10
        refine w_skip ?_
        refine un_n ?_
        refine w_seq ?_
        refine w_seq ?_
        refine w_reg ?_
        refine w_fa (.ptr r1 0) (fa_ptr fd_68_0 sz_3 (by decide)) ?_
        refine w_ld (i64P 0) (ld_var ho7 1 rfl (ld_one sz_3 ag_3 rfl)) ?_
        refine w_bin (boolP (decide ((0 : Int) = 0))) rfl ?_
        try dsimp only [setD, List.set]
        refine w_nil ?_
        refine un_n ?_
        refine w_if1 rfl (by decide) ?_
        refine w_seq ?_
        refine w_reg ?_
        refine w_fa (.ptr r1 1) (fa_ptr fd_68_1 sz_63 (by decide)) ?_
        refine w_ld (.fn 43 [] [(.lptr 3 [(i64P i)])]) (ld_var ho7 1 rfl (ld_one sz_63 ag_63 rfl)) ?_
        refine w_mv (nodesP t) rfl ?_
        refine w_cownt ho7 _ _ _ _ _ [(.int .i64 0)] [((.ptr r4 0), .cells 25 (leafCs l) none false), ((.ptr r1 0), .cells 68 [(i64P 0), (.fn 43 [] [(.lptr 3 [(i64P i)])])] none false)] rfl rfl (cl_cons (cl_nodes ..) (cl_cons rfl (cl_nil _))) (run_Remove_f0 t i (by assumption) (by assumption) (by omega) (by omega) (by have hq := removeK_no hk (by rw [htt]; unfold haveE; (repeat' split) <;> first | rfl | omega | (exfalso; simp_all; done) | (exfalso; simp_all; omega)); rw [htt] at hq; exact hq)) sz_37 (by decide) (flat_len nodeCs_len _) (sl_cons (so_cells (has_tup (has_own (hasE_nodeCs (by decide) (by decide) (by decide) _)))) (sl_cons (so_cells (has_tup (has_own (hasE_nodeCs (by decide) (by decide) (by decide) _)))) sl_nil)) (fun _ r12 ho11 => ?_)
        try dsimp only [setD, List.set]
        refine w_xt [(.row r12 0 0), (i64P 0)] (.row r12 0 0) rfl rfl ?_
        refine w_xt [(.row r12 0 0), (i64P 0)] (i64P 0) rfl rfl ?_
        refine w_as (.row r12 0 0) rfl ?_
        refine w_as (i64P 0) rfl ?_
        try dsimp only [setD, List.set]
        refine w_nil ?_
        refine un_n ?_
        refine w_ret ?_
        refine un_r ?_
        refine ⟨.inr rfl, [(.row r12 0 0), (i64P 0)], [(.own 37 0 ((([] : List RNode).map RNode.node).flatMap nodeCs)), (i64P 0)], rfl, (ca_cons (cr_own ho11 0 rfl (by decide) rfl el_22 sz_37 (offs_cons (off_i _ _) (offs_nil _)) (hasE_nodeCs (e := 37) (by decide) (by decide) (by decide) _) rfl) (ca_cons (cr_i64 _) ca_nil)), ?_⟩
        first | (exfalso; omega) | (first | exact congrArg (fun q => PV.tup [ownNodes [], i64P q]) (by unfold removeE; rw [htt]; unfold haveE; (repeat' split) <;> first | rfl | omega | (exfalso; simp_all; done) | (exfalso; simp_all; omega)))
theorem run_on_remove00 (t : List Node) (i : Int) (l : Leaf) (ht : WfT t) (hs : sane t = false) (hk : removeK t i = false) : Run C0 45 [(.agg [(i64P 0), (.fn 43 [] [(.lptr 3 [(i64P i)])])]), (nodesP t), (i64P i), (.agg (leafCs l))] (.tup [ownNodes [], i64P (removeE t i)]) := by
  have htt : tree t = [] := by unfold tree; simp [hs]
  refine run_fn (C := C0) (c := _) [(.agg [(i64P 0), (.fn 43 [] [(.lptr 3 [(i64P i)])])]), (nodesP t), (i64P i), (.agg (leafCs l)), undefP, undefP, undefP, undefP, undefP, undefP, undefP, undefP, undefP, undefP, undefP, undefP, undefP, undefP, undefP, undefP, undefP, undefP, undefP, undefP, undefP, undefP, undefP, undefP, undefP, undefP, undefP, undefP, undefP, undefP, undefP, undefP, undefP, undefP, undefP, undefP, undefP, undefP, undefP, undefP, undefP, undefP, undefP, undefP, undefP, undefP, undefP, undefP, undefP, undefP, undefP, undefP, undefP, undefP, undefP, undefP, undefP] Tryz.func45 rfl rfl rfl rfl ?_
  have ho := own_nil []
  refine w_seq ?_
  refine w_reg ?_
  refine w_box ho [(i64P 0), (.fn 43 [] [(.lptr 3 [(i64P i)])])] rfl (isC_cons rfl (isC_cons rfl (isC_nil))) (fun _ r1 ho2 => ?_)
  refine w_box ho2 (leafCs l) rfl (isC_leaf _) (fun _ r4 ho5 => ?_)
  refine w_as nilS rfl ?_
  refine w_as (i64P 0) rfl ?_
  try dsimp only [setD, List.set]
  refine w_nil ?_
  refine un_n ?_
  refine w_seq ?_
  refine w_reg ?_
  refine w_mv (nodesP t) rfl ?_
  refine w_cown ho5 _ _ _ _ _ [((.ptr r4 0), .cells 25 (leafCs l) none false), ((.ptr r1 0), .cells 68 [(i64P 0), (.fn 43 [] [(.lptr 3 [(i64P i)])])] none false)] rfl rfl (cl_cons (cl_nodes ..) (cl_nil _)) (run_edit_known0 t (by first | assumption | exact wf_nil) hs) sz_37 (by decide) (flat_len nodeCs_len _) (sl_cons (so_cells (has_own (hasE_nodeCs (by decide) (by decide) (by decide) _))) (sl_cons (so_cells (has_own (hasE_nodeCs (by decide) (by decide) (by decide) _))) sl_nil)) (fun _ r8 ho7 => ?_)
  refine w_as (.row r8 0 0) rfl ?_
  try dsimp only [setD, List.set]
  refine w_nil ?_
  refine un_n ?_
  refine w_seq ?_
  refine w_block ?_
  refine w_seq ?_
  refine w_reg ?_
  refine w_mv (i64P i) rfl ?_
  refine w_bin (boolP (decide (i < 0))) rfl ?_
  refine w_mv (boolP (decide (i < 0))) rfl ?_
  rcases Bool.eq_false_or_eq_true (decide (i < 0)) with h10 | h10
  · have h10_ := of_decide_eq_true h10
    refine w_gn (dd := 17) rfl rfl h10 ?_
    try dsimp only [setD, List.set]
    refine w_gn (dd := 17) rfl rfl h10 ?_
    refine w_gn (dd := 17) rfl rfl h10 ?_
    refine w_gn (dd := 17) rfl rfl h10 ?_
    refine w_pk1 (boolP true) rfl h10 rfl ?_
    try dsimp only [setD, List.set]
    refine w_as (boolP true) rfl ?_
    try dsimp only [setD, List.set]
    refine w_nil ?_
    refine un_n ?_
    refine w_if1 rfl rfl ?_
    refine w_seq ?_
    refine w_reg ?_
    refine w_as nilS rfl ?_
    refine w_as (i64P 3) rfl ?_
    try dsimp only [setD, List.set]
    refine w_nil ?_
    refine un_n ?_
    refine w_ret ?_
    refine un_r ?_
    refine ⟨.inr rfl, [nilS, (i64P 3)], [(.own 37 0 []), (i64P 3)], rfl, (ca_cons (cr_nil el_22) (ca_cons (cr_i64 _) ca_nil)), ?_⟩
    first | (exfalso; omega) | (first | exact congrArg (fun q => PV.tup [ownNodes [], i64P q]) (by unfold removeE; rw [htt]; unfold haveE; (repeat' split) <;> first | rfl | omega | (exfalso; simp_all; done) | (exfalso; simp_all; omega)))
  · have h10_ := of_decide_eq_false h10
    refine w_gd (dd := 17) rfl rfl h10 ?_
    refine w_mv (i64P i) rfl ?_
    try dsimp only [setD, List.set]
    refine w_gd (dd := 17) rfl rfl h10 ?_
    refine w_mv (.row r8 0 0) rfl ?_
    refine w_gd (dd := 17) rfl rfl h10 ?_
    refine w_cs _ (i64P 0) rfl (cl_cons (cl_rn0 (X := []) ho7 0 rfl) (cl_nil _)) (run_Leaves1 ([] : List Node) (by first | assumption | exact wf_nil) (by rfl)) rfl (fun H => calm_s H _) ?_
    refine w_gd (dd := 17) rfl rfl h10 ?_
    refine w_bin (boolP (decide (i ≥ 0))) rfl ?_
    refine w_pk0 (boolP (decide (i ≥ 0))) rfl h10 rfl ?_
    try dsimp only [setD, List.set]
    refine w_as (boolP (decide (i ≥ 0))) rfl ?_
    try dsimp only [setD, List.set]
    refine w_nil ?_
    refine un_n ?_
    refine w_if (decide (i ≥ 0)) rfl (fun h11 => ?_) (fun h11 => ?_)
    · have h11_ := of_decide_eq_true h11
      refine w_seq ?_
      refine w_reg ?_
      refine w_as nilS rfl ?_
      refine w_as (i64P 3) rfl ?_
      try dsimp only [setD, List.set]
      refine w_nil ?_
      refine un_n ?_
      refine w_ret ?_
      refine un_r ?_
      refine ⟨.inr rfl, [nilS, (i64P 3)], [(.own 37 0 []), (i64P 3)], rfl, (ca_cons (cr_nil el_22) (ca_cons (cr_i64 _) ca_nil)), ?_⟩
      first | (exfalso; omega) | (first | exact congrArg (fun q => PV.tup [ownNodes [], i64P q]) (by unfold removeE; rw [htt]; unfold haveE; (repeat' split) <;> first | rfl | omega | (exfalso; simp_all; done) | (exfalso; simp_all; omega)))
    · have h11_ := of_decide_eq_false h11
      exfalso; omega
theorem run_on_remove1 (t : List Node) (i : Int) (l : Leaf) (ht : WfT t) (hk : removeK t i = true) : Run C0 45 [.agg [i64P 0, .fn 43 [] [.lptr 3 [i64P i]]], nodesP t, i64P i, .agg (leafCs l)] (.tup [nodesP (removeT t i), i64P 0]) := by
  cases hs : sane t with
  | true => exact run_on_remove11 t i l ht hs hk
  | false => exact run_on_remove10 t i l ht hs hk
theorem run_on_remove0 (t : List Node) (i : Int) (l : Leaf) (ht : WfT t) (hk : removeK t i = false) : Run C0 45 [.agg [i64P 0, .fn 43 [] [.lptr 3 [i64P i]]], nodesP t, i64P i, .agg (leafCs l)] (.tup [ownNodes [], i64P (removeE t i)]) := by
  cases hs : sane t with
  | true => exact run_on_remove01 t i l ht hs hk
  | false => exact run_on_remove00 t i l ht hs hk
theorem run_Remove1 (t : List Node) (i : Int) (ht : WfT t) (hk : removeK t i = true) : Run C0 14 [(nodesP t), (i64P i)] (.tup [nodesP (removeT t i), i64P 0]) := by
  refine run_fn (C := C0) (c := _) [(nodesP t), (i64P i), undefP, undefP, undefP, undefP, undefP, undefP, undefP, undefP, undefP, undefP, undefP, undefP, undefP, undefP] Tryz.func14 rfl rfl rfl rfl ?_
  have ho := own_nil []
  refine w_seq ?_
  refine w_reg ?_
  refine w_box ho [(i64P i)] rfl (isC_cons rfl (isC_nil)) (fun _ r1 ho2 => ?_)
  refine w_as nilS rfl ?_
  refine w_as (i64P 0) rfl ?_
  try dsimp only [setD, List.set]
  refine w_nil ?_
  refine un_n ?_
  refine w_seq ?_
  refine w_reg ?_
  refine w_mf (.fn 43 [] [(.ptr r1 0)]) rfl ?_
  refine w_bd (.agg [(i64P 0), (.fn 43 [] [(.ptr r1 0)])]) (bd_st zp_68 pl_68 (fill_cons rfl rfl rfl rfl (isC_cons rfl (isC_nil)) rfl fill_nil)) ?_
  refine w_alloc ho2 [(i64P 0), (.s .nilFunc)] zp_68 (fun _ r4 ho5 => ?_)
  refine w_stv ho5 0 (.agg [(i64P 0), (.fn 43 [] [(.ptr r1 0)])]) [(i64P 0), (.fn 43 [] [(.ptr r1 0)])] [((.ptr r4 0), .cells 68 [(i64P 0), (.fn 43 [] [(.ptr r1 0)])] none false), ((.ptr r1 0), .cells 3 [(i64P i)] none false)] rfl rfl rfl sz_68 rfl rfl (by decide) (isC_cons rfl (isC_cons rfl (isC_nil))) (show 2 ≤ 2 by decide) rfl rfl (fun _ ho7 => ?_)
  try dsimp only [setD, List.set]
  refine w_nil ?_
  refine un_n ?_
  refine w_seq ?_
  refine w_reg ?_
  refine w_ld (.agg [(i64P 0), (.fn 43 [] [(.ptr r1 0)])]) (ld_var ho7 0 rfl (ld_agg sz_68 ag_68 rfl (show 2 ≤ 2 by decide))) ?_
  refine w_mv (nodesP t) rfl ?_
  refine w_ld (i64P i) (ld_var ho7 1 rfl (ld_one sz_3 ag_3 rfl)) ?_
  refine w_bd (.agg [nilS, nilS, (i64P 0), nilS]) (bd_st zp_25 pl_25 fill_nil) ?_
  try dsimp only [setD, List.set]
  refine w_cclt ho7 _ _ _ _ [(.int .i64 0)] [((.ptr r4 0), .cells 68 [(i64P 0), (.fn 43 [] [(.ptr r1 0)])] none false), ((.ptr r1 0), .cells 3 [(i64P i)] none (false || hasE 3 (.tup [(nodesP (removeT t i)), (i64P 0)])))] rfl rfl (cl_cons (cl_agg (cl_cons (cl_i64 ..) (cl_cons (cl_fn (cl_nil _) (cl_cons (cl_var ho7 1 rfl (cl_cons (cl_i64 ..) (cl_nil _))) (cl_nil _))) (cl_nil _)))) (cl_cons (cl_nodes ..) (cl_cons (cl_i64 ..) (cl_cons (cl_agg (cl_cons (cl_nilS ..) (cl_cons (cl_nilS ..) (cl_cons (cl_i64 ..) (cl_cons (cl_nilS ..) (cl_nil _)))))) (cl_nil _))))) (run_on_remove1 t i (⟨[], [], 0, []⟩ : Leaf) (by assumption) hk) (sl_cons (so_cells (has_tup (hasE_nodes (by decide) (by decide) (by decide) (by decide) _))) (sl_cons rfl sl_nil)) (fun _ ho8 => ?_)
  refine w_xt [(nodesP (removeT t i)), (i64P 0)] (nodesP (removeT t i)) rfl rfl ?_
  refine w_xt [(nodesP (removeT t i)), (i64P 0)] (i64P 0) rfl rfl ?_
  refine w_as (nodesP (removeT t i)) rfl ?_
  try dsimp only [setD, List.set]
  refine w_as (i64P 0) rfl ?_
  try dsimp only [setD, List.set]
  refine w_nil ?_
  refine un_n ?_
  refine w_ret ?_
  refine ⟨.inr rfl, [(nodesP (removeT t i)), (i64P 0)], [(nodesP (removeT t i)), (i64P 0)], rfl, (ca_cons (cr_lst ..) (ca_cons (cr_i64 _) ca_nil)), ?_⟩
  first | (exfalso; omega) | (rfl)
theorem run_Remove0 (t : List Node) (i : Int) (ht : WfT t) (hk : removeK t i = false) : Run C0 14 [(nodesP t), (i64P i)] (.tup [ownNodes [], i64P (removeE t i)]) := by
  refine run_fn (C := C0) (c := _) [(nodesP t), (i64P i), undefP, undefP, undefP, undefP, undefP, undefP, undefP, undefP, undefP, undefP, undefP, undefP, undefP, undefP] Tryz.func14 rfl rfl rfl rfl ?_
  have ho := own_nil []
  refine w_seq ?_
  refine w_reg ?_
  refine w_box ho [(i64P i)] rfl (isC_cons rfl (isC_nil)) (fun _ r1 ho2 => ?_)
  refine w_as nilS rfl ?_
  refine w_as (i64P 0) rfl ?_
  try dsimp only [setD, List.set]
  refine w_nil ?_
  refine un_n ?_
  refine w_seq ?_
  refine w_reg ?_
  refine w_mf (.fn 43 [] [(.ptr r1 0)]) rfl ?_
  refine w_bd (.agg [(i64P 0), (.fn 43 [] [(.ptr r1 0)])]) (bd_st zp_68 pl_68 (fill_cons rfl rfl rfl rfl (isC_cons rfl (isC_nil)) rfl fill_nil)) ?_
  refine w_alloc ho2 [(i64P 0), (.s .nilFunc)] zp_68 (fun _ r4 ho5 => ?_)
  refine w_stv ho5 0 (.agg [(i64P 0), (.fn 43 [] [(.ptr r1 0)])]) [(i64P 0), (.fn 43 [] [(.ptr r1 0)])] [((.ptr r4 0), .cells 68 [(i64P 0), (.fn 43 [] [(.ptr r1 0)])] none false), ((.ptr r1 0), .cells 3 [(i64P i)] none false)] rfl rfl rfl sz_68 rfl rfl (by decide) (isC_cons rfl (isC_cons rfl (isC_nil))) (show 2 ≤ 2 by decide) rfl rfl (fun _ ho7 => ?_)
  try dsimp only [setD, List.set]
  refine w_nil ?_
  refine un_n ?_
  refine w_seq ?_
  refine w_reg ?_
  refine w_ld (.agg [(i64P 0), (.fn 43 [] [(.ptr r1 0)])]) (ld_var ho7 0 rfl (ld_agg sz_68 ag_68 rfl (show 2 ≤ 2 by decide))) ?_
  refine w_mv (nodesP t) rfl ?_
  refine w_ld (i64P i) (ld_var ho7 1 rfl (ld_one sz_3 ag_3 rfl)) ?_
  refine w_bd (.agg [nilS, nilS, (i64P 0), nilS]) (bd_st zp_25 pl_25 fill_nil) ?_
  try dsimp only [setD, List.set]
  refine w_cownt ho7 _ _ _ _ _ [(.int .i64 (removeE t i))] [((.ptr r4 0), .cells 68 [(i64P 0), (.fn 43 [] [(.ptr r1 0)])] none false), ((.ptr r1 0), .cells 3 [(i64P i)] none (false || hasE 3 (.tup [(ownNodes []), (i64P (removeE t i))])))] rfl rfl (cl_cons (cl_agg (cl_cons (cl_i64 ..) (cl_cons (cl_fn (cl_nil _) (cl_cons (cl_var ho7 1 rfl (cl_cons (cl_i64 ..) (cl_nil _))) (cl_nil _))) (cl_nil _)))) (cl_cons (cl_nodes ..) (cl_cons (cl_i64 ..) (cl_cons (cl_agg (cl_cons (cl_nilS ..) (cl_cons (cl_nilS ..) (cl_cons (cl_i64 ..) (cl_cons (cl_nilS ..) (cl_nil _)))))) (cl_nil _))))) (run_on_remove0 t i (⟨[], [], 0, []⟩ : Leaf) (by assumption) hk) sz_37 (by decide) (flat_len nodeCs_len _) (sl_cons (so_cells (has_tup (has_own (hasE_nodeCs (by decide) (by decide) (by decide) _)))) (sl_cons rfl sl_nil)) (fun _ r9 ho8 => ?_)
  refine w_xt [(.row r9 0 0), (i64P (removeE t i))] (.row r9 0 0) rfl rfl ?_
  refine w_xt [(.row r9 0 0), (i64P (removeE t i))] (i64P (removeE t i)) rfl rfl ?_
  refine w_as (.row r9 0 0) rfl ?_
  try dsimp only [setD, List.set]
  refine w_as (i64P (removeE t i)) rfl ?_
  try dsimp only [setD, List.set]
  refine w_nil ?_
  refine un_n ?_
  refine w_ret ?_
  refine ⟨.inr rfl, [(.row r9 0 0), (i64P (removeE t i))], [(.own 37 0 ((([] : List RNode).map RNode.node).flatMap nodeCs)), (i64P (removeE t i))], rfl, (ca_cons (cr_own ho8 0 rfl (by decide) rfl el_22 sz_37 (offs_cons (off_i _ _) (offs_nil _)) (hasE_nodeCs (e := 37) (by decide) (by decide) (by decide) _) rfl) (ca_cons (cr_i64 _) ca_nil)), ?_⟩
  first | (exfalso; omega) | (rfl)
end Go.Proofs.YtkkdkhacligaoaaGreatDoor.law
