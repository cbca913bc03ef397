/- Walks: what functions of the program come to, as the pure interpreter runs them. -/
import Derived.Test.YtkkdkhacligaoaaGreatDoorW6
set_option linter.unusedSimpArgs false
set_option linter.unusedVariables false
namespace Go.Proofs.YtkkdkhacligaoaaGreatDoor.law
open Go.PI
/-- What is wrong with a leaf's number, of a tree. -/
def haveE (t : List Node) (i : Int) : Int := if i < 0 ∨ i ≥ ((t.length : Int) + 1) / 2 then 3 else if (nth t (2 * i)).kind = 0 then 9 else 0
def changeE (t : List Node) (i : Int) (l : Leaf) : Int := if haveE (tree t) i = 0 then sourceE l 2 else haveE (tree t) i
def changeT (t : List Node) (i : Int) (l : Leaf) : List Node := if changeE t i l = 0 then laidL (clearL (tree t) i) i l else []
theorem change_err {t : List Node} {i : Int} {l : Leaf} {e : Int} (h : changeE t i l = e) (he : e ≠ 0) : PV.tup [.own 37 0 [], i64P e] = .tup [ownNodes (changeT t i l), i64P (changeE t i l)] := by
  have : changeT t i l = [] := by unfold changeT; rw [h, if_neg he]
  rw [this, h]; rfl
theorem change_ok {t u : List Node} {i : Int} {l : Leaf} {n : Nat} (h : changeE t i l = 0) (hu : u = laidL (clearL (tree t) i) i l) (hn : n = u.length) : PV.tup [.own 37 n (u.flatMap nodeCs), i64P 0] = .tup [ownNodes (changeT t i l), i64P (changeE t i l)] := by
  have : changeT t i l = u := by unfold changeT; rw [h, if_pos rfl, hu]
  rw [this, h, hn]; rfl
theorem clearL_len (t : List Node) (i : Int) : (clearL t i).length = t.length := clearAll_len t _
theorem laidL_len (t : List Node) (i : Int) (l : Leaf) : (laidL t i l).length = t.length := by simp [laidL]
theorem clearL_len' (t : List Node) (i : Int) : ((clearL t i).length : Int) = t.length := by rw [clearL_len]
theorem run_Change_f (t : List Node) (i : Int) (ht : WfT t) (hs : sane t = true) (h0 : 0 ≤ i) (h1 : 2 * i < t.length) : Run C0 52 [(nodesP t), (.lptr 3 [(i64P i)])] (.tup [ownNodes (clearL t i), i64P 0]) := by
  refine run_fn (C := C0) (c := _) [(nodesP t), (.lptr 3 [(i64P i)]), undefP, undefP, undefP, undefP, undefP, undefP, undefP, undefP] Tryz.func52 rfl rfl rfl rfl ?_
  have ho := own_nil []
  refine w_seq ?_
  refine w_reg ?_
  refine w_as nilS rfl ?_
  refine w_as (i64P 0) rfl ?_
  try dsimp only [setD, List.set]
  refine w_nil ?_
  refine un_n ?_
  refine w_seq ?_
  refine w_reg ?_
  refine w_mv (nodesP t) rfl ?_
  refine w_ld (i64P i) (ld_lptr (ld_one sz_3 ag_3 rfl)) ?_
  refine w_cownt ho _ _ _ _ _ [(.int .i64 0)] [] rfl rfl (cl_cons (cl_nodes ..) (cl_cons (cl_i64 ..) (cl_nil _))) (run_Clear1 t i (by assumption) (by assumption) (by omega) (by omega)) sz_37 (by decide) (flat_len nodeCs_len _) sl_nil (fun _ r2 ho1 => ?_)
  rw [← rs_cells] at ho1
  refine w_xt [(.row r2 0 (clearL t i).length), (i64P 0)] (.row r2 0 (clearL t i).length) rfl rfl ?_
  try dsimp only [setD, List.set]
  refine w_xt [(.row r2 0 (clearL t i).length), (i64P 0)] (i64P 0) rfl rfl ?_
  refine w_as (.row r2 0 (clearL t i).length) rfl ?_
  refine w_as (i64P 0) rfl ?_
  try dsimp only [setD, List.set]
  refine w_nil ?_
  refine un_n ?_
  refine w_ret ?_
  refine ⟨.inr rfl, [(.row r2 0 (clearL t i).length), (i64P 0)], [(.own 37 (clearL t i).length ((((clearL t i).map Node.r).map RNode.node).flatMap nodeCs)), (i64P 0)], rfl, (ca_cons (cr_own ho1 0 rfl (by decide) (flat_len' rCs_len (by first | assumption | (simp; done) | (simp [*]; done) | (simp; omega))) el_22 sz_37 (offs_cons (off_i _ _) (offs_nil _)) (hasE_nodeCs (e := 37) (by decide) (by decide) (by decide) _) (cl_flat _ (fun _ => cl_rCs _ _) _)) (ca_cons (cr_i64 _) ca_nil)), ?_⟩
  first | (exfalso; omega) | (exact congrArg (fun q => PV.tup [q, i64P 0]) (own_eq (rs_node _) (by simp)))
theorem run_on_change (t : List Node) (i : Int) (l : Leaf) (ht : WfT t) : Run C0 45 [(.agg [(i64P 2), (.fn 52 [] [(.lptr 3 [(i64P i)])])]), (nodesP t), (i64P i), (.agg (leafCs l))] (.tup [ownNodes (changeT t i l), i64P (changeE t i l)]) := by
  refine run_fn (C := C0) (c := _) [(.agg [(i64P 2), (.fn 52 [] [(.lptr 3 [(i64P i)])])]), (nodesP t), (i64P i), (.agg (leafCs l)), undefP, undefP, undefP, undefP, undefP, undefP, undefP, undefP, undefP, undefP, undefP, undefP, undefP, undefP, undefP, undefP, undefP, undefP, undefP, undefP, undefP, undefP, undefP, undefP, undefP, undefP, undefP, undefP, undefP, undefP, undefP, undefP, undefP, undefP, undefP, undefP, undefP, undefP, undefP, undefP, undefP, undefP, undefP, undefP, undefP, undefP, undefP, undefP, undefP, undefP, undefP, undefP, undefP, undefP, undefP, undefP, undefP] Tryz.func45 rfl rfl rfl rfl ?_
  have ho := own_nil []
  refine w_seq ?_
  refine w_reg ?_
  refine w_box ho [(i64P 2), (.fn 52 [] [(.lptr 3 [(i64P i)])])] rfl (isC_cons rfl (isC_cons rfl (isC_nil))) (fun _ r1 ho2 => ?_)
  refine w_box ho2 (leafCs l) rfl (isC_leaf _) (fun _ r4 ho5 => ?_)
  refine w_as nilS rfl ?_
  refine w_as (i64P 0) rfl ?_
  try dsimp only [setD, List.set]
  refine w_nil ?_
  refine un_n ?_
  refine w_seq ?_
  refine w_reg ?_
  refine w_mv (nodesP t) rfl ?_
  rcases Bool.eq_false_or_eq_true (sane t) with h7 | h7
  · have h7_l := sane_len h7
    refine w_ccl ho5 _ (nodesP t) [((.ptr r4 0), .cells 25 (leafCs l) none false), ((.ptr r1 0), .cells 68 [(i64P 2), (.fn 52 [] [(.lptr 3 [(i64P i)])])] none false)] rfl rfl (cl_cons (cl_nodes ..) (cl_nil _)) (run_edit_known1 t (by first | assumption | exact wf_nil) h7) (rv_lst ..) (sl_cons (so_cells (hasE_nodes (by decide) (by decide) (by decide) (by decide) _)) (sl_cons (so_cells (hasE_nodes (by decide) (by decide) (by decide) (by decide) _)) sl_nil)) (fun _ ho8 => ?_)
    refine w_as (nodesP t) rfl ?_
    try dsimp only [setD, List.set]
    refine w_nil ?_
    refine un_n ?_
    refine w_seq ?_
    refine w_block ?_
    refine w_seq ?_
    refine w_reg ?_
    refine w_mv (i64P i) rfl ?_
    refine w_bin (boolP (decide (i < 0))) rfl ?_
    refine w_mv (boolP (decide (i < 0))) rfl ?_
    rcases Bool.eq_false_or_eq_true (decide (i < 0)) with h9 | h9
    · have h9_ := of_decide_eq_true h9
      refine w_gn (dd := 17) rfl rfl h9 ?_
      try dsimp only [setD, List.set]
      refine w_gn (dd := 17) rfl rfl h9 ?_
      refine w_gn (dd := 17) rfl rfl h9 ?_
      refine w_gn (dd := 17) rfl rfl h9 ?_
      refine w_pk1 (boolP true) rfl h9 rfl ?_
      try dsimp only [setD, List.set]
      refine w_as (boolP true) rfl ?_
      try dsimp only [setD, List.set]
      refine w_nil ?_
      refine un_n ?_
      refine w_if1 rfl rfl ?_
      refine w_seq ?_
      refine w_reg ?_
      refine w_as nilS rfl ?_
      refine w_as (i64P 3) rfl ?_
      try dsimp only [setD, List.set]
      refine w_nil ?_
      refine un_n ?_
      refine w_ret ?_
      refine un_r ?_
      refine ⟨.inr rfl, [nilS, (i64P 3)], [(.own 37 0 []), (i64P 3)], rfl, (ca_cons (cr_nil el_22) (ca_cons (cr_i64 _) ca_nil)), ?_⟩
      first | (exfalso; omega) | (first | exact change_err (by unfold changeE haveE tree; simp only [*, if_true, if_false, Bool.false_eq_true, List.length_nil]; (repeat' split) <;> first | rfl | omega | (simp_all; done) | (simp_all; omega)) (by first | decide | omega | assumption) | exact change_ok (by unfold changeE haveE tree; simp only [*, if_true, if_false, Bool.false_eq_true, List.length_nil]; (repeat' split) <;> first | rfl | omega | (simp_all; done) | (simp_all; omega)) (by rw [rs_node]; simp [tree, *]) (by simp))
    · have h9_ := of_decide_eq_false h9
      refine w_gd (dd := 17) rfl rfl h9 ?_
      refine w_mv (i64P i) rfl ?_
      try dsimp only [setD, List.set]
      refine w_gd (dd := 17) rfl rfl h9 ?_
      refine w_mv (nodesP t) rfl ?_
      refine w_gd (dd := 17) rfl rfl h9 ?_
      refine w_cs _ (i64P (((t.length : Int) + 1) / 2)) rfl (cl_cons (cl_nodes ..) (cl_nil _)) (run_Leaves1 t (by first | assumption | exact wf_nil) h7) rfl (fun H => calm_s H _) ?_
      refine w_gd (dd := 17) rfl rfl h9 ?_
      refine w_bin (boolP (decide (i ≥ (((t.length : Int) + 1) / 2)))) rfl ?_
      refine w_pk0 (boolP (decide (i ≥ (((t.length : Int) + 1) / 2)))) rfl h9 rfl ?_
      try dsimp only [setD, List.set]
      refine w_as (boolP (decide (i ≥ (((t.length : Int) + 1) / 2)))) rfl ?_
      try dsimp only [setD, List.set]
      refine w_nil ?_
      refine un_n ?_
      refine w_if (decide (i ≥ (((t.length : Int) + 1) / 2))) rfl (fun h10 => ?_) (fun h10 => ?_)
      · have h10_ := of_decide_eq_true h10
        refine w_seq ?_
        refine w_reg ?_
        refine w_as nilS rfl ?_
        refine w_as (i64P 3) rfl ?_
        try dsimp only [setD, List.set]
        refine w_nil ?_
        refine un_n ?_
        refine w_ret ?_
        refine un_r ?_
        refine ⟨.inr rfl, [nilS, (i64P 3)], [(.own 37 0 []), (i64P 3)], rfl, (ca_cons (cr_nil el_22) (ca_cons (cr_i64 _) ca_nil)), ?_⟩
        first | (exfalso; omega) | (first | exact change_err (by unfold changeE haveE tree; simp only [*, if_true, if_false, Bool.false_eq_true, List.length_nil]; (repeat' split) <;> first | rfl | omega | (simp_all; done) | (simp_all; omega)) (by first | decide | omega | assumption) | exact change_ok (by unfold changeE haveE tree; simp only [*, if_true, if_false, Bool.false_eq_true, List.length_nil]; (repeat' split) <;> first | rfl | omega | (simp_all; done) | (simp_all; omega)) (by rw [rs_node]; simp [tree, *]) (by simp))
      · have h10_ := of_decide_eq_false h10
        have hcl := clearL_len' t i
        refine w_seq ?_
        refine w_reg ?_
        refine w_mv (nodesP t) rfl ?_
        refine w_mv (i64P i) rfl ?_
        refine w_bin (i64P (2 * i)) (b_mul rfl rfl (by omega) (by omega)) ?_
        refine w_ia (.lptr 37 (atF nodeCs 8 t (2 * i) 0)) (ix_lst nodeCs_len el_22 sz_37 (by omega) (by omega)) ?_
        try dsimp only [setD, List.set]
        refine w_fa (.lptr 37 (atF nodeCs 8 t (2 * i) 0)) (fa_at nodeCs_len (by omega) (by omega) fd_37_0 sz_3 (by decide) (by decide)) ?_
        refine w_ld (i64P ((nth t (2 * i)).kind)) (ld_lptr (ld_at nodeCs_len (by omega) (by omega) (by decide) (ld_one sz_3 ag_3 rfl))) ?_
        refine w_bin (boolP (decide ((nth t (2 * i)).kind = 0))) rfl ?_
        refine w_as (boolP (decide ((nth t (2 * i)).kind = 0))) rfl ?_
        try dsimp only [setD, List.set]
        refine w_nil ?_
        refine un_n ?_
        refine w_if (decide ((nth t (2 * i)).kind = 0)) rfl (fun h11 => ?_) (fun h11 => ?_)
        · have h11_ := of_decide_eq_true h11
          refine w_seq ?_
          refine w_reg ?_
          refine w_as nilS rfl ?_
          refine w_as (i64P 9) rfl ?_
          try dsimp only [setD, List.set]
          refine w_nil ?_
          refine un_n ?_
          refine w_ret ?_
          refine un_r ?_
          refine ⟨.inr rfl, [nilS, (i64P 9)], [(.own 37 0 []), (i64P 9)], rfl, (ca_cons (cr_nil el_22) (ca_cons (cr_i64 _) ca_nil)), ?_⟩
          first | (exfalso; omega) | (first | exact change_err (by unfold changeE haveE tree; simp only [*, if_true, if_false, Bool.false_eq_true, List.length_nil]; (repeat' split) <;> first | rfl | omega | (simp_all; done) | (simp_all; omega)) (by first | decide | omega | assumption) | exact change_ok (by unfold changeE haveE tree; simp only [*, if_true, if_false, Bool.false_eq_true, List.length_nil]; (repeat' split) <;> first | rfl | omega | (simp_all; done) | (simp_all; omega)) (by rw [rs_node]; simp [tree, *]) (by simp))
        · have h11_ := of_decide_eq_false h11
          refine w_skip ?_
          refine un_n ?_
          refine w_seq ?_
          refine w_seq ?_
          refine w_reg ?_
          refine w_fa (.ptr r1 0) (fa_ptr fd_68_0 sz_3 (by decide)) ?_
          refine w_ld (i64P 2) (ld_var ho8 1 rfl (ld_one sz_3 ag_3 rfl)) ?_
          refine w_bin (boolP (decide ((2 : Int) = 0))) rfl ?_
          try dsimp only [setD, List.set]
          refine w_nil ?_
          refine un_n ?_
          refine w_if0 rfl (by decide) ?_
          refine w_skip ?_
          refine un_n ?_
          refine w_seq ?_
          refine w_seq ?_
          refine w_reg ?_
          refine w_ld (.agg (leafCs l)) (ld_var ho8 0 rfl (ld_agg sz_25 ag_25 rfl (show 4 ≤ 4 by decide))) ?_
          refine w_fa (.ptr r1 0) (fa_ptr fd_68_0 sz_3 (by decide)) ?_
          refine w_ld (i64P 2) (ld_var ho8 1 rfl (ld_one sz_3 ag_3 rfl)) ?_
          refine w_cs _ (i64P (sourceE l 2)) rfl (cl_cons (cl_agg (cl_leafCs ..)) (cl_cons (cl_i64 ..) (cl_nil _))) (run_edit_source l 2) rfl (fun H => calm_s H _) ?_
          try dsimp only [setD, List.set]
          refine w_as (i64P (sourceE l 2)) rfl ?_
          try dsimp only [setD, List.set]
          refine w_nil ?_
          refine un_n ?_
          refine w_seq ?_
          refine w_reg ?_
          refine w_mv (i64P (sourceE l 2)) rfl ?_
          refine w_bin (boolP (!(decide ((sourceE l 2) = 0)))) rfl ?_
          try dsimp only [setD, List.set]
          refine w_nil ?_
          refine un_n ?_
          refine w_if (!(decide ((sourceE l 2) = 0))) rfl (fun h12 => ?_) (fun h12 => ?_)
          · have h12' := nb1 h12
            have h12'_ := of_decide_eq_false h12'
            refine w_seq ?_
            refine w_reg ?_
            refine w_mv (i64P (sourceE l 2)) rfl ?_
            refine w_as nilS rfl ?_
            refine w_as (i64P (sourceE l 2)) rfl ?_
            try dsimp only [setD, List.set]
            refine w_nil ?_
            refine un_n ?_
            refine w_ret ?_
            refine un_r ?_
            refine ⟨.inr rfl, [nilS, (i64P (sourceE l 2))], [(.own 37 0 []), (i64P (sourceE l 2))], rfl, (ca_cons (cr_nil el_22) (ca_cons (cr_i64 _) ca_nil)), ?_⟩
            first | (exfalso; omega) | (first | exact change_err (by unfold changeE haveE tree; simp only [*, if_true, if_false, Bool.false_eq_true, List.length_nil]; (repeat' split) <;> first | rfl | omega | (simp_all; done) | (simp_all; omega)) (by first | decide | omega | assumption) | exact change_ok (by unfold changeE haveE tree; simp only [*, if_true, if_false, Bool.false_eq_true, List.length_nil]; (repeat' split) <;> first | rfl | omega | (simp_all; done) | (simp_all; omega)) (by rw [rs_node]; simp [tree, *]) (by simp))
          · have h12' := nb0 h12
            have h12'_ := of_decide_eq_true h12'
            refine w_skip ?_
            refine un_n ?_
            refine w_seq ?_
            refine w_reg ?_
            refine w_fa (.ptr r1 1) (fa_ptr fd_68_1 sz_63 (by decide)) ?_
            refine w_ld (.fn 52 [] [(.lptr 3 [(i64P i)])]) (ld_var ho8 1 rfl (ld_one sz_63 ag_63 rfl)) ?_
            refine w_mv (nodesP t) rfl ?_
            refine w_cownt ho8 _ _ _ _ _ [(.int .i64 0)] [((.ptr r4 0), .cells 25 (leafCs l) none false), ((.ptr r1 0), .cells 68 [(i64P 2), (.fn 52 [] [(.lptr 3 [(i64P i)])])] none false)] rfl rfl (cl_cons (cl_nodes ..) (cl_cons rfl (cl_nil _))) (run_Change_f t i (by assumption) (by assumption) (by omega) (by omega)) sz_37 (by decide) (flat_len nodeCs_len _) (sl_cons (so_cells (has_tup (has_own (hasE_nodeCs (by decide) (by decide) (by decide) _)))) (sl_cons (so_cells (has_tup (has_own (hasE_nodeCs (by decide) (by decide) (by decide) _)))) sl_nil)) (fun _ r14 ho13 => ?_)
            rw [← rs_cells] at ho13
            try dsimp only [setD, List.set]
            refine w_mv (.tup [(.row r14 0 (clearL t i).length), (i64P 0)]) rfl ?_
            refine w_xt [(.row r14 0 (clearL t i).length), (i64P 0)] (.row r14 0 (clearL t i).length) rfl rfl ?_
            refine w_xt [(.row r14 0 (clearL t i).length), (i64P 0)] (i64P 0) rfl rfl ?_
            refine w_as (.row r14 0 (clearL t i).length) rfl ?_
            try dsimp only [setD, List.set]
            refine w_as (i64P 0) rfl ?_
            try dsimp only [setD, List.set]
            refine w_nil ?_
            refine un_n ?_
            refine w_seq ?_
            refine w_seq ?_
            refine w_reg ?_
            refine w_mv (i64P 0) rfl ?_
            refine w_bin (boolP (!(decide ((0 : Int) = 0)))) rfl ?_
            try dsimp only [setD, List.set]
            refine w_nil ?_
            refine un_n ?_
            refine w_if0 rfl (by decide) ?_
            refine w_skip ?_
            refine un_n ?_
            refine w_seq ?_
            refine w_reg ?_
            refine w_mv (.row r14 0 (clearL t i).length) rfl ?_
            refine w_mv (i64P i) rfl ?_
            refine w_ld (.agg (leafCs l)) (ld_var ho13 1 rfl (ld_agg sz_25 ag_25 rfl (show 4 ≤ 4 by decide))) ?_
            refine w_cown ho13 _ _ _ _ _ [((.row r14 0 (clearL t i).length), .cells 37 (((clearL t i).map Node.r).flatMap rCs) (some 8) false), ((.ptr r4 0), .cells 25 (leafCs l) none false), ((.ptr r1 0), .cells 68 [(i64P 2), (.fn 52 [] [(.lptr 3 [(i64P i)])])] none false)] rfl rfl (cl_cons (cl_rn0 ho13 0 rfl) (cl_cons (cl_i64 ..) (cl_cons (cl_agg (cl_leafCs ..)) (cl_nil _)))) (run_edit_laid (clearL t i) i l (by first | omega | (simp; omega) | (simp [sortL]; omega)) (by first | omega | (simp; omega) | (simp [sortL]; omega)) (by first | omega | (simp; omega) | (simp [sortL]; omega))) sz_37 (by decide) (flat_len nodeCs_len _) (sl_cons (so_cells (has_own (hasE_nodeCs (by decide) (by decide) (by decide) _))) (sl_cons (so_cells (has_own (hasE_nodeCs (by decide) (by decide) (by decide) _))) (sl_cons (so_cells (has_own (hasE_nodeCs (by decide) (by decide) (by decide) _))) sl_nil))) (fun _ r17 ho16 => ?_)
            rw [← rs_cells] at ho16
            try dsimp only [setD, List.set]
            refine w_as (.row r17 0 (laidL (clearL t i) i l).length) rfl ?_
            refine w_as (i64P 0) rfl ?_
            try dsimp only [setD, List.set]
            refine w_nil ?_
            refine un_n ?_
            refine w_ret ?_
            refine ⟨.inr rfl, [(.row r17 0 (laidL (clearL t i) i l).length), (i64P 0)], [(.own 37 (laidL (clearL t i) i l).length ((((laidL (clearL t i) i l).map Node.r).map RNode.node).flatMap nodeCs)), (i64P 0)], rfl, (ca_cons (cr_own ho16 0 rfl (by decide) (flat_len' rCs_len (by first | assumption | (simp; done) | (simp [*]; done) | (simp; omega))) el_22 sz_37 (offs_cons (off_i _ _) (offs_nil _)) (hasE_nodeCs (e := 37) (by decide) (by decide) (by decide) _) (cl_flat _ (fun _ => cl_rCs _ _) _)) (ca_cons (cr_i64 _) ca_nil)), ?_⟩
            first | (exfalso; omega) | (first | exact change_err (by unfold changeE haveE tree; simp only [*, if_true, if_false, Bool.false_eq_true, List.length_nil]; (repeat' split) <;> first | rfl | omega | (simp_all; done) | (simp_all; omega)) (by first | decide | omega | assumption) | exact change_ok (by unfold changeE haveE tree; simp only [*, if_true, if_false, Bool.false_eq_true, List.length_nil]; (repeat' split) <;> first | rfl | omega | (simp_all; done) | (simp_all; omega)) (by rw [rs_node]; simp [tree, *]) (by simp))
  · refine w_cown ho5 _ _ _ _ _ [((.ptr r4 0), .cells 25 (leafCs l) none false), ((.ptr r1 0), .cells 68 [(i64P 2), (.fn 52 [] [(.lptr 3 [(i64P i)])])] none false)] rfl rfl (cl_cons (cl_nodes ..) (cl_nil _)) (run_edit_known0 t (by first | assumption | exact wf_nil) h7) sz_37 (by decide) (flat_len nodeCs_len _) (sl_cons (so_cells (has_own (hasE_nodeCs (by decide) (by decide) (by decide) _))) (sl_cons (so_cells (has_own (hasE_nodeCs (by decide) (by decide) (by decide) _))) sl_nil)) (fun _ r20 ho19 => ?_)
    refine w_as (.row r20 0 0) rfl ?_
    try dsimp only [setD, List.set]
    refine w_nil ?_
    refine un_n ?_
    refine w_seq ?_
    refine w_block ?_
    refine w_seq ?_
    refine w_reg ?_
    refine w_mv (i64P i) rfl ?_
    refine w_bin (boolP (decide (i < 0))) rfl ?_
    refine w_mv (boolP (decide (i < 0))) rfl ?_
    rcases Bool.eq_false_or_eq_true (decide (i < 0)) with h22 | h22
    · have h22_ := of_decide_eq_true h22
      refine w_gn (dd := 17) rfl rfl h22 ?_
      try dsimp only [setD, List.set]
      refine w_gn (dd := 17) rfl rfl h22 ?_
      refine w_gn (dd := 17) rfl rfl h22 ?_
      refine w_gn (dd := 17) rfl rfl h22 ?_
      refine w_pk1 (boolP true) rfl h22 rfl ?_
      try dsimp only [setD, List.set]
      refine w_as (boolP true) rfl ?_
      try dsimp only [setD, List.set]
      refine w_nil ?_
      refine un_n ?_
      refine w_if1 rfl rfl ?_
      refine w_seq ?_
      refine w_reg ?_
      refine w_as nilS rfl ?_
      refine w_as (i64P 3) rfl ?_
      try dsimp only [setD, List.set]
      refine w_nil ?_
      refine un_n ?_
      refine w_ret ?_
      refine un_r ?_
      refine ⟨.inr rfl, [nilS, (i64P 3)], [(.own 37 0 []), (i64P 3)], rfl, (ca_cons (cr_nil el_22) (ca_cons (cr_i64 _) ca_nil)), ?_⟩
      first | (exfalso; omega) | (first | exact change_err (by unfold changeE haveE tree; simp only [*, if_true, if_false, Bool.false_eq_true, List.length_nil]; (repeat' split) <;> first | rfl | omega | (simp_all; done) | (simp_all; omega)) (by first | decide | omega | assumption) | exact change_ok (by unfold changeE haveE tree; simp only [*, if_true, if_false, Bool.false_eq_true, List.length_nil]; (repeat' split) <;> first | rfl | omega | (simp_all; done) | (simp_all; omega)) (by rw [rs_node]; simp [tree, *]) (by simp))
    · have h22_ := of_decide_eq_false h22
      refine w_gd (dd := 17) rfl rfl h22 ?_
      refine w_mv (i64P i) rfl ?_
      try dsimp only [setD, List.set]
      refine w_gd (dd := 17) rfl rfl h22 ?_
      refine w_mv (.row r20 0 0) rfl ?_
      refine w_gd (dd := 17) rfl rfl h22 ?_
      refine w_cs _ (i64P 0) rfl (cl_cons (cl_rn0 (X := []) ho19 0 rfl) (cl_nil _)) (run_Leaves1 ([] : List Node) (by first | assumption | exact wf_nil) (by rfl)) rfl (fun H => calm_s H _) ?_
      refine w_gd (dd := 17) rfl rfl h22 ?_
      refine w_bin (boolP (decide (i ≥ 0))) rfl ?_
      refine w_pk0 (boolP (decide (i ≥ 0))) rfl h22 rfl ?_
      try dsimp only [setD, List.set]
      refine w_as (boolP (decide (i ≥ 0))) rfl ?_
      try dsimp only [setD, List.set]
      refine w_nil ?_
      refine un_n ?_
      refine w_if (decide (i ≥ 0)) rfl (fun h23 => ?_) (fun h23 => ?_)
      · have h23_ := of_decide_eq_true h23
        refine w_seq ?_
        refine w_reg ?_
        refine w_as nilS rfl ?_
        refine w_as (i64P 3) rfl ?_
        try dsimp only [setD, List.set]
        refine w_nil ?_
        refine un_n ?_
        refine w_ret ?_
        refine un_r ?_
        refine ⟨.inr rfl, [nilS, (i64P 3)], [(.own 37 0 []), (i64P 3)], rfl, (ca_cons (cr_nil el_22) (ca_cons (cr_i64 _) ca_nil)), ?_⟩
        first | (exfalso; omega) | (first | exact change_err (by unfold changeE haveE tree; simp only [*, if_true, if_false, Bool.false_eq_true, List.length_nil]; (repeat' split) <;> first | rfl | omega | (simp_all; done) | (simp_all; omega)) (by first | decide | omega | assumption) | exact change_ok (by unfold changeE haveE tree; simp only [*, if_true, if_false, Bool.false_eq_true, List.length_nil]; (repeat' split) <;> first | rfl | omega | (simp_all; done) | (simp_all; omega)) (by rw [rs_node]; simp [tree, *]) (by simp))
      · have h23_ := of_decide_eq_false h23
        have hcl := clearL_len' t i
        exfalso; omega
end Go.Proofs.YtkkdkhacligaoaaGreatDoor.law
