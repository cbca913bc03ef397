/- Walks: what functions of the program come to, as the pure interpreter runs them. -/
import Derived.Test.YtkkdkhacligaoaaGreatDoorW13
import Derived.Test.YtkkdkhacligaoaaGreatDoorAwake
set_option linter.unusedSimpArgs false
set_option linter.unusedVariables false
namespace Go.Proofs.YtkkdkhacligaoaaGreatDoor.law
open Go.PI
theorem wf_sane {t : List Node} (h : sane t = true) : WfT t := by
  refine ⟨by have := sane_len h; omega, fun n hn => ?_⟩
  obtain ⟨x, hx, rfl⟩ := List.getElem_of_mem hn
  have h1 := sane_get h x hx
  unfold okAt at h1
  simp only [Bool.and_eq_true, decide_eq_true_eq] at h1
  by_cases hk : t[x].kind = 2
  · have := unm_len h (x := x) (by omega) (by omega) (by rw [nth_get hx]; exact hk)
    rw [nth_get hx] at this
    show (t[x].inner.unmerged.length : Int) ≤ _
    omega
  · have h2 := h1.2
    unfold nodeCheck at h2
    split at h2
    · omega
    · split at h2
      · omega
      · split at h2
        · omega
        · rename_i h3
          have : t[x].inner = noInner := by
            refine Classical.byContradiction fun hc => h3 ⟨hk, hc⟩
          show (t[x].inner.unmerged.length : Int) ≤ _
          rw [this]; decide
theorem wf_slice {t : List Node} (h : WfT t) (a b : Nat) : WfT ((t.drop a).take b) := by
  refine ⟨by have := h.1; rw [List.length_take, List.length_drop]; omega, fun n hn => h.2 n (List.mem_of_mem_drop (List.mem_of_mem_take hn))⟩
theorem wf_trim {t : List Node} (h : WfT t) : WfT (trimN t) := by
  obtain ⟨n, _, h2, _⟩ := trimN_take t
  rw [h2]
  exact wf_slice (t := t) h 0 n
theorem trimN_nil : trimN [] = [] := trim_end (by simp)
theorem trimK_nil : trimK [] = true := by unfold trimK; rw [trimN_nil]; rfl
theorem run_EditBack (t : List Node) (l : Leaf) (ht : WfT t) : Run C0 3 [(nodesP t), (.agg (leafCs l))] (boolP true) := by
  have hlt := ht.1
  refine run_fn (C := C0) (c := _) [(nodesP t), (.agg (leafCs l)), undefP, undefP, undefP, undefP, undefP, undefP, undefP, undefP, undefP, undefP, undefP, undefP, undefP, undefP, undefP, undefP, undefP, undefP, undefP, undefP, undefP, undefP, undefP, undefP, undefP, undefP, undefP, undefP, undefP, undefP, undefP, undefP, undefP, undefP, undefP, undefP, undefP, undefP, undefP, undefP, undefP, undefP, undefP, undefP, undefP, undefP, undefP, undefP, undefP, undefP, undefP, undefP, undefP, undefP, undefP, undefP, undefP, undefP, undefP, undefP, undefP, undefP, undefP, undefP, undefP, undefP, undefP, undefP, undefP, undefP, undefP, undefP, undefP, undefP, undefP, undefP, undefP, undefP, undefP, undefP, undefP, undefP, undefP, undefP, undefP, undefP, undefP, undefP, undefP, undefP] Tryz.func3 rfl rfl rfl rfl ?_
  have ho := own_nil []
  refine w_seq ?_
  refine w_reg ?_
  refine w_box ho (leafCs l) rfl (isC_leaf _) (fun _ r1 ho2 => ?_)
  refine w_as (boolP false) rfl ?_
  try dsimp only [setD, List.set]
  refine w_nil ?_
  refine un_n ?_
  refine w_seq ?_
  refine w_reg ?_
  refine w_cs _ (boolP true) rfl (cl_nil _) (awake ) rfl (fun H => calm_s H _) ?_
  refine w_as (boolP true) rfl ?_
  try dsimp only [setD, List.set]
  refine w_nil ?_
  refine un_n ?_
  refine w_seq ?_
  refine w_seq ?_
  refine w_reg ?_
  refine w_mv (nodesP t) rfl ?_
  refine w_cs _ (boolP (few t)) rfl (cl_cons (cl_nodes ..) (cl_nil _)) (run_cordwoodref10_Few t (by first | assumption | omega)) rfl (fun H => calm_s H _) ?_
  refine w_un (boolP (!(few t))) rfl ?_
  refine w_mv (boolP (!(few t))) rfl ?_
  try dsimp only [setD, List.set]
  rcases Bool.eq_false_or_eq_true (!(few t)) with h4 | h4
  · have h4' := nb1 h4
    refine w_gn (dd := 17) rfl rfl h4 ?_
    refine w_gn (dd := 17) rfl rfl h4 ?_
    refine w_gn (dd := 17) rfl rfl h4 ?_
    refine w_pk1 (boolP true) rfl h4 rfl ?_
    try dsimp only [setD, List.set]
    refine w_nil ?_
    refine un_n ?_
    refine w_if1 rfl rfl ?_
    refine w_seq ?_
    refine w_reg ?_
    refine w_mv (boolP true) rfl ?_
    refine w_as (boolP true) rfl ?_
    try dsimp only [setD, List.set]
    refine w_nil ?_
    refine un_n ?_
    refine w_ret ?_
    refine un_r ?_
    refine ⟨.inr rfl, [(boolP true)], [(boolP true)], rfl, rfl, ?_⟩
    refine congrArg boolP (?_ : true = true)
    first | (exfalso; omega) | (first | rfl | exact decide_eq_true hrn | exact decide_eq_true trimN_nil)
  · have h4' := nb0 h4
    refine w_gd (dd := 17) rfl rfl h4 ?_
    refine w_mv (nodesP t) rfl ?_
    refine w_gd (dd := 17) rfl rfl h4 ?_
    refine w_cs _ (boolP (sane t)) rfl (cl_cons (cl_nodes ..) (cl_nil _)) (run_shape_Sane t (by first | assumption | exact wf_nil | exact wf_sane (by assumption) | exact wf_slice (by assumption) _ _ | exact wf_trim (by assumption) | exact wf_trim wf_nil)) rfl (fun H => calm_s H _) ?_
    refine w_gd (dd := 17) rfl rfl h4 ?_
    refine w_un (boolP (!(sane t))) rfl ?_
    refine w_pk0 (boolP (!(sane t))) rfl h4 rfl ?_
    try dsimp only [setD, List.set]
    refine w_nil ?_
    refine un_n ?_
    refine w_if (!(sane t)) rfl (fun h5 => ?_) (fun h5 => ?_)
    · have h5' := nb1 h5
      refine w_seq ?_
      refine w_reg ?_
      refine w_mv (boolP true) rfl ?_
      refine w_as (boolP true) rfl ?_
      try dsimp only [setD, List.set]
      refine w_nil ?_
      refine un_n ?_
      refine w_ret ?_
      refine un_r ?_
      refine ⟨.inr rfl, [(boolP true)], [(boolP true)], rfl, rfl, ?_⟩
      refine congrArg boolP (?_ : true = true)
      first | (exfalso; omega) | (first | rfl | exact decide_eq_true hrn | exact decide_eq_true trimN_nil)
    · have h5' := nb0 h5
      have h5'_l := sane_len h5'
      refine w_skip ?_
      refine un_n ?_
      refine w_seq ?_
      refine w_reg ?_
      refine w_mv (nodesP t) rfl ?_
      refine w_ld (.agg (leafCs l)) (ld_var ho2 0 rfl (ld_agg sz_25 ag_25 rfl (show 4 ≤ 4 by decide))) ?_
      refine w_cownt ho2 _ _ _ _ _ [(.int .i64 (addI t l)), (.int .i64 (addE t l))] [((.ptr r1 0), .cells 25 (leafCs l) none false)] rfl rfl (cl_cons (cl_nodes ..) (cl_cons (cl_agg (cl_leafCs ..)) (cl_nil _))) (run_Add1 t l (by first | assumption | exact wf_nil | exact wf_sane (by assumption) | exact wf_slice (by assumption) _ _ | exact wf_trim (by assumption) | exact wf_trim wf_nil) (by assumption)) sz_37 (by decide) (flat_len nodeCs_len _) (sl_cons (so_cells (has_tup (has_own (hasE_nodeCs (by decide) (by decide) (by decide) _)))) sl_nil) (fun _ r7 ho6 => ?_)
      rw [← rs_cells] at ho6
      refine w_mv (.tup [(.row r7 0 (addT t l).length), (i64P (addI t l)), (i64P (addE t l))]) rfl ?_
      try dsimp only [setD, List.set]
      refine w_xt [(.row r7 0 (addT t l).length), (i64P (addI t l)), (i64P (addE t l))] (.row r7 0 (addT t l).length) rfl rfl ?_
      refine w_xt [(.row r7 0 (addT t l).length), (i64P (addI t l)), (i64P (addE t l))] (i64P (addI t l)) rfl rfl ?_
      refine w_xt [(.row r7 0 (addT t l).length), (i64P (addI t l)), (i64P (addE t l))] (i64P (addE t l)) rfl rfl ?_
      refine w_as (.row r7 0 (addT t l).length) rfl ?_
      try dsimp only [setD, List.set]
      refine w_as (i64P (addI t l)) rfl ?_
      refine w_as (i64P (addE t l)) rfl ?_
      try dsimp only [setD, List.set]
      refine w_nil ?_
      refine un_n ?_
      refine w_seq ?_
      refine w_seq ?_
      refine w_reg ?_
      refine w_mv (i64P (addE t l)) rfl ?_
      refine w_bin (boolP (!(decide ((addE t l) = 0)))) rfl ?_
      try dsimp only [setD, List.set]
      refine w_nil ?_
      refine un_n ?_
      refine w_if (!(decide ((addE t l) = 0))) rfl (fun h9 => ?_) (fun h9 => ?_)
      · have h9' := nb1 h9
        have h9'_ := of_decide_eq_false h9'
        refine w_seq ?_
        refine w_reg ?_
        refine w_mv (boolP true) rfl ?_
        refine w_as (boolP true) rfl ?_
        try dsimp only [setD, List.set]
        refine w_nil ?_
        refine un_n ?_
        refine w_ret ?_
        refine un_r ?_
        refine ⟨.inr rfl, [(boolP true)], [(boolP true)], rfl, rfl, ?_⟩
        refine congrArg boolP (?_ : true = true)
        first | (exfalso; omega) | (first | rfl | exact decide_eq_true hrn | exact decide_eq_true trimN_nil)
      · have h9' := nb0 h9
        have h9'_ := of_decide_eq_true h9'
        have hz : addE t l = 0 := h9'_
        obtain ⟨ha0, ha1, ha2, ha3, ha4, ha5⟩ := add_at (by assumption) hz
        have hsa := sane_add (by assumption) hz
        have hal := sane_len hsa
        have hrl := rem_len (by assumption) hz
        have hwa := wf_sane hsa
        have hre : decide (removeE (addT t l) (addI t l) = 0) = true := decide_eq_true (add_have (by assumption) hz)
        have hwh := sane_whole hsa (by omega)
        refine w_skip ?_
        refine un_n ?_
        refine w_seq ?_
        refine w_reg ?_
        refine w_mv (.row r7 0 (addT t l).length) rfl ?_
        refine w_mv (i64P (addI t l)) rfl ?_
        rcases Bool.eq_false_or_eq_true (removeK (addT t l) (addI t l)) with h10 | h10
        · have hrt : (removeT (addT t l) (addI t l)) = trimN (clearL (tree (addT t l)) (addI t l)) := by unfold removeT; rw [if_pos h10]
          have hrk : trimK (removeT (addT t l) (addI t l)) = true := by rw [hrt]; exact trimK_again (removeK_one h10).2
          have hrn : trimN (removeT (addT t l) (addI t l)) = (removeT (addT t l) (addI t l)) := by rw [hrt]; exact trimN_again _
          have hwr : WfT (removeT (addT t l) (addI t l)) := wf_sane (trimK_sane hrk)
          have hrm : decide (((removeT (addT t l) (addI t l)).length : Int) > ((addT t l).length : Int)) = false := decide_eq_false (by omega)
          refine w_cclt ho6 _ _ _ _ [(.int .i64 0)] [((.row r7 0 (addT t l).length), .cells 37 (((addT t l).map Node.r).flatMap rCs) (some 8) (false || hasE 37 (.tup [(nodesP (removeT (addT t l) (addI t l))), (i64P 0)]))), ((.ptr r1 0), .cells 25 (leafCs l) none false)] rfl rfl (cl_cons (cl_rn0 ho6 0 rfl) (cl_cons (cl_i64 ..) (cl_nil _))) (run_Remove1 (addT t l) (addI t l) (by first | assumption | exact wf_nil | exact wf_sane (by assumption) | exact wf_slice (by assumption) _ _ | exact wf_trim (by assumption) | exact wf_trim wf_nil) h10) (sl_cons rfl (sl_cons (so_cells (has_tup (hasE_nodes (by decide) (by decide) (by decide) (by decide) _))) sl_nil)) (fun _ ho11 => ?_)
          refine w_mv (.tup [(nodesP (removeT (addT t l) (addI t l))), (i64P 0)]) rfl ?_
          try dsimp only [setD, List.set]
          refine w_xt [(nodesP (removeT (addT t l) (addI t l))), (i64P 0)] (nodesP (removeT (addT t l) (addI t l))) rfl rfl ?_
          refine w_xt [(nodesP (removeT (addT t l) (addI t l))), (i64P 0)] (i64P 0) rfl rfl ?_
          refine w_as (nodesP (removeT (addT t l) (addI t l))) rfl ?_
          refine w_as (i64P 0) rfl ?_
          try dsimp only [setD, List.set]
          refine w_nil ?_
          refine un_n ?_
          refine w_seq ?_
          refine w_seq ?_
          refine w_reg ?_
          refine w_mv (i64P 0) rfl ?_
          refine w_bin (boolP (!(decide ((0 : Int) = 0)))) rfl ?_
          refine w_mv (boolP (!(decide ((0 : Int) = 0)))) rfl ?_
          refine w_gd (dd := 41) rfl rfl (by decide) ?_
          refine w_mv (nodesP (removeT (addT t l) (addI t l))) rfl ?_
          try dsimp only [setD, List.set]
          refine w_gd (dd := 41) rfl rfl (by decide) ?_
          refine w_lenC _ _ _ ((removeT (addT t l) (addI t l)).length : Int) (by rw [el_22]; rfl) rfl rfl ?_
          refine w_gd (dd := 41) rfl rfl (by decide) ?_
          refine w_mv (.row r7 0 (addT t l).length) rfl ?_
          refine w_gd (dd := 41) rfl rfl (by decide) ?_
          refine w_lenO ho11 0 ((addT t l).length) ((addT t l).length : Int) (by rw [el_22]; rfl) rfl rfl (by decide) (flat_len' rCs_len (by first | assumption | (simp; done) | (simp [*]; done) | (simp; omega))) rfl ?_
          refine w_gd (dd := 41) rfl rfl (by decide) ?_
          refine w_bin (boolP (decide (((removeT (addT t l) (addI t l)).length : Int) > ((addT t l).length : Int)))) rfl ?_
          try dsimp only [setD, List.set]
          refine w_pk0 (boolP (decide (((removeT (addT t l) (addI t l)).length : Int) > ((addT t l).length : Int)))) rfl (by decide) rfl ?_
          refine w_mv (boolP (decide (((removeT (addT t l) (addI t l)).length : Int) > ((addT t l).length : Int)))) rfl ?_
          refine w_gd (dd := 48) rfl rfl hrm ?_
          refine w_mv (i64P (addI t l)) rfl ?_
          refine w_gd (dd := 48) rfl rfl hrm ?_
          refine w_bin (boolP (decide ((addI t l) < 0))) rfl ?_
          try dsimp only [setD, List.set]
          refine w_pk0 (boolP (decide ((addI t l) < 0))) rfl hrm rfl ?_
          try dsimp only [setD, List.set]
          refine w_nil ?_
          refine un_n ?_
          refine w_if (decide ((addI t l) < 0)) rfl (fun h12 => ?_) (fun h12 => ?_)
          · have h12_ := of_decide_eq_true h12
            exfalso; omega
          · have h12_ := of_decide_eq_false h12
            refine w_skip ?_
            refine un_n ?_
            refine w_seq ?_
            refine w_seq ?_
            refine w_reg ?_
            refine w_as (i64P 0) rfl ?_
            try dsimp only [setD, List.set]
            refine w_nil ?_
            refine un_n ?_
            refine w_block ?_
            refine w_loop (fun n g H => ∃ (x : Int) (j4 : PV) (j12 : PV) (j52 : PV) (j53 : PV) (j54 : PV) (j55 : PV) (j56 : PV) (j57 : PV) (j58 : PV) (j59 : PV) (j60 : PV) (j61 : PV) (j62 : PV) (j63 : PV) (j64 : PV) (j65 : PV) (j66 : PV) (j67 : PV) (j68 : PV) (j69 : PV) (j70 : PV) (j71 : PV) (j72 : PV) (j73 : PV) (j74 : PV) (j75 : PV) (j76 : PV) (j77 : PV) (j78 : PV) (j79 : PV) (j80 : PV) (j81 : PV) (j82 : PV) (j83 : PV) (j84 : PV), g = [(nodesP t), (.agg (leafCs l)), undefP, (.ptr r1 0), j4, (boolP true), (.row r7 0 (addT t l).length), (i64P (addI t l)), (i64P (addE t l)), (nodesP (removeT (addT t l) (addI t l))), (i64P 0), (i64P x), j12, (boolP true), (nodesP t), (boolP (few t)), (boolP (!(few t))), (boolP (!(few t))), (nodesP t), (boolP (sane t)), (boolP (!(sane t))), (boolP (!(sane t))), undefP, (.tup [(.row r7 0 (addT t l).length), (i64P (addI t l)), (i64P (addE t l))]), (nodesP t), (.agg (leafCs l)), (.tup [(.row r7 0 (addT t l).length), (i64P (addI t l)), (i64P (addE t l))]), (.row r7 0 (addT t l).length), (i64P (addI t l)), (i64P (addE t l)), (i64P (addE t l)), (boolP (!(decide ((addE t l) = 0)))), undefP, (.tup [(nodesP (removeT (addT t l) (addI t l))), (i64P 0)]), (.row r7 0 (addT t l).length), (i64P (addI t l)), (.tup [(nodesP (removeT (addT t l) (addI t l))), (i64P 0)]), (nodesP (removeT (addT t l) (addI t l))), (i64P 0), (i64P 0), (boolP (!(decide ((0 : Int) = 0)))), (boolP (!(decide ((0 : Int) = 0)))), (nodesP (removeT (addT t l) (addI t l))), (i64P ((removeT (addT t l) (addI t l)).length : Int)), (.row r7 0 (addT t l).length), (i64P ((addT t l).length : Int)), (boolP (decide (((removeT (addT t l) (addI t l)).length : Int) > ((addT t l).length : Int)))), (boolP (decide (((removeT (addT t l) (addI t l)).length : Int) > ((addT t l).length : Int)))), (boolP (decide (((removeT (addT t l) (addI t l)).length : Int) > ((addT t l).length : Int)))), (i64P (addI t l)), (boolP (decide ((addI t l) < 0))), (boolP (decide ((addI t l) < 0))), j52, j53, j54, j55, j56, j57, j58, j59, j60, j61, j62, j63, j64, j65, j66, j67, j68, j69, j70, j71, j72, j73, j74, j75, j76, j77, j78, j79, j80, j81, j82, j83, j84, undefP, undefP, undefP, undefP, undefP, undefP, undefP] ∧ Own H [((.row r7 0 (addT t l).length), .cells 37 (((addT t l).map Node.r).flatMap rCs) (some 8) (false || hasE 37 (.tup [(nodesP (removeT (addT t l) (addI t l))), (i64P 0)]))), ((.ptr r1 0), .cells 25 (leafCs l) none false)] ∧ n = (((removeT (addT t l) (addI t l)).length : Int) - x).toNat ∧ (0 ≤ x) ∧ (x ≤ ((removeT (addT t l) (addI t l)).length : Int))) ⟨0, _, _, _, _, _, _, _, _, _, _, _, _, _, _, _, _, _, _, _, _, _, _, _, _, _, _, _, _, _, _, _, _, _, _, _, rfl, ho11, rfl, (by omega), (by omega)⟩ ?_
            rintro m14 _ H ⟨x, j4, j12, j52, j53, j54, j55, j56, j57, j58, j59, j60, j61, j62, j63, j64, j65, j66, j67, j68, j69, j70, j71, j72, j73, j74, j75, j76, j77, j78, j79, j80, j81, j82, j83, j84, rfl, ho13, em14, hx0, hx1⟩
            refine w_seq ?_
            refine w_seq ?_
            refine w_reg ?_
            refine w_mv (i64P x) rfl ?_
            refine w_mv (nodesP (removeT (addT t l) (addI t l))) rfl ?_
            refine w_lenC _ _ _ ((removeT (addT t l) (addI t l)).length : Int) (by rw [el_22]; rfl) rfl rfl ?_
            refine w_bin (boolP (decide (x < ((removeT (addT t l) (addI t l)).length : Int)))) rfl ?_
            try dsimp only [setD, List.set]
            refine w_nil ?_
            refine un_n ?_
            refine w_if (decide (x < ((removeT (addT t l) (addI t l)).length : Int))) rfl (fun h15 => ?_) (fun h15 => ?_)
            · have h15_ := of_decide_eq_true h15
              refine w_skip ?_
              refine un_n ?_
              refine w_seq ?_
              refine w_block ?_
              refine w_seq ?_
              refine w_reg ?_
              refine w_bd (.agg [(i64P 0), nilS, nilS, (i64P 0), nilS, nilS, nilS, nilS]) (bd_st zp_37 pl_37 fill_nil) ?_
              refine w_alloc ho13 [(i64P 0), nilS, nilS, (i64P 0), nilS, nilS, nilS, nilS] zp_37 (fun _ r16 ho17 => ?_)
              refine w_stv ho17 0 (.agg [(i64P 0), nilS, nilS, (i64P 0), nilS, nilS, nilS, nilS]) [(i64P 0), nilS, nilS, (i64P 0), nilS, nilS, nilS, nilS] [((.ptr r16 0), .cells 37 [(i64P 0), nilS, nilS, (i64P 0), nilS, nilS, nilS, nilS] none false), ((.row r7 0 (addT t l).length), .cells 37 (((addT t l).map Node.r).flatMap rCs) (some 8) (false || hasE 37 (.tup [(nodesP (removeT (addT t l) (addI t l))), (i64P 0)]))), ((.ptr r1 0), .cells 25 (leafCs l) none false)] rfl rfl rfl sz_37 rfl rfl (by decide) (isC_cons rfl (isC_cons rfl (isC_cons rfl (isC_cons rfl (isC_cons rfl (isC_cons rfl (isC_cons rfl (isC_cons rfl (isC_nil))))))))) (show 8 ≤ 8 by decide) rfl rfl (fun _ ho19 => ?_)
              try dsimp only [setD, List.set]
              refine w_nil ?_
              refine un_n ?_
              refine w_seq ?_
              refine w_seq ?_
              refine w_reg ?_
              refine w_mv (i64P x) rfl ?_
              refine w_mv (nodesP t) rfl ?_
              refine w_lenC _ _ _ (t.length : Int) (by rw [el_22]; rfl) rfl rfl ?_
              refine w_bin (boolP (decide (x < (t.length : Int)))) rfl ?_
              try dsimp only [setD, List.set]
              refine w_mv (boolP (decide (x < (t.length : Int)))) rfl ?_
              rcases Bool.eq_false_or_eq_true (decide (x < (t.length : Int))) with h20 | h20
              · have h20_ := of_decide_eq_true h20
                refine w_gd (dd := 63) rfl rfl h20 ?_
                refine w_mv (i64P (addI t l)) rfl ?_
                refine w_gd (dd := 63) rfl rfl h20 ?_
                refine w_bin (i64P (2 * (addI t l))) (b_mul rfl rfl (by omega) (by omega)) ?_
                refine w_gd (dd := 63) rfl rfl h20 ?_
                refine w_mv (i64P x) rfl ?_
                try dsimp only [setD, List.set]
                refine w_gd (dd := 63) rfl rfl h20 ?_
                refine w_mv (.row r7 0 (addT t l).length) rfl ?_
                refine w_gd (dd := 63) rfl rfl h20 ?_
                refine w_lenO ho19 1 ((addT t l).length) ((addT t l).length : Int) (by rw [el_22]; rfl) rfl rfl (by decide) (flat_len' rCs_len (by first | assumption | (simp; done) | (simp [*]; done) | (simp; omega))) rfl ?_
                refine w_gd (dd := 63) rfl rfl h20 ?_
                refine w_cs _ (boolP (decide (x ∈ upI (2 * (addI t l)) ((addT t l).length : Int)))) rfl (cl_cons (cl_i64 ..) (cl_cons (cl_i64 ..) (cl_cons (cl_i64 ..) (cl_nil _)))) (run_under (2 * (addI t l)) x ((addT t l).length : Int) (by first | assumption | exact sane_whole (by assumption) (by omega)) (by omega) (by omega)) rfl (fun H => calm_s H _) ?_
                refine w_gd (dd := 63) rfl rfl h20 ?_
                refine w_un (boolP (!(decide (x ∈ upI (2 * (addI t l)) ((addT t l).length : Int))))) rfl ?_
                try dsimp only [setD, List.set]
                refine w_pk1 (boolP (!(decide (x ∈ upI (2 * (addI t l)) ((addT t l).length : Int))))) rfl h20 rfl ?_
                try dsimp only [setD, List.set]
                refine w_nil ?_
                refine un_n ?_
                refine w_if (!(decide (x ∈ upI (2 * (addI t l)) ((addT t l).length : Int)))) rfl (fun h21 => ?_) (fun h21 => ?_)
                · have h21' := nb1 h21
                  refine w_reg ?_
                  refine w_mv (nodesP t) rfl ?_
                  refine w_mv (i64P x) rfl ?_
                  refine w_ia (.lptr 37 (atF nodeCs 8 t x 0)) (ix_lst nodeCs_len el_22 sz_37 (by omega) (by omega)) ?_
                  refine w_ld (.agg (nodeCs (nth t x))) (ld_lptr (ld_at nodeCs_len (by omega) (by omega) (by decide) (ld_agg sz_37 ag_37 rfl (show 8 ≤ 8 by decide)))) ?_
                  try dsimp only [setD, List.set]
                  refine w_stv ho19 0 (.agg (nodeCs (nth t x))) (nodeCs (nth t x)) [((.ptr r16 0), .cells 37 (nodeCs (nth t x)) none false), ((.row r7 0 (addT t l).length), .cells 37 (((addT t l).map Node.r).flatMap rCs) (some 8) (false || hasE 37 (.tup [(nodesP (removeT (addT t l) (addI t l))), (i64P 0)]))), ((.ptr r1 0), .cells 25 (leafCs l) none false)] rfl rfl rfl sz_37 rfl rfl (by decide) (isC_node _) (show 8 ≤ 8 by decide) rfl rfl (fun _ ho22 => ?_)
                  refine w_nil ?_
                  refine un_n ?_
                  refine w_seq ?_
                  refine w_reg ?_
                  refine w_mv (nodesP (removeT (addT t l) (addI t l))) rfl ?_
                  refine w_mv (i64P x) rfl ?_
                  refine w_mv (i64P x) rfl ?_
                  refine w_bin (i64P (x + 1)) (b_add rfl rfl (by omega) (by omega)) ?_
                  try dsimp only [setD, List.set]
                  refine w_slL (f := nodeCs) (l0 := (removeT (addT t l) (addI t l))) (x.toNat) ((x + 1).toNat) nodeCs_len (ls_clo _ _) rfl el_22 sz_37 (bound_i (by first | omega | (simp; omega) | (simp [sortL]; omega))) (bound_i (by first | omega | (simp; omega) | (simp [sortL]; omega))) (by first | omega | (simp; omega) | (simp [sortL]; omega)) (by first | omega | (simp; omega) | (simp [sortL]; omega)) (((removeT (addT t l) (addI t l)).drop x.toNat).take ((x + 1).toNat - x.toNat)) false rfl rfl (fun p23 hp24 => ?_)
                  refine w_ld (.agg (nodeCs (nth t x))) (ld_var ho22 0 rfl (ld_agg sz_37 ag_37 rfl (show 8 ≤ 8 by decide))) ?_
                  refine w_bs ho22 [(i64P ((nth t x).kind)), (octP (((nth t x).leaf).enc)), (octP (((nth t x).leaf).cred)), (i64P (((nth t x).leaf).source)), (octP (((nth t x).leaf).parent)), (octP (((nth t x).inner).enc)), (octP (((nth t x).inner).hash)), (intsP (((nth t x).inner).unmerged))] el_22 sz_37 zp_37 (by decide) (by decide) rfl (fill_cons rfl rfl rfl rfl (isC_node _) rfl fill_nil) rfl (fun _ r26 ho27 => ?_)
                  refine w_cs _ (boolP (decide ((((removeT (addT t l) (addI t l)).drop x.toNat).take ((x + 1).toNat - x.toNat)) = ([(⟨((nth t x).kind), (some (((nth t x).leaf).enc)), (some (((nth t x).leaf).cred)), (((nth t x).leaf).source), (some (((nth t x).leaf).parent)), (some (((nth t x).inner).enc)), (some (((nth t x).inner).hash)), (some (((nth t x).inner).unmerged))⟩ : RNode)].map RNode.node)))) rfl (cl_cons (cl_ls hp24) (cl_cons (show close _ _ _ = some (nodesP _) from by unfold nodesP; rw [List.length_map]; exact cl_own (cs := ([(⟨((nth t x).kind), (some (((nth t x).leaf).enc)), (some (((nth t x).leaf).cred)), (((nth t x).leaf).source), (some (((nth t x).leaf).parent)), (some (((nth t x).inner).enc)), (some (((nth t x).inner).hash)), (some (((nth t x).inner).unmerged))⟩ : RNode)] : List RNode).flatMap rCs) (n := 1) ho27 0 rfl (by decide) rfl (cl_flat _ (fun _ => cl_rCs _ _) _)) (cl_nil _))) (run_cordwoodref10_Same (((removeT (addT t l) (addI t l)).drop x.toNat).take ((x + 1).toNat - x.toNat)) ([(⟨((nth t x).kind), (some (((nth t x).leaf).enc)), (some (((nth t x).leaf).cred)), (((nth t x).leaf).source), (some (((nth t x).leaf).parent)), (some (((nth t x).inner).enc)), (some (((nth t x).inner).hash)), (some (((nth t x).inner).unmerged))⟩ : RNode)].map RNode.node) (by first | assumption | exact wf_nil | exact wf_sane (by assumption) | exact wf_slice (by assumption) _ _ | exact wf_trim (by assumption) | exact wf_trim wf_nil)) rfl (fun H => calm_s H _) ?_
                  try dsimp only [setD, List.set]
                  refine w_un (boolP (!(decide ((((removeT (addT t l) (addI t l)).drop x.toNat).take ((x + 1).toNat - x.toNat)) = ([(⟨((nth t x).kind), (some (((nth t x).leaf).enc)), (some (((nth t x).leaf).cred)), (((nth t x).leaf).source), (some (((nth t x).leaf).parent)), (some (((nth t x).inner).enc)), (some (((nth t x).inner).hash)), (some (((nth t x).inner).unmerged))⟩ : RNode)].map RNode.node))))) rfl ?_
                  try dsimp only [setD, List.set]
                  refine w_nil ?_
                  refine un_n ?_
                  refine w_if (!(decide ((((removeT (addT t l) (addI t l)).drop x.toNat).take ((x + 1).toNat - x.toNat)) = ([(⟨((nth t x).kind), (some (((nth t x).leaf).enc)), (some (((nth t x).leaf).cred)), (((nth t x).leaf).source), (some (((nth t x).leaf).parent)), (some (((nth t x).inner).enc)), (some (((nth t x).inner).hash)), (some (((nth t x).inner).unmerged))⟩ : RNode)].map RNode.node)))) rfl (fun h28 => ?_) (fun h28 => ?_)
                  · have h28' := nb1 h28
                    have h28'_ := of_decide_eq_false h28'
                    exfalso; refine of_decide_eq_false h28' ?_; rw [slice_one (by omega) (by omega), back_get (by assumption) hz (by omega) (by omega)]; first | (rw [if_pos ⟨by omega, of_decide_eq_false (by assumption)⟩]; rfl) | (rw [if_neg (by rintro ⟨c1, c2⟩; first | omega | exact c2 (of_decide_eq_true (by assumption)))]; rfl)
                  · have h28' := nb0 h28
                    have h28'_ := of_decide_eq_true h28'
                    refine w_skip ?_
                    refine un_n ?_
                    refine w_reg ?_
                    refine w_mv (i64P x) rfl ?_
                    refine w_bin (i64P (x + 1)) (b_add rfl rfl (by omega) (by omega)) ?_
                    refine w_as (i64P (x + 1)) rfl ?_
                    try dsimp only [setD, List.set]
                    refine w_nil ?_
                    exact un_n ⟨_, (by omega), (x + 1), _, _, _, _, _, _, _, _, _, _, _, _, _, _, _, _, _, _, _, _, _, _, _, _, _, _, _, _, _, _, _, _, _, _, _, rfl, (ho27.sub [2, 3] (by decide) rfl), rfl, (by omega), (by omega)⟩
                · have h21' := nb0 h21
                  refine w_skip ?_
                  refine un_n ?_
                  refine w_seq ?_
                  refine w_reg ?_
                  refine w_mv (nodesP (removeT (addT t l) (addI t l))) rfl ?_
                  refine w_mv (i64P x) rfl ?_
                  refine w_mv (i64P x) rfl ?_
                  refine w_bin (i64P (x + 1)) (b_add rfl rfl (by omega) (by omega)) ?_
                  try dsimp only [setD, List.set]
                  refine w_slL (f := nodeCs) (l0 := (removeT (addT t l) (addI t l))) (x.toNat) ((x + 1).toNat) nodeCs_len (ls_clo _ _) rfl el_22 sz_37 (bound_i (by first | omega | (simp; omega) | (simp [sortL]; omega))) (bound_i (by first | omega | (simp; omega) | (simp [sortL]; omega))) (by first | omega | (simp; omega) | (simp [sortL]; omega)) (by first | omega | (simp; omega) | (simp [sortL]; omega)) (((removeT (addT t l) (addI t l)).drop x.toNat).take ((x + 1).toNat - x.toNat)) false rfl rfl (fun p29 hp30 => ?_)
                  refine w_ld (.agg [(i64P 0), nilS, nilS, (i64P 0), nilS, nilS, nilS, nilS]) (ld_var ho19 0 rfl (ld_agg sz_37 ag_37 rfl (show 8 ≤ 8 by decide))) ?_
                  refine w_bs ho19 [(i64P 0), nilS, nilS, (i64P 0), nilS, nilS, nilS, nilS] el_22 sz_37 zp_37 (by decide) (by decide) rfl (fill_cons rfl rfl rfl rfl (isC_cons rfl (isC_cons rfl (isC_cons rfl (isC_cons rfl (isC_cons rfl (isC_cons rfl (isC_cons rfl (isC_cons rfl (isC_nil))))))))) rfl fill_nil) rfl (fun _ r32 ho33 => ?_)
                  refine w_cs _ (boolP (decide ((((removeT (addT t l) (addI t l)).drop x.toNat).take ((x + 1).toNat - x.toNat)) = ([(⟨0, none, none, 0, none, none, none, none⟩ : RNode)].map RNode.node)))) rfl (cl_cons (cl_ls hp30) (cl_cons (show close _ _ _ = some (nodesP _) from by unfold nodesP; rw [List.length_map]; exact cl_own (cs := ([(⟨0, none, none, 0, none, none, none, none⟩ : RNode)] : List RNode).flatMap rCs) (n := 1) ho33 0 rfl (by decide) rfl (cl_flat _ (fun _ => cl_rCs _ _) _)) (cl_nil _))) (run_cordwoodref10_Same (((removeT (addT t l) (addI t l)).drop x.toNat).take ((x + 1).toNat - x.toNat)) ([(⟨0, none, none, 0, none, none, none, none⟩ : RNode)].map RNode.node) (by first | assumption | exact wf_nil | exact wf_sane (by assumption) | exact wf_slice (by assumption) _ _ | exact wf_trim (by assumption) | exact wf_trim wf_nil)) rfl (fun H => calm_s H _) ?_
                  try dsimp only [setD, List.set]
                  refine w_un (boolP (!(decide ((((removeT (addT t l) (addI t l)).drop x.toNat).take ((x + 1).toNat - x.toNat)) = ([(⟨0, none, none, 0, none, none, none, none⟩ : RNode)].map RNode.node))))) rfl ?_
                  try dsimp only [setD, List.set]
                  refine w_nil ?_
                  refine un_n ?_
                  refine w_if (!(decide ((((removeT (addT t l) (addI t l)).drop x.toNat).take ((x + 1).toNat - x.toNat)) = ([(⟨0, none, none, 0, none, none, none, none⟩ : RNode)].map RNode.node)))) rfl (fun h34 => ?_) (fun h34 => ?_)
                  · have h34' := nb1 h34
                    have h34'_ := of_decide_eq_false h34'
                    exfalso; refine of_decide_eq_false h34' ?_; rw [slice_one (by omega) (by omega), back_get (by assumption) hz (by omega) (by omega)]; first | (rw [if_pos ⟨by omega, of_decide_eq_false (by assumption)⟩]; rfl) | (rw [if_neg (by rintro ⟨c1, c2⟩; first | omega | exact c2 (of_decide_eq_true (by assumption)))]; rfl)
                  · have h34' := nb0 h34
                    have h34'_ := of_decide_eq_true h34'
                    refine w_skip ?_
                    refine un_n ?_
                    refine w_reg ?_
                    refine w_mv (i64P x) rfl ?_
                    refine w_bin (i64P (x + 1)) (b_add rfl rfl (by omega) (by omega)) ?_
                    refine w_as (i64P (x + 1)) rfl ?_
                    try dsimp only [setD, List.set]
                    refine w_nil ?_
                    exact un_n ⟨_, (by omega), (x + 1), _, _, _, _, _, _, _, _, _, _, _, _, _, _, _, _, _, _, _, _, _, _, _, _, _, _, _, _, _, _, _, _, _, _, _, rfl, (ho33.sub [2, 3] (by decide) rfl), rfl, (by omega), (by omega)⟩
              · have h20_ := of_decide_eq_false h20
                refine w_gn (dd := 63) rfl rfl h20 ?_
                refine w_gn (dd := 63) rfl rfl h20 ?_
                refine w_gn (dd := 63) rfl rfl h20 ?_
                try dsimp only [setD, List.set]
                refine w_gn (dd := 63) rfl rfl h20 ?_
                refine w_gn (dd := 63) rfl rfl h20 ?_
                refine w_gn (dd := 63) rfl rfl h20 ?_
                refine w_gn (dd := 63) rfl rfl h20 ?_
                try dsimp only [setD, List.set]
                refine w_pk0 (boolP false) rfl h20 rfl ?_
                try dsimp only [setD, List.set]
                refine w_nil ?_
                refine un_n ?_
                refine w_if0 rfl rfl ?_
                refine w_skip ?_
                refine un_n ?_
                refine w_seq ?_
                refine w_reg ?_
                refine w_mv (nodesP (removeT (addT t l) (addI t l))) rfl ?_
                refine w_mv (i64P x) rfl ?_
                refine w_mv (i64P x) rfl ?_
                refine w_bin (i64P (x + 1)) (b_add rfl rfl (by omega) (by omega)) ?_
                try dsimp only [setD, List.set]
                refine w_slL (f := nodeCs) (l0 := (removeT (addT t l) (addI t l))) (x.toNat) ((x + 1).toNat) nodeCs_len (ls_clo _ _) rfl el_22 sz_37 (bound_i (by first | omega | (simp; omega) | (simp [sortL]; omega))) (bound_i (by first | omega | (simp; omega) | (simp [sortL]; omega))) (by first | omega | (simp; omega) | (simp [sortL]; omega)) (by first | omega | (simp; omega) | (simp [sortL]; omega)) (((removeT (addT t l) (addI t l)).drop x.toNat).take ((x + 1).toNat - x.toNat)) false rfl rfl (fun p35 hp36 => ?_)
                refine w_ld (.agg [(i64P 0), nilS, nilS, (i64P 0), nilS, nilS, nilS, nilS]) (ld_var ho19 0 rfl (ld_agg sz_37 ag_37 rfl (show 8 ≤ 8 by decide))) ?_
                refine w_bs ho19 [(i64P 0), nilS, nilS, (i64P 0), nilS, nilS, nilS, nilS] el_22 sz_37 zp_37 (by decide) (by decide) rfl (fill_cons rfl rfl rfl rfl (isC_cons rfl (isC_cons rfl (isC_cons rfl (isC_cons rfl (isC_cons rfl (isC_cons rfl (isC_cons rfl (isC_cons rfl (isC_nil))))))))) rfl fill_nil) rfl (fun _ r38 ho39 => ?_)
                refine w_cs _ (boolP (decide ((((removeT (addT t l) (addI t l)).drop x.toNat).take ((x + 1).toNat - x.toNat)) = ([(⟨0, none, none, 0, none, none, none, none⟩ : RNode)].map RNode.node)))) rfl (cl_cons (cl_ls hp36) (cl_cons (show close _ _ _ = some (nodesP _) from by unfold nodesP; rw [List.length_map]; exact cl_own (cs := ([(⟨0, none, none, 0, none, none, none, none⟩ : RNode)] : List RNode).flatMap rCs) (n := 1) ho39 0 rfl (by decide) rfl (cl_flat _ (fun _ => cl_rCs _ _) _)) (cl_nil _))) (run_cordwoodref10_Same (((removeT (addT t l) (addI t l)).drop x.toNat).take ((x + 1).toNat - x.toNat)) ([(⟨0, none, none, 0, none, none, none, none⟩ : RNode)].map RNode.node) (by first | assumption | exact wf_nil | exact wf_sane (by assumption) | exact wf_slice (by assumption) _ _ | exact wf_trim (by assumption) | exact wf_trim wf_nil)) rfl (fun H => calm_s H _) ?_
                try dsimp only [setD, List.set]
                refine w_un (boolP (!(decide ((((removeT (addT t l) (addI t l)).drop x.toNat).take ((x + 1).toNat - x.toNat)) = ([(⟨0, none, none, 0, none, none, none, none⟩ : RNode)].map RNode.node))))) rfl ?_
                try dsimp only [setD, List.set]
                refine w_nil ?_
                refine un_n ?_
                refine w_if (!(decide ((((removeT (addT t l) (addI t l)).drop x.toNat).take ((x + 1).toNat - x.toNat)) = ([(⟨0, none, none, 0, none, none, none, none⟩ : RNode)].map RNode.node)))) rfl (fun h40 => ?_) (fun h40 => ?_)
                · have h40' := nb1 h40
                  have h40'_ := of_decide_eq_false h40'
                  exfalso; refine of_decide_eq_false h40' ?_; rw [slice_one (by omega) (by omega), back_get (by assumption) hz (by omega) (by omega)]; first | (rw [if_pos ⟨by omega, of_decide_eq_false (by assumption)⟩]; rfl) | (rw [if_neg (by rintro ⟨c1, c2⟩; first | omega | exact c2 (of_decide_eq_true (by assumption)))]; rfl)
                · have h40' := nb0 h40
                  have h40'_ := of_decide_eq_true h40'
                  refine w_skip ?_
                  refine un_n ?_
                  refine w_reg ?_
                  refine w_mv (i64P x) rfl ?_
                  refine w_bin (i64P (x + 1)) (b_add rfl rfl (by omega) (by omega)) ?_
                  refine w_as (i64P (x + 1)) rfl ?_
                  try dsimp only [setD, List.set]
                  refine w_nil ?_
                  exact un_n ⟨_, (by omega), (x + 1), _, _, _, _, _, _, _, _, _, _, _, _, _, _, _, _, _, _, _, _, _, _, _, _, _, _, _, _, _, _, _, _, _, _, _, rfl, (ho39.sub [2, 3] (by decide) rfl), rfl, (by omega), (by omega)⟩
            · have h15_ := of_decide_eq_false h15
              refine w_exit ?_
              refine un_e ?_
              refine un_e ?_
              refine un_n ?_
              refine w_seq ?_
              refine w_reg ?_
              refine w_mv (boolP true) rfl ?_
              refine w_mv (boolP true) rfl ?_
              refine w_gd (dd := 86) rfl rfl rfl ?_
              refine w_mv (nodesP (removeT (addT t l) (addI t l))) rfl ?_
              refine w_gd (dd := 86) rfl rfl rfl ?_
              refine w_ccl ho13 _ (nodesP (trimN (removeT (addT t l) (addI t l)))) [((.row r7 0 (addT t l).length), .cells 37 (((addT t l).map Node.r).flatMap rCs) (some 8) ((false || hasE 37 (.tup [(nodesP (removeT (addT t l) (addI t l))), (i64P 0)])) || hasE 37 (nodesP (trimN (removeT (addT t l) (addI t l)))))), ((.ptr r1 0), .cells 25 (leafCs l) none false)] rfl rfl (cl_cons (cl_nodes ..) (cl_nil _)) (run_Trim1 (removeT (addT t l) (addI t l)) (by first | assumption | exact wf_nil | exact wf_sane (by assumption) | exact wf_slice (by assumption) _ _ | exact wf_trim (by assumption) | exact wf_trim wf_nil) hrk) (rv_lst ..) (sl_cons rfl (sl_cons (so_cells (hasE_nodes (by decide) (by decide) (by decide) (by decide) _)) sl_nil)) (fun _ ho41 => ?_)
              try dsimp only [setD, List.set]
              refine w_gd (dd := 86) rfl rfl rfl ?_
              refine w_mv (nodesP (removeT (addT t l) (addI t l))) rfl ?_
              refine w_gd (dd := 86) rfl rfl rfl ?_
              refine w_cs _ (boolP (decide ((trimN (removeT (addT t l) (addI t l))) = (removeT (addT t l) (addI t l))))) rfl (cl_cons (cl_nodes ..) (cl_cons (cl_nodes ..) (cl_nil _))) (run_cordwoodref10_Same (trimN (removeT (addT t l) (addI t l))) (removeT (addT t l) (addI t l)) (by first | assumption | exact wf_nil | exact wf_sane (by assumption) | exact wf_slice (by assumption) _ _ | exact wf_trim (by assumption) | exact wf_trim wf_nil)) rfl (fun H => calm_s H _) ?_
              refine w_pk1 (boolP (decide ((trimN (removeT (addT t l) (addI t l))) = (removeT (addT t l) (addI t l))))) rfl rfl rfl ?_
              refine w_as (boolP (decide ((trimN (removeT (addT t l) (addI t l))) = (removeT (addT t l) (addI t l))))) rfl ?_
              try dsimp only [setD, List.set]
              refine w_nil ?_
              refine un_n ?_
              refine w_ret ?_
              refine ⟨.inr rfl, [(boolP (decide ((trimN (removeT (addT t l) (addI t l))) = (removeT (addT t l) (addI t l)))))], [(boolP (decide ((trimN (removeT (addT t l) (addI t l))) = (removeT (addT t l) (addI t l)))))], rfl, rfl, ?_⟩
              refine congrArg boolP (?_ : (decide ((trimN (removeT (addT t l) (addI t l))) = (removeT (addT t l) (addI t l)))) = true)
              first | (exfalso; omega) | (first | rfl | exact decide_eq_true hrn | exact decide_eq_true trimN_nil)
        · refine w_cownt ho6 _ _ _ _ _ [(.int .i64 (removeE (addT t l) (addI t l)))] [((.row r7 0 (addT t l).length), .cells 37 (((addT t l).map Node.r).flatMap rCs) (some 8) false), ((.ptr r1 0), .cells 25 (leafCs l) none false)] rfl rfl (cl_cons (cl_rn0 ho6 0 rfl) (cl_cons (cl_i64 ..) (cl_nil _))) (run_Remove0 (addT t l) (addI t l) (by first | assumption | exact wf_nil | exact wf_sane (by assumption) | exact wf_slice (by assumption) _ _ | exact wf_trim (by assumption) | exact wf_trim wf_nil) h10) sz_37 (by decide) (flat_len nodeCs_len _) (sl_cons (so_cells (has_tup (has_own (hasE_nodeCs (by decide) (by decide) (by decide) _)))) (sl_cons (so_cells (has_tup (has_own (hasE_nodeCs (by decide) (by decide) (by decide) _)))) sl_nil)) (fun _ r43 ho42 => ?_)
          refine w_mv (.tup [(.row r43 0 0), (i64P (removeE (addT t l) (addI t l)))]) rfl ?_
          try dsimp only [setD, List.set]
          refine w_xt [(.row r43 0 0), (i64P (removeE (addT t l) (addI t l)))] (.row r43 0 0) rfl rfl ?_
          refine w_xt [(.row r43 0 0), (i64P (removeE (addT t l) (addI t l)))] (i64P (removeE (addT t l) (addI t l))) rfl rfl ?_
          refine w_as (.row r43 0 0) rfl ?_
          refine w_as (i64P (removeE (addT t l) (addI t l))) rfl ?_
          try dsimp only [setD, List.set]
          refine w_nil ?_
          refine un_n ?_
          refine w_seq ?_
          refine w_seq ?_
          refine w_reg ?_
          refine w_mv (i64P (removeE (addT t l) (addI t l))) rfl ?_
          refine w_bin (boolP (!(decide ((removeE (addT t l) (addI t l)) = 0)))) rfl ?_
          refine w_mv (boolP (!(decide ((removeE (addT t l) (addI t l)) = 0)))) rfl ?_
          refine w_gd (dd := 41) rfl rfl (by rw [hre]; rfl) ?_
          refine w_mv (.row r43 0 0) rfl ?_
          try dsimp only [setD, List.set]
          refine w_gd (dd := 41) rfl rfl (by rw [hre]; rfl) ?_
          refine w_lenO ho42 0 0 0 (by rw [el_22]; rfl) rfl rfl (by decide) rfl rfl ?_
          refine w_gd (dd := 41) rfl rfl (by rw [hre]; rfl) ?_
          refine w_mv (.row r7 0 (addT t l).length) rfl ?_
          refine w_gd (dd := 41) rfl rfl (by rw [hre]; rfl) ?_
          refine w_lenO ho42 1 ((addT t l).length) ((addT t l).length : Int) (by rw [el_22]; rfl) rfl rfl (by decide) (flat_len' rCs_len (by first | assumption | (simp; done) | (simp [*]; done) | (simp; omega))) rfl ?_
          refine w_gd (dd := 41) rfl rfl (by rw [hre]; rfl) ?_
          refine w_bin (boolP (decide (0 > ((addT t l).length : Int)))) rfl ?_
          try dsimp only [setD, List.set]
          refine w_pk0 (boolP (decide (0 > ((addT t l).length : Int)))) rfl (by rw [hre]; rfl) rfl ?_
          refine w_mv (boolP (decide (0 > ((addT t l).length : Int)))) rfl ?_
          rcases Bool.eq_false_or_eq_true (decide (0 > ((addT t l).length : Int))) with h45 | h45
          · have h45_ := of_decide_eq_true h45
            exfalso; omega
          · have h45_ := of_decide_eq_false h45
            refine w_gd (dd := 48) rfl rfl h45 ?_
            refine w_mv (i64P (addI t l)) rfl ?_
            refine w_gd (dd := 48) rfl rfl h45 ?_
            refine w_bin (boolP (decide ((addI t l) < 0))) rfl ?_
            try dsimp only [setD, List.set]
            refine w_pk0 (boolP (decide ((addI t l) < 0))) rfl h45 rfl ?_
            try dsimp only [setD, List.set]
            refine w_nil ?_
            refine un_n ?_
            refine w_if (decide ((addI t l) < 0)) rfl (fun h46 => ?_) (fun h46 => ?_)
            · have h46_ := of_decide_eq_true h46
              exfalso; omega
            · have h46_ := of_decide_eq_false h46
              refine w_skip ?_
              refine un_n ?_
              refine w_seq ?_
              refine w_seq ?_
              refine w_reg ?_
              refine w_as (i64P 0) rfl ?_
              try dsimp only [setD, List.set]
              refine w_nil ?_
              refine un_n ?_
              refine w_block ?_
              refine w_loop (fun n g H => ∃ (x : Int) (j4 : PV) (j12 : PV) (j52 : PV) (j53 : PV) (j54 : PV) (j55 : PV) (j56 : PV) (j57 : PV) (j58 : PV) (j59 : PV) (j60 : PV) (j61 : PV) (j62 : PV) (j63 : PV) (j64 : PV) (j65 : PV) (j66 : PV) (j67 : PV) (j68 : PV) (j69 : PV) (j70 : PV) (j71 : PV) (j72 : PV) (j73 : PV) (j74 : PV) (j75 : PV) (j76 : PV) (j77 : PV) (j78 : PV) (j79 : PV) (j80 : PV) (j81 : PV) (j82 : PV) (j83 : PV) (j84 : PV), g = [(nodesP t), (.agg (leafCs l)), undefP, (.ptr r1 0), j4, (boolP true), (.row r7 0 (addT t l).length), (i64P (addI t l)), (i64P (addE t l)), (.row r43 0 0), (i64P (removeE (addT t l) (addI t l))), (i64P x), j12, (boolP true), (nodesP t), (boolP (few t)), (boolP (!(few t))), (boolP (!(few t))), (nodesP t), (boolP (sane t)), (boolP (!(sane t))), (boolP (!(sane t))), undefP, (.tup [(.row r7 0 (addT t l).length), (i64P (addI t l)), (i64P (addE t l))]), (nodesP t), (.agg (leafCs l)), (.tup [(.row r7 0 (addT t l).length), (i64P (addI t l)), (i64P (addE t l))]), (.row r7 0 (addT t l).length), (i64P (addI t l)), (i64P (addE t l)), (i64P (addE t l)), (boolP (!(decide ((addE t l) = 0)))), undefP, (.tup [(.row r43 0 0), (i64P (removeE (addT t l) (addI t l)))]), (.row r7 0 (addT t l).length), (i64P (addI t l)), (.tup [(.row r43 0 0), (i64P (removeE (addT t l) (addI t l)))]), (.row r43 0 0), (i64P (removeE (addT t l) (addI t l))), (i64P (removeE (addT t l) (addI t l))), (boolP (!(decide ((removeE (addT t l) (addI t l)) = 0)))), (boolP (!(decide ((removeE (addT t l) (addI t l)) = 0)))), (.row r43 0 0), (i64P 0), (.row r7 0 (addT t l).length), (i64P ((addT t l).length : Int)), (boolP (decide (0 > ((addT t l).length : Int)))), (boolP (decide (0 > ((addT t l).length : Int)))), (boolP (decide (0 > ((addT t l).length : Int)))), (i64P (addI t l)), (boolP (decide ((addI t l) < 0))), (boolP (decide ((addI t l) < 0))), j52, j53, j54, j55, j56, j57, j58, j59, j60, j61, j62, j63, j64, j65, j66, j67, j68, j69, j70, j71, j72, j73, j74, j75, j76, j77, j78, j79, j80, j81, j82, j83, j84, undefP, undefP, undefP, undefP, undefP, undefP, undefP] ∧ Own H [((.row r43 0 0), .cells 37 (([] : List RNode).flatMap rCs) (some 8) false), ((.row r7 0 (addT t l).length), .cells 37 (((addT t l).map Node.r).flatMap rCs) (some 8) false), ((.ptr r1 0), .cells 25 (leafCs l) none false)] ∧ n = (((removeT (addT t l) (addI t l)).length : Int) - x).toNat ∧ (0 ≤ x) ∧ (x ≤ ((removeT (addT t l) (addI t l)).length : Int))) ⟨0, _, _, _, _, _, _, _, _, _, _, _, _, _, _, _, _, _, _, _, _, _, _, _, _, _, _, _, _, _, _, _, _, _, _, _, rfl, ho42, rfl, (by omega), (by omega)⟩ ?_
              rintro m48 _ H ⟨x, j4, j12, j52, j53, j54, j55, j56, j57, j58, j59, j60, j61, j62, j63, j64, j65, j66, j67, j68, j69, j70, j71, j72, j73, j74, j75, j76, j77, j78, j79, j80, j81, j82, j83, j84, rfl, ho47, em48, hx0, hx1⟩
              refine w_seq ?_
              refine w_seq ?_
              refine w_reg ?_
              refine w_mv (i64P x) rfl ?_
              refine w_mv (.row r43 0 0) rfl ?_
              refine w_lenO ho47 0 0 0 (by rw [el_22]; rfl) rfl rfl (by decide) rfl rfl ?_
              refine w_bin (boolP (decide (x < 0))) rfl ?_
              try dsimp only [setD, List.set]
              refine w_nil ?_
              refine un_n ?_
              refine w_if (decide (x < 0)) rfl (fun h49 => ?_) (fun h49 => ?_)
              · have h49_ := of_decide_eq_true h49
                exfalso; omega
              · have h49_ := of_decide_eq_false h49
                refine w_exit ?_
                refine un_e ?_
                refine un_e ?_
                refine un_n ?_
                refine w_seq ?_
                refine w_reg ?_
                refine w_mv (boolP true) rfl ?_
                refine w_mv (boolP true) rfl ?_
                refine w_gd (dd := 86) rfl rfl rfl ?_
                refine w_mv (.row r43 0 0) rfl ?_
                refine w_gd (dd := 86) rfl rfl rfl ?_
                refine w_ccl ho47 _ (nodesP (trimN ([] : List Node))) [((.row r43 0 0), .cells 37 (([] : List RNode).flatMap rCs) (some 8) (false || hasE 37 (nodesP (trimN ([] : List Node))))), ((.row r7 0 (addT t l).length), .cells 37 (((addT t l).map Node.r).flatMap rCs) (some 8) (false || hasE 37 (nodesP (trimN ([] : List Node))))), ((.ptr r1 0), .cells 25 (leafCs l) none false)] rfl rfl (cl_cons (cl_rn0 (X := []) ho47 0 rfl) (cl_nil _)) (run_Trim1 ([] : List Node) (by first | assumption | exact wf_nil | exact wf_sane (by assumption) | exact wf_slice (by assumption) _ _ | exact wf_trim (by assumption) | exact wf_trim wf_nil) trimK_nil) (rv_lst ..) (sl_cons rfl (sl_cons rfl (sl_cons (so_cells (hasE_nodes (by decide) (by decide) (by decide) (by decide) _)) sl_nil))) (fun _ ho50 => ?_)
                try dsimp only [setD, List.set]
                refine w_gd (dd := 86) rfl rfl rfl ?_
                refine w_mv (.row r43 0 0) rfl ?_
                refine w_gd (dd := 86) rfl rfl rfl ?_
                refine w_cs _ (boolP (decide ((trimN ([] : List Node)) = ([] : List Node)))) rfl (cl_cons (cl_nodes ..) (cl_cons (cl_rn0 (X := []) ho50 0 rfl) (cl_nil _))) (run_cordwoodref10_Same (trimN ([] : List Node)) ([] : List Node) (by first | assumption | exact wf_nil | exact wf_sane (by assumption) | exact wf_slice (by assumption) _ _ | exact wf_trim (by assumption) | exact wf_trim wf_nil)) rfl (fun H => calm_s H _) ?_
                refine w_pk1 (boolP (decide ((trimN ([] : List Node)) = ([] : List Node)))) rfl rfl rfl ?_
                refine w_as (boolP (decide ((trimN ([] : List Node)) = ([] : List Node)))) rfl ?_
                try dsimp only [setD, List.set]
                refine w_nil ?_
                refine un_n ?_
                refine w_ret ?_
                refine ⟨.inr rfl, [(boolP (decide ((trimN ([] : List Node)) = ([] : List Node))))], [(boolP (decide ((trimN ([] : List Node)) = ([] : List Node))))], rfl, rfl, ?_⟩
                refine congrArg boolP (?_ : (decide ((trimN ([] : List Node)) = ([] : List Node))) = true)
                first | (exfalso; omega) | (first | rfl | exact decide_eq_true hrn | exact decide_eq_true trimN_nil)
end Go.Proofs.YtkkdkhacligaoaaGreatDoor.law
