/- Walks: what functions of the program come to, as the pure interpreter runs them. -/
import Derived.Test.YtkkdkhacligaoaaGreatDoorW5
set_option linter.unusedSimpArgs false
set_option linter.unusedVariables false
namespace Go.Proofs.YtkkdkhacligaoaaGreatDoor.law
open Go.PI
def laidL (t : List Node) (i : Int) (l : Leaf) : List Node := t.set (2 * i).toNat ⟨1, l, noInner⟩
theorem run_edit_laid (t : List Node) (i : Int) (l : Leaf) (ht : (t.length : Int) ≤ 127) (h0 : 0 ≤ i) (h1 : 2 * i < t.length) : Run C0 40 [(nodesP t), (i64P i), (.agg (leafCs l))] (ownNodes (laidL t i l)) := by
  refine run_fn (C := C0) (c := _) [(nodesP t), (i64P i), (.agg (leafCs l)), undefP, undefP, undefP, undefP, undefP, undefP, undefP, undefP, undefP, undefP, undefP, undefP, undefP] Tryz.func40 rfl rfl rfl rfl ?_
  have ho := own_nil []
  refine w_seq ?_
  refine w_reg ?_
  refine w_box ho (leafCs l) rfl (isC_leaf _) (fun _ r1 ho2 => ?_)
  refine w_as nilS rfl ?_
  try dsimp only [setD, List.set]
  refine w_nil ?_
  refine un_n ?_
  refine w_seq ?_
  refine w_reg ?_
  refine w_mv (nodesP t) rfl ?_
  refine w_cown ho2 _ _ _ _ _ [((.ptr r1 0), .cells 25 (leafCs l) none false)] rfl rfl (cl_cons (cl_nodes ..) (cl_nil _)) (run_clone_nodes t (by first | omega | (simp; omega) | (simp; done))) sz_37 (by decide) (flat_len nodeCs_len _) (sl_cons (so_cells (has_own (hasE_nodeCs (by decide) (by decide) (by decide) _))) sl_nil) (fun _ r5 ho4 => ?_)
  rw [← rs_cells] at ho4
  refine w_as (.row r5 0 t.length) rfl ?_
  try dsimp only [setD, List.set]
  refine w_nil ?_
  refine un_n ?_
  refine w_seq ?_
  refine w_reg ?_
  refine w_mv (.row r5 0 t.length) rfl ?_
  refine w_mv (i64P i) rfl ?_
  refine w_bin (i64P (2 * i)) (b_mul rfl rfl (by omega) (by omega)) ?_
  refine w_ld (.agg (leafCs l)) (ld_var ho4 1 rfl (ld_agg sz_25 ag_25 rfl (show 4 ≤ 4 by decide))) ?_
  try dsimp only [setD, List.set]
  refine w_bd (.agg [(i64P 1), (octP l.enc), (octP l.cred), (i64P l.source), (octP l.parent), nilS, nilS, nilS]) (bd_st zp_37 pl_37 (fill_cons rfl rfl rfl rfl (isC_cons rfl (isC_nil)) rfl (fill_cons rfl rfl rfl rfl (isC_leaf _) rfl fill_nil))) ?_
  refine w_ia (.ptr r5 ((2 * i).toNat * 8 + 0)) (ix_row ho4 0 rfl el_22 sz_37 (by omega) (by omega)) ?_
  refine w_strl ho4 0 (f := rCs) (⟨1, (some l.enc), (some l.cred), l.source, (some l.parent), none, none, none⟩ : RNode) (2 * i) (.agg [(i64P 1), (octP l.enc), (octP l.cred), (i64P l.source), (octP l.parent), nilS, nilS, nilS]) [((.row r5 0 t.length), .cells 37 (((t.map Node.r).set (2 * i).toNat (⟨1, (some l.enc), (some l.cred), l.source, (some l.parent), none, none, none⟩ : RNode)).flatMap rCs) (some 8) false), ((.ptr r1 0), .cells 25 (leafCs l) none false)] rCs_len rfl rfl rfl rfl (nr_cons rfl (nr_cons (nr_lst ..) (nr_cons (nr_lst ..) (nr_cons rfl (nr_cons (nr_lst ..) (nr_cons rfl (nr_cons rfl (nr_cons rfl nr_nil)))))))) sz_37 (by decide) (isC_rn _) (by first | omega | (simp; omega) | (simp [sortL]; omega)) (by first | omega | (simp; omega) | (simp [sortL]; omega)) rfl (fun _ ho7 => ?_)
  try dsimp only [setD, List.set]
  refine w_nil ?_
  refine un_n ?_
  refine w_seq ?_
  refine w_reg ?_
  refine w_mv (.row r5 0 t.length) rfl ?_
  refine w_as (.row r5 0 t.length) rfl ?_
  try dsimp only [setD, List.set]
  refine w_nil ?_
  refine un_n ?_
  refine w_ret ?_
  refine ⟨.inr rfl, [(.row r5 0 t.length)], [(.own 37 t.length ((((t.map Node.r).set (2 * i).toNat (⟨1, (some l.enc), (some l.cred), l.source, (some l.parent), none, none, none⟩ : RNode)).map RNode.node).flatMap nodeCs))], rfl, (ca_cons (cr_own ho7 0 rfl (by decide) (flat_len' rCs_len (by first | assumption | (simp; done) | (simp [*]; done) | (simp; omega))) el_22 sz_37 (offs_nil _) (hasE_nodeCs (e := 37) (by decide) (by decide) (by decide) _) (cl_flat _ (fun _ => cl_rCs _ _) _)) ca_nil), ?_⟩
  first | (exfalso; omega) | (exact own_eq (by rw [List.map_set, rs_node]; rfl) (by simp [laidL]))
def clearAll (t : List Node) (xs : List Int) : List Node := xs.foldl (fun t x => t.set x.toNat noNode) t
/-- The leaf i and its way up. -/
def wayUp (i : Int) (w : Nat) : List Int := directN (2 * i).toNat w ++ [2 * i]
def clearL (t : List Node) (i : Int) : List Node := clearAll t (wayUp i t.length)
theorem clearAll_len (t : List Node) (xs : List Int) : (clearAll t xs).length = t.length := by
  unfold clearAll
  induction xs generalizing t with
  | nil => rfl
  | cons x xs ih => rw [List.foldl_cons, ih, List.length_set]
theorem clearAll_next {t : List Node} {xs : List Int} {k : Int} {u : List RNode} (h0 : 0 ≤ k) (h1 : k < (xs.length : Int)) (h : u.map RNode.node = clearAll t (xs.take k.toNat)) {z : RNode} (hz : z.node = noNode) :
    (u.set (nth xs k).toNat z).map RNode.node = clearAll t (xs.take (k + 1).toNat) := by
  rw [List.map_set, h, hz]
  have e : (k + 1).toNat = k.toNat + 1 := by omega
  have hl : k.toNat < xs.length := by omega
  rw [e, List.take_succ_eq_append_getElem hl]
  unfold clearAll
  rw [List.foldl_append]
  simp [nth, hl]
theorem way_bound_t : (wholes.all fun w => (List.range w).all fun x => (directN x w).all fun y => decide (0 ≤ y) && decide (y < (w : Int))) = true := by decide +kernel
theorem direct_bound {x w : Int} (hw : whole w = true) (h0 : 0 ≤ x) (h1 : x < w) {y : Int} (hy : y ∈ directN x.toNat w.toNat) : 0 ≤ y ∧ y < w := by
  obtain ⟨h2, h3⟩ := whole_mem hw
  have := List.all_eq_true.1 (List.all_eq_true.1 (List.all_eq_true.1 way_bound_t _ h3) x.toNat (List.mem_range.2 (by omega))) y hy
  simp only [Bool.and_eq_true, decide_eq_true_eq] at this
  omega
theorem way_bound {i : Int} {n : Nat} (hw : whole n = true) (h0 : 0 ≤ i) (h1 : 2 * i < n) {y : Int} (hy : y ∈ wayUp i n) : 0 ≤ y ∧ y < n := by
  rcases List.mem_append.1 hy with h | h
  · exact direct_bound hw (x := 2 * i) (by omega) h1 (by simpa using h)
  · simp at h; omega
theorem direct_len_t : (wholes.all fun w => (List.range w).all fun x => decide ((directN x w).length ≤ 8)) = true := by decide +kernel
theorem direct_len {x w : Int} (hw : whole w = true) (h0 : 0 ≤ x) (h1 : x < w) : (directN x.toNat w.toNat).length ≤ 8 := by
  obtain ⟨h2, h3⟩ := whole_mem hw
  have := List.all_eq_true.1 (List.all_eq_true.1 direct_len_t _ h3) x.toNat (List.mem_range.2 (by omega))
  simpa using this
theorem sane_whole {t : List Node} (h : sane t = true) (h0 : 0 < t.length) : whole t.length = true := by
  unfold sane at h
  simp only [Bool.and_eq_true, Bool.or_eq_true, decide_eq_true_eq] at h
  rcases h.2 with h | h
  · omega
  · exact h
theorem run_Clear1 (t : List Node) (i : Int) (ht : WfT t) (hs : sane t = true) (h0 : 0 ≤ i) (h1 : 2 * i < t.length) : Run C0 44 [(nodesP t), (i64P i)] (.tup [ownNodes (clearL t i), i64P 0]) := by
  have hs_l := sane_len hs
  have hwl : (wayUp i t.length).length = (directN (2 * i).toNat t.length).length + 1 := by simp [wayUp]
  have hdl : (directN (2 * i).toNat t.length).length ≤ 8 := direct_len (x := 2 * i) (w := t.length) (sane_whole hs (by omega)) (by omega) h1
  have hwb := fun {y : Int} (hy : y ∈ wayUp i t.length) => way_bound (sane_whole hs (by omega)) h0 h1 hy
  refine run_fn (C := C0) (c := _) [(nodesP t), (i64P i), undefP, undefP, undefP, undefP, undefP, undefP, undefP, undefP, undefP, undefP, undefP, undefP, undefP, undefP, undefP, undefP, undefP, undefP, undefP, undefP, undefP, undefP, undefP, undefP, undefP, undefP, undefP, undefP, undefP, undefP, undefP, undefP, undefP, undefP, undefP, undefP, undefP] Tryz.func44 rfl rfl rfl rfl ?_
  have ho := own_nil []
  refine w_seq ?_
  refine w_reg ?_
  refine w_as nilS rfl ?_
  refine w_as (i64P 0) rfl ?_
  try dsimp only [setD, List.set]
  refine w_nil ?_
  refine un_n ?_
  refine w_seq ?_
  refine w_reg ?_
  refine w_mv (nodesP t) rfl ?_
  refine w_ccl ho _ (nodesP t) [] rfl rfl (cl_cons (cl_nodes ..) (cl_nil _)) (run_shape_known1 t (by first | assumption | exact wf_nil) hs) (rv_lst ..) sl_nil (fun _ ho1 => ?_)
  refine w_cown ho1 _ _ _ _ _ [] rfl rfl (cl_cons (cl_nodes ..) (cl_nil _)) (run_clone_nodes t (by first | omega | (simp; omega) | (simp; done))) sz_37 (by decide) (flat_len nodeCs_len _) sl_nil (fun _ r3 ho2 => ?_)
  rw [← rs_cells] at ho2
  refine w_as (.row r3 0 t.length) rfl ?_
  try dsimp only [setD, List.set]
  refine w_nil ?_
  refine un_n ?_
  refine w_seq ?_
  refine w_seq ?_
  refine w_reg ?_
  refine w_mv (i64P i) rfl ?_
  refine w_bin (boolP (decide (i < 0))) rfl ?_
  refine w_mv (boolP (decide (i < 0))) rfl ?_
  rcases Bool.eq_false_or_eq_true (decide (i < 0)) with h5 | h5
  · have h5_ := of_decide_eq_true h5
    refine w_gn (dd := 13) rfl rfl h5 ?_
    try dsimp only [setD, List.set]
    refine w_gn (dd := 13) rfl rfl h5 ?_
    refine w_gn (dd := 13) rfl rfl h5 ?_
    refine w_gn (dd := 13) rfl rfl h5 ?_
    refine w_pk1 (boolP true) rfl h5 rfl ?_
    try dsimp only [setD, List.set]
    refine w_nil ?_
    refine un_n ?_
    refine w_if1 rfl rfl ?_
    refine w_seq ?_
    refine w_reg ?_
    refine w_as nilS rfl ?_
    refine w_as (i64P 3) rfl ?_
    try dsimp only [setD, List.set]
    refine w_nil ?_
    refine un_n ?_
    refine w_ret ?_
    refine un_r ?_
    refine ⟨.inr rfl, [nilS, (i64P 3)], [(.own 37 0 []), (i64P 3)], rfl, (ca_cons (cr_nil el_22) (ca_cons (cr_i64 _) ca_nil)), ?_⟩
    first | (exfalso; omega) | (exact congrArg (fun q => PV.tup [q, i64P 0]) (own_eq (by rw [hc, List.take_of_length_le (by omega)]; rfl) (by simp [clearL, clearAll_len])))
  · have h5_ := of_decide_eq_false h5
    refine w_gd (dd := 13) rfl rfl h5 ?_
    refine w_mv (i64P i) rfl ?_
    try dsimp only [setD, List.set]
    refine w_gd (dd := 13) rfl rfl h5 ?_
    refine w_mv (.row r3 0 t.length) rfl ?_
    refine w_gd (dd := 13) rfl rfl h5 ?_
    refine w_cs _ (i64P (((t.length : Int) + 1) / 2)) rfl (cl_cons (cl_rn0 ho2 0 rfl) (cl_nil _)) (run_Leaves1 t (by first | assumption | exact wf_nil) hs) rfl (fun H => calm_s H _) ?_
    refine w_gd (dd := 13) rfl rfl h5 ?_
    refine w_bin (boolP (decide (i ≥ (((t.length : Int) + 1) / 2)))) rfl ?_
    refine w_pk0 (boolP (decide (i ≥ (((t.length : Int) + 1) / 2)))) rfl h5 rfl ?_
    try dsimp only [setD, List.set]
    refine w_nil ?_
    refine un_n ?_
    refine w_if (decide (i ≥ (((t.length : Int) + 1) / 2))) rfl (fun h6 => ?_) (fun h6 => ?_)
    · have h6_ := of_decide_eq_true h6
      refine w_seq ?_
      refine w_reg ?_
      refine w_as nilS rfl ?_
      refine w_as (i64P 3) rfl ?_
      try dsimp only [setD, List.set]
      refine w_nil ?_
      refine un_n ?_
      refine w_ret ?_
      refine un_r ?_
      refine ⟨.inr rfl, [nilS, (i64P 3)], [(.own 37 0 []), (i64P 3)], rfl, (ca_cons (cr_nil el_22) (ca_cons (cr_i64 _) ca_nil)), ?_⟩
      first | (exfalso; omega) | (exact congrArg (fun q => PV.tup [q, i64P 0]) (own_eq (by rw [hc, List.take_of_length_le (by omega)]; rfl) (by simp [clearL, clearAll_len])))
    · have h6_ := of_decide_eq_false h6
      refine w_skip ?_
      refine un_n ?_
      refine w_seq ?_
      refine w_seq ?_
      refine w_reg ?_
      refine w_mv (i64P i) rfl ?_
      refine w_bin (i64P (2 * i)) (b_mul rfl rfl (by omega) (by omega)) ?_
      refine w_mv (.row r3 0 t.length) rfl ?_
      refine w_lenO ho2 0 t.length (t.length : Int) (by rw [el_22]; rfl) rfl rfl (by decide) (flat_len' rCs_len (by first | assumption | (simp; done) | (simp [*]; done) | (simp; omega))) rfl ?_
      try dsimp only [setD, List.set]
      refine w_cown ho2 _ _ _ _ _ [((.row r3 0 t.length), .cells 37 ((t.map Node.r).flatMap rCs) (some 8) false)] rfl rfl (cl_cons (cl_i64 ..) (cl_cons (cl_i64 ..) (cl_nil _))) (run_direct (2 * i) (t.length : Int) (by first | assumption | exact sane_whole (by assumption) (by omega)) (by omega) (by omega)) sz_3 (by decide) (flat_len intF_len _) (sl_cons (so_cells (has_own (hasE_intF _ _))) sl_nil) (fun _ r8 ho7 => ?_)
      refine w_mv (i64P i) rfl ?_
      refine w_bin (i64P (2 * i)) (b_mul rfl rfl (by omega) (by omega)) ?_
      refine w_bs ho7 [(i64P (2 * i))] el_33 sz_3 zp_3 (by decide) (by decide) rfl (fill_cons rfl rfl rfl rfl (isC_cons rfl (isC_nil)) rfl fill_nil) rfl (fun _ r11 ho12 => ?_)
      try dsimp only [setD, List.set]
      refine w_app ho12 1 (l0 := (directN (2 * i).toNat t.length)) (l' := ([(2 * i)])) intF_len [((.row r11 0 1), .cells 3 [(i64P (2 * i))] (some 1) false), ((.row r3 0 t.length), .cells 37 ((t.map Node.r).flatMap rCs) (some 8) false)] rfl rfl rfl el_33 el_33 sz_3 by_3 zp_3 (by decide) rfl (sl_ex (sl_own ho12 0 rfl (by decide) rfl)) (by first | omega | (simp; omega) | (simp [sortL]; omega)) (by first | omega | (simp; omega) | (simp [sortL]; omega)) kn_33 rfl (fun _ p14 ho15 => ?_)
      refine w_lenO ho15 0 ((directN (2 * i).toNat t.length).length + 1) (((directN (2 * i).toNat t.length).length + 1) : Int) (by rw [el_33]; rfl) rfl rfl (by decide) (flat_len' intF_len (by first | assumption | (simp; done) | (simp [*]; done) | (simp; omega))) rfl ?_
      refine w_mv (i64P 0) rfl ?_
      try dsimp only [setD, List.set]
      refine w_nil ?_
      refine un_n ?_
      refine w_block ?_
      refine w_loop (fun n g H => ∃ (k : Int) (j7 : PV) (j30 : PV) (j31 : PV) (j32 : PV) (j33 : PV) (j34 : PV) (j35 : PV) (j36 : PV) (j37 : PV) (u : List RNode), g = [(.row r3 0 t.length), (i64P i), undefP, undefP, nilS, (i64P 0), undefP, j7, (nodesP t), (nodesP t), (.row r3 0 t.length), (i64P i), (boolP (decide (i < 0))), (boolP (decide (i < 0))), (i64P i), (.row r3 0 t.length), (i64P (((t.length : Int) + 1) / 2)), (boolP (decide (i ≥ (((t.length : Int) + 1) / 2)))), (boolP (decide (i ≥ (((t.length : Int) + 1) / 2)))), (i64P i), (i64P (2 * i)), (.row r3 0 t.length), (i64P (t.length : Int)), (.row r8 0 (directN (2 * i).toNat t.length).length), (i64P i), (i64P (2 * i)), (.row r11 0 1), p14, (i64P (((directN (2 * i).toNat t.length).length + 1) : Int)), (i64P k), j30, j31, j32, j33, j34, j35, j36, j37, undefP] ∧ Own H [(p14, .cells 3 (((directN (2 * i).toNat t.length) ++ [(2 * i)]).flatMap intF) (some 1) false), ((.row r11 0 1), .cells 3 [(i64P (2 * i))] (some 1) false), ((.row r3 0 t.length), .cells 37 (u.flatMap rCs) (some 8) false)] ∧ n = (((wayUp i t.length).length : Int) - k).toNat ∧ (0 ≤ k) ∧ (k ≤ ((wayUp i t.length).length : Int)) ∧ (u.length = t.length) ∧ (u.map RNode.node = clearAll t ((wayUp i t.length).take k.toNat))) ⟨0, _, _, _, _, _, _, _, _, _, (t.map Node.r), rfl, ho15, rfl, (by omega), (by omega), (by simp), (rs_node t)⟩ ?_
      rintro m17 _ H ⟨k, j7, j30, j31, j32, j33, j34, j35, j36, j37, u, rfl, ho16, em17, hk0, hk1, hu, hc⟩
      refine w_seq ?_
      refine w_reg ?_
      refine w_bin (boolP (decide (k < (((directN (2 * i).toNat t.length).length + 1) : Int)))) rfl ?_
      try dsimp only [setD, List.set]
      refine w_nil ?_
      refine un_n ?_
      refine w_seq ?_
      refine w_if (decide (k < (((directN (2 * i).toNat t.length).length + 1) : Int))) rfl (fun h18 => ?_) (fun h18 => ?_)
      · have h18_ := of_decide_eq_true h18
        have hb : 0 ≤ nth (directN (2 * i).toNat t.length ++ [2 * i]) k ∧ nth (directN (2 * i).toNat t.length ++ [2 * i]) k < t.length := hwb (nth_mem hk0 (by simp [wayUp]; omega))
        refine w_skip ?_
        refine un_n ?_
        refine w_seq ?_
        refine w_block ?_
        refine w_seq ?_
        refine w_reg ?_
        obtain ⟨r19, rfl⟩ := ho16.isRow 0 rfl (by decide) (flat_len' intF_len (by first | assumption | (simp; done) | (simp [*]; done) | (simp; omega))) (by omega)
        refine w_ia (.ptr r19 (k.toNat * 1 + 0)) (ix_row ho16 0 rfl el_33 sz_3 (by omega) (by omega)) ?_
        refine w_ld (i64P (nth ((directN (2 * i).toNat t.length) ++ [(2 * i)]) k)) (ld_rowat intF_len ho16 0 rfl (by first | omega | (simp; omega) | (simp [sortL]; omega)) (by first | omega | (simp; omega) | (simp [sortL]; omega)) (by decide) (ld_one sz_3 ag_3 rfl)) ?_
        refine w_as (i64P (nth ((directN (2 * i).toNat t.length) ++ [(2 * i)]) k)) rfl ?_
        try dsimp only [setD, List.set]
        refine w_nil ?_
        refine un_n ?_
        refine w_reg ?_
        refine w_mv (.row r3 0 t.length) rfl ?_
        refine w_mv (i64P (nth ((directN (2 * i).toNat t.length) ++ [(2 * i)]) k)) rfl ?_
        refine w_bd (.agg [(i64P 0), nilS, nilS, (i64P 0), nilS, nilS, nilS, nilS]) (bd_st zp_37 pl_37 fill_nil) ?_
        refine w_ia (.ptr r3 ((nth ((directN (2 * i).toNat t.length) ++ [(2 * i)]) k).toNat * 8 + 0)) (ix_row ho16 2 rfl el_22 sz_37 (by omega) (by omega)) ?_
        try dsimp only [setD, List.set]
        refine w_strl ho16 2 (f := rCs) (⟨0, none, none, 0, none, none, none, none⟩ : RNode) (nth ((directN (2 * i).toNat t.length) ++ [(2 * i)]) k) (.agg [(i64P 0), nilS, nilS, (i64P 0), nilS, nilS, nilS, nilS]) [((.row r19 0 ((directN (2 * i).toNat t.length).length + 1)), .cells 3 (((directN (2 * i).toNat t.length) ++ [(2 * i)]).flatMap intF) (some 1) false), ((.row r11 0 1), .cells 3 [(i64P (2 * i))] (some 1) false), ((.row r3 0 t.length), .cells 37 ((u.set (nth ((directN (2 * i).toNat t.length) ++ [(2 * i)]) k).toNat (⟨0, none, none, 0, none, none, none, none⟩ : RNode)).flatMap rCs) (some 8) false)] rCs_len rfl rfl rfl rfl (nr_cons rfl (nr_cons rfl (nr_cons rfl (nr_cons rfl (nr_cons rfl (nr_cons rfl (nr_cons rfl (nr_cons rfl nr_nil)))))))) sz_37 (by decide) (isC_rn _) (by first | omega | (simp; omega) | (simp [sortL]; omega)) (by first | omega | (simp; omega) | (simp [sortL]; omega)) rfl (fun _ ho20 => ?_)
        refine w_nil ?_
        refine un_n ?_
        refine w_reg ?_
        refine w_bin (i64P (k + 1)) (b_add rfl rfl (by omega) (by omega)) ?_
        refine w_mv (i64P (k + 1)) rfl ?_
        try dsimp only [setD, List.set]
        refine w_nil ?_
        exact un_n ⟨_, (by omega), (k + 1), _, _, _, _, _, _, _, _, _, (u.set (nth ((directN (2 * i).toNat t.length) ++ [(2 * i)]) k).toNat (⟨0, none, none, 0, none, none, none, none⟩ : RNode)), rfl, ho20, rfl, (by omega), (by omega), (by simp [hu]), (clearAll_next hk0 (by omega) hc rfl)⟩
      · have h18_ := of_decide_eq_false h18
        refine w_exit ?_
        refine un_e ?_
        refine un_e ?_
        refine un_n ?_
        refine w_seq ?_
        refine w_reg ?_
        refine w_mv (.row r3 0 t.length) rfl ?_
        refine w_as (.row r3 0 t.length) rfl ?_
        refine w_as (i64P 0) rfl ?_
        try dsimp only [setD, List.set]
        refine w_nil ?_
        refine un_n ?_
        refine w_ret ?_
        refine ⟨.inr rfl, [(.row r3 0 t.length), (i64P 0)], [(.own 37 t.length ((u.map RNode.node).flatMap nodeCs)), (i64P 0)], rfl, (ca_cons (cr_own ho16 2 rfl (by decide) (flat_len' rCs_len (by first | assumption | (simp; done) | (simp [*]; done) | (simp; omega))) el_22 sz_37 (offs_cons (off_i _ _) (offs_nil _)) (hasE_nodeCs (e := 37) (by decide) (by decide) (by decide) _) (cl_flat _ (fun _ => cl_rCs _ _) _)) (ca_cons (cr_i64 _) ca_nil)), ?_⟩
        first | (exfalso; omega) | (exact congrArg (fun q => PV.tup [q, i64P 0]) (own_eq (by rw [hc, List.take_of_length_le (by omega)]; rfl) (by simp [clearL, clearAll_len])))
end Go.Proofs.YtkkdkhacligaoaaGreatDoor.law
