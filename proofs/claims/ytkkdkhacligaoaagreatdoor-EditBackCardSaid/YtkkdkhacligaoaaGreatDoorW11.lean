/- Walks: what functions of the program come to, as the pure interpreter runs them. -/
import Derived.Test.YtkkdkhacligaoaaGreatDoorW10
set_option linter.unusedSimpArgs false
set_option linter.unusedVariables false
namespace Go.Proofs.YtkkdkhacligaoaaGreatDoor.law
open Go.PI
/-! ### A leaf more -/
def joinN (n : Node) (i : Int) : Node := if n.kind = 2 then { n with inner := { n.inner with unmerged := joinL n.inner.unmerged i } } else n
def joinAt (i : Int) (t : List Node) (x : Int) : List Node := t.set x.toNat (joinN (nth t x) i)
def joinAll (i : Int) (t : List Node) (xs : List Int) : List Node := xs.foldl (joinAt i) t
def addAt (t : List Node) (i : Int) (l : Leaf) : List Node := joinAll i (laidL t i l) (directN (2 * i).toNat t.length)
theorem joinAll_len (i : Int) (t : List Node) (xs : List Int) : (joinAll i t xs).length = t.length := by
  unfold joinAll
  induction xs generalizing t with
  | nil => rfl
  | cons x xs ih => rw [List.foldl_cons, ih, joinAt, List.length_set]
theorem addAt_len (t : List Node) (i : Int) (l : Leaf) : (addAt t i l).length = t.length := by rw [addAt, joinAll_len, laidL_len]
theorem joinN_kind (n : Node) (i : Int) : (joinN n i).kind = n.kind := by unfold joinN; split <;> rfl
theorem joinL_len {u : List Int} {i : Int} (hu : u.any outside = false) (hi : 0 ≤ i) (hi2 : i ≤ 63) : (joinL u i).length ≤ 64 ∧ (joinL u i).any outside = false ∧ thinL (joinL u i) = joinL u i := by
  have hm : ∀ y ∈ joinL u i, 0 ≤ y ∧ y < 64 := by
    intro y hy
    unfold joinL at hy
    rw [thin_mem] at hy
    rcases List.mem_append.1 hy with h | h
    · have := List.any_eq_false.1 hu y h
      unfold outside at this
      simp at this
      omega
    · simp at h; omega
  have hr : (joinL u i).Pairwise (· < ·) := thin_rise _
  refine ⟨?_, ?_, thin_of hr⟩
  · have := rise_len hr hm; omega
  · refine List.any_eq_false.2 fun y hy => ?_
    have := hm y hy
    unfold outside
    simp
    omega
theorem nc_inner {n : Node} (hk : n.kind = 2) : nodeCheck n = if n.leaf = noLeaf then parentCheck n.inner else 2 := by
  unfold nodeCheck
  rw [hk]
  by_cases h : n.leaf = noLeaf <;> simp [h]
theorem pc_join {n : Inner} {i : Int} (h2 : parentCheck n = 0) (hi : 0 ≤ i) (hi2 : i ≤ 63) : parentCheck { n with unmerged := joinL n.unmerged i } = 0 := by
  unfold parentCheck at h2 ⊢
  dsimp only
  split at h2
  · omega
  · rename_i a1
    split at h2
    · omega
    · rename_i a2
      split at h2
      · omega
      · rename_i a3
        obtain ⟨b1, b2, b3⟩ := joinL_len (u := n.unmerged) (i := i) (by simpa using a3) hi hi2
        rw [if_neg a1, if_neg (by omega), if_neg (by rw [b2]; simp), if_pos b3]
theorem okAt_join {x : Int} {n : Node} {i : Int} (h : okAt x n = true) (hi : 0 ≤ i) (hi2 : i ≤ 63) : okAt x (joinN n i) = true := by
  unfold joinN
  split
  · rename_i hk
    unfold okAt at h ⊢
    simp only [Bool.and_eq_true, decide_eq_true_eq] at h ⊢
    refine ⟨h.1, ?_⟩
    have h2 := h.2
    rw [nc_inner hk] at h2
    rw [nc_inner (by exact hk)]
    dsimp only
    split at h2
    · rename_i hl
      rw [if_pos hl]
      exact pc_join h2 hi hi2
    · omega
  · exact h
theorem sane_set {t : List Node} (h : sane t = true) (x : Nat) {n : Node} (hn : okAt x n = true) : sane (t.set x n) = true := by
  refine sane_of h (by simp) fun y hy => ?_
  rw [List.getElem_set]
  split
  · rename_i he; subst he; exact hn
  · exact sane_get h y (by simpa using hy)
theorem sane_joinAt {t : List Node} {i x : Int} (h : sane t = true) (hx : 0 ≤ x) (hx2 : x < t.length) (hi : 0 ≤ i) (hi2 : i ≤ 63) : sane (joinAt i t x) = true := by
  refine sane_set h _ (okAt_join ?_ hi hi2)
  have e : x = (x.toNat : Int) := by omega
  rw [e, nth_get (show x.toNat < t.length by omega)]
  exact sane_get h _ _
theorem sane_joinAll {t : List Node} {i : Int} {xs : List Int} (h : sane t = true) (hx : ∀ y ∈ xs, 0 ≤ y ∧ y < t.length) (hi : 0 ≤ i) (hi2 : i ≤ 63) : sane (joinAll i t xs) = true := by
  unfold joinAll
  induction xs generalizing t with
  | nil => exact h
  | cons y xs ih =>
    have hy := hx y (by simp)
    refine ih (sane_joinAt h hy.1 hy.2 hi hi2) fun z hz => ?_
    have := hx z (List.mem_cons_of_mem _ hz)
    rw [joinAt, List.length_set]
    exact this
theorem sane_laid {t : List Node} {i : Int} {l : Leaf} (h : sane t = true) (hi : 0 ≤ i) (hl : leafCheck l = 0) : sane (laidL t i l) = true := by
  refine sane_set h _ (ok_leaf (by omega) hl)
theorem whole_grow {w : Int} (h : whole w = true) (h2 : ¬ w = 127) : whole (2 * w + 1) = true := by
  unfold whole at h ⊢
  simp only [Bool.or_eq_true, decide_eq_true_eq] at h ⊢
  omega
theorem sane_grow {t : List Node} (h : sane t = true) (h2 : ¬ (t.length : Int) = 127) : sane (growL t) = true := by
  have hl := growL_len t
  unfold sane
  simp only [Bool.and_eq_true]
  refine ⟨List.all_eq_true.2 fun x hx => ?_, ?_⟩
  · have hx := List.mem_range.1 hx
    by_cases hxt : x < t.length
    · have : (growL t).getD x default = t[x] := by
        unfold growL
        rw [List.getD_eq_getElem?_getD, List.getElem?_append_left hxt, List.getElem?_eq_getElem hxt]; rfl
      rw [this]
      exact sane_get h x hxt
    · have : (growL t).getD x default = noNode := by
        unfold growL
        rw [List.getD_eq_getElem?_getD, List.getElem?_append_right (by omega), List.getElem?_replicate, if_pos (by omega)]; rfl
      rw [this]
      exact ok_noNode _
  · simp only [Bool.or_eq_true, decide_eq_true_eq]
    right
    by_cases h0 : t.length = 0
    · rw [hl, h0]; decide
    · have := whole_grow (sane_whole h (by omega)) h2
      rw [hl]
      rw [show ((2 * t.length + 1 : Nat) : Int) = 2 * (t.length : Int) + 1 from by omega]
      exact this
theorem free_grow {t : List Node} (h : sane t = true) (h2 : ¬ (t.length : Int) = 127) : ¬ freeL (growL t) = -1 := by
  intro hf
  have hl := growL_len t
  unfold freeL at hf
  split at hf
  · rename_i x _; omega
  · rename_i hn
    rw [List.find?_range_eq_none] at hn
    have hodd : t.length = 0 ∨ t.length % 2 = 1 := by
      by_cases h0 : t.length = 0
      · exact .inl h0
      · have := sane_whole h (by omega)
        unfold whole at this
        simp only [Bool.or_eq_true, decide_eq_true_eq] at this
        omega
    have hb : ∀ x : Nat, t.length ≤ x → x < (growL t).length → (nth (growL t) x).kind = 0 := by
      intro x h1 h3
      have e : (growL t)[x]? = some noNode := by unfold growL; rw [List.getElem?_append_right h1, List.getElem?_replicate, if_pos (by omega)]
      rw [List.getElem?_eq_getElem h3] at e
      rw [nth_get h3, Option.some.inj e]; rfl
    rcases hodd with h0 | h0
    · have := hn 0 (by omega)
      unfold blankAt at this
      have h3 := hb 0 (by omega) (by omega)
      simp at this
      exact this h3
    · have := hn (t.length + 1) (by omega)
      unfold blankAt at this
      have h3 := hb (t.length + 1) (by omega) (by omega)
      simp at this
      rcases this with h4 | h4
      · omega
      · exact h4 (by exact_mod_cast h3)
theorem unm_len {t : List Node} (h : sane t = true) {x : Int} (hx : 0 ≤ x) (hx2 : x < t.length) (hk : (nth t x).kind = 2) : ((nth t x).inner.unmerged.length : Int) ≤ 64 := by
  have e : x = (x.toNat : Int) := by omega
  rw [e, nth_get (show x.toNat < t.length by omega)] at hk ⊢
  have := sane_get h x.toNat (by omega)
  unfold okAt at this
  simp only [Bool.and_eq_true, decide_eq_true_eq] at this
  have h2 := this.2
  rw [nc_inner hk] at h2
  split at h2
  · unfold parentCheck at h2
    split at h2
    · omega
    · split at h2
      · omega
      · omega
  · omega
theorem nth_map_node {u : List RNode} {x : Int} (h0 : 0 ≤ x) (h1 : x < u.length) : nth (u.map RNode.node) x = (nth u x).node := by
  have e : x = (x.toNat : Int) := by omega
  have h : x.toNat < u.length := by omega
  rw [e, nth_get (by simpa using h), nth_get h]; simp
theorem joinAll_next {i : Int} {t : List Node} {xs : List Int} {k : Int} {u : List RNode} (h0 : 0 ≤ k) (h1 : k < (xs.length : Int)) (h : u.map RNode.node = joinAll i t (xs.take k.toNat)) {z : RNode} (hz : z.node = joinN (nth (u.map RNode.node) (nth xs k)) i) :
    (u.set (nth xs k).toNat z).map RNode.node = joinAll i t (xs.take (k + 1).toNat) := by
  have e : (k + 1).toNat = k.toNat + 1 := by omega
  have hl : k.toNat < xs.length := by omega
  rw [List.map_set, hz, e, List.take_succ_eq_append_getElem hl]
  unfold joinAll at h ⊢
  rw [List.foldl_append, ← h]
  simp [nth, hl, joinAt]
theorem joinAll_same {i : Int} {t : List Node} {xs : List Int} {k : Int} {u : List RNode} (h0 : 0 ≤ k) (h1 : k < (xs.length : Int)) (h : u.map RNode.node = joinAll i t (xs.take k.toNat)) (hz : ¬ (nth (u.map RNode.node) (nth xs k)).kind = 2) :
    u.map RNode.node = joinAll i t (xs.take (k + 1).toNat) := by
  have e : (k + 1).toNat = k.toNat + 1 := by omega
  have hl : k.toNat < xs.length := by omega
  rw [e, List.take_succ_eq_append_getElem hl]
  unfold joinAll at h ⊢
  rw [List.foldl_append, ← h]
  have : nth xs k = xs[k.toNat] := by simp [nth, hl]
  rw [this] at hz
  show _ = joinAt i (u.map RNode.node) xs[k.toNat]
  unfold joinAt joinN
  rw [if_neg hz]
  generalize u.map RNode.node = v
  generalize xs[k.toNat] = x
  symm
  refine List.ext_getElem (by simp) fun j hj1 hj2 => ?_
  rw [List.getElem_set]
  split
  · rename_i he
    subst he
    unfold nth
    simp [hj2]
  · rfl
def roomT (t : List Node) : List Node := if freeL t = -1 then growL t else t
def addE (t : List Node) (l : Leaf) : Int := if sourceE l 1 ≠ 0 then sourceE l 1 else if freeL (tree t) = -1 ∧ ((tree t).length : Int) = 127 then 10 else 0
def addI (t : List Node) (l : Leaf) : Int := if addE t l = 0 then freeL (roomT (tree t)) else -1
def addT (t : List Node) (l : Leaf) : List Node := if addE t l = 0 then addAt (roomT (tree t)) (freeL (roomT (tree t))) l else []
theorem add_err {t : List Node} {l : Leaf} {e : Int} (h : addE t l = e) (he : ¬ e = 0) : PV.tup [ownNodes [], i64P (-1), i64P e] = PV.tup [ownNodes (addT t l), i64P (addI t l), i64P (addE t l)] := by
  have h1 : addT t l = [] := by unfold addT; rw [if_neg (by rw [h]; exact he)]
  have h2 : addI t l = -1 := by unfold addI; rw [if_neg (by rw [h]; exact he)]
  rw [h1, h2, h]
theorem add_ok {t v : List Node} {l : Leaf} {u : List RNode} {n : Nat} (h : addE t l = 0) (hv : roomT (tree t) = v) (hu : u.map RNode.node = addAt v (freeL v) l) (hn : n = v.length) : PV.tup [PV.own 37 n ((u.map RNode.node).flatMap nodeCs), i64P (freeL v), i64P 0] = PV.tup [ownNodes (addT t l), i64P (addI t l), i64P (addE t l)] := by
  have h1 : addT t l = addAt v (freeL v) l := by unfold addT; rw [if_pos h, hv]
  have h2 : addI t l = freeL v := by unfold addI; rw [if_pos h, hv]
  rw [h1, h2, h, hu]
  unfold ownNodes
  rw [addAt_len, hn]
theorem source_zero {l : Leaf} {k : Int} (h : sourceE l k = 0) : leafCheck l = 0 := by
  unfold sourceE at h
  split at h
  · omega
  · exact h
theorem wf_grow {t : List Node} (h : WfT t) (hl : (t.length : Int) ≤ 1000000) : WfT (growL t) := by
  refine ⟨by have := growL_len t; omega, fun n hn => ?_⟩
  rcases List.mem_append.1 hn with hn | hn
  · exact h.2 n hn
  · rw [List.eq_of_mem_replicate hn]; exact wf_noNode
theorem run_Add1 (t : List Node) (l : Leaf) (ht : WfT t) (hs : sane t = true) : Run C0 13 [(nodesP t), (.agg (leafCs l))] (.tup [ownNodes (addT t l), i64P (addI t l), i64P (addE t l)]) := by
  have hs_l := sane_len hs
  have htt : tree t = t := by unfold tree; rw [if_pos hs]
  refine run_fn (C := C0) (c := _) [(nodesP t), (.agg (leafCs l)), undefP, undefP, undefP, undefP, undefP, undefP, undefP, undefP, undefP, undefP, undefP, undefP, undefP, undefP, undefP, undefP, undefP, undefP, undefP, undefP, undefP, undefP, undefP, undefP, undefP, undefP, undefP, undefP, undefP, undefP, undefP, undefP, undefP, undefP, undefP, undefP, undefP, undefP, undefP, undefP, undefP, undefP, undefP, undefP, undefP, undefP, undefP, undefP, undefP, undefP, undefP, undefP, undefP, undefP, undefP, undefP, undefP, undefP, undefP, undefP, undefP, undefP, undefP, undefP, undefP, undefP, undefP, undefP, undefP] Tryz.func13 rfl rfl rfl rfl ?_
  have ho := own_nil []
  refine w_seq ?_
  refine w_reg ?_
  refine w_box ho (leafCs l) rfl (isC_leaf _) (fun _ r1 ho2 => ?_)
  refine w_as nilS rfl ?_
  refine w_as (i64P 0) rfl ?_
  refine w_as (i64P 0) rfl ?_
  try dsimp only [setD, List.set]
  refine w_nil ?_
  refine un_n ?_
  refine w_seq ?_
  refine w_reg ?_
  refine w_mv (nodesP t) rfl ?_
  refine w_ccl ho2 _ (nodesP t) [((.ptr r1 0), .cells 25 (leafCs l) none false)] rfl rfl (cl_cons (cl_nodes ..) (cl_nil _)) (run_edit_known1 t (by first | assumption | exact wf_nil) hs) (rv_lst ..) (sl_cons (so_cells (hasE_nodes (by decide) (by decide) (by decide) (by decide) _)) sl_nil) (fun _ ho4 => ?_)
  refine w_as (nodesP t) rfl ?_
  try dsimp only [setD, List.set]
  refine w_nil ?_
  refine un_n ?_
  refine w_seq ?_
  refine w_seq ?_
  refine w_reg ?_
  refine w_ld (.agg (leafCs l)) (ld_var ho4 0 rfl (ld_agg sz_25 ag_25 rfl (show 4 ≤ 4 by decide))) ?_
  refine w_cs _ (i64P (sourceE l 1)) rfl (cl_cons (cl_agg (cl_leafCs ..)) (cl_cons (cl_i64 ..) (cl_nil _))) (run_edit_source l 1) rfl (fun H => calm_s H _) ?_
  refine w_as (i64P (sourceE l 1)) rfl ?_
  try dsimp only [setD, List.set]
  refine w_nil ?_
  refine un_n ?_
  refine w_seq ?_
  refine w_reg ?_
  refine w_mv (i64P (sourceE l 1)) rfl ?_
  refine w_bin (boolP (!(decide ((sourceE l 1) = 0)))) rfl ?_
  try dsimp only [setD, List.set]
  refine w_nil ?_
  refine un_n ?_
  refine w_if (!(decide ((sourceE l 1) = 0))) rfl (fun h5 => ?_) (fun h5 => ?_)
  · have h5' := nb1 h5
    have h5'_ := of_decide_eq_false h5'
    refine w_seq ?_
    refine w_reg ?_
    refine w_mv (i64P (sourceE l 1)) rfl ?_
    refine w_as nilS rfl ?_
    refine w_as (i64P (-1)) rfl ?_
    refine w_as (i64P (sourceE l 1)) rfl ?_
    try dsimp only [setD, List.set]
    refine w_nil ?_
    refine un_n ?_
    refine w_ret ?_
    refine un_r ?_
    refine ⟨.inr rfl, [nilS, (i64P (-1)), (i64P (sourceE l 1))], [(.own 37 0 []), (i64P (-1)), (i64P (sourceE l 1))], rfl, (ca_cons (cr_nil el_22) (ca_cons (cr_i64 _) (ca_cons (cr_i64 _) ca_nil))), ?_⟩
    first | (exfalso; omega) | (first | exact add_err (by unfold addE; rw [htt]; (repeat' split) <;> first | rfl | omega | (exfalso; simp_all; done) | (exfalso; simp_all; omega)) (by first | decide | omega | assumption) | exact add_ok (by unfold addE; rw [htt]; (repeat' split) <;> first | rfl | omega | (exfalso; simp_all; done) | (exfalso; simp_all; omega)) (by rw [htt]; unfold roomT; split <;> first | rfl | omega) (by rw [hc, List.take_of_length_le (by omega), laidL_len]; rfl) (by first | omega | assumption))
  · have h5' := nb0 h5
    have h5'_ := of_decide_eq_true h5'
    refine w_skip ?_
    refine un_n ?_
    refine w_seq ?_
    refine w_reg ?_
    refine w_mv (nodesP t) rfl ?_
    refine w_cs _ (i64P (freeL t)) rfl (cl_cons (cl_nodes ..) (cl_nil _)) (run_Free1 t (by first | assumption | exact wf_nil | exact wf_change (by assumption) _ _ | exact wf_change (wf_change (by assumption) _ _) _ _) hs) rfl (fun H => calm_s H _) ?_
    refine w_as (i64P (freeL t)) rfl ?_
    try dsimp only [setD, List.set]
    refine w_nil ?_
    refine un_n ?_
    refine w_seq ?_
    refine w_seq ?_
    refine w_reg ?_
    refine w_mv (i64P (freeL t)) rfl ?_
    refine w_bin (boolP (decide ((freeL t) = (-1)))) rfl ?_
    try dsimp only [setD, List.set]
    refine w_nil ?_
    refine un_n ?_
    refine w_if (decide ((freeL t) = (-1))) rfl (fun h6 => ?_) (fun h6 => ?_)
    · have h6_ := of_decide_eq_true h6
      refine w_seq ?_
      refine w_reg ?_
      refine w_mv (nodesP t) rfl ?_
      rcases Bool.eq_false_or_eq_true (decide ((t.length : Int) = 127)) with h7 | h7
      · refine w_cownt ho4 _ _ _ _ _ [(.int .i64 10)] [((.ptr r1 0), .cells 25 (leafCs l) none false)] rfl rfl (cl_cons (cl_nodes ..) (cl_nil _)) (run_Grow1 t (by first | assumption | exact wf_nil | exact wf_change (by assumption) _ _ | exact wf_change (wf_change (by assumption) _ _) _ _) (by assumption) h7) sz_37 (by decide) (flat_len nodeCs_len _) (sl_cons (so_cells (has_tup (has_own (hasE_nodeCs (by decide) (by decide) (by decide) _)))) sl_nil) (fun _ r9 ho8 => ?_)
        refine w_mv (.tup [(.row r9 0 0), (i64P 10)]) rfl ?_
        refine w_xt [(.row r9 0 0), (i64P 10)] (.row r9 0 0) rfl rfl ?_
        try dsimp only [setD, List.set]
        refine w_xt [(.row r9 0 0), (i64P 10)] (i64P 10) rfl rfl ?_
        refine w_as (.row r9 0 0) rfl ?_
        refine w_as (i64P 10) rfl ?_
        try dsimp only [setD, List.set]
        refine w_nil ?_
        refine un_n ?_
        refine w_seq ?_
        refine w_seq ?_
        refine w_reg ?_
        refine w_mv (i64P 10) rfl ?_
        refine w_bin (boolP (!(decide ((10 : Int) = 0)))) rfl ?_
        try dsimp only [setD, List.set]
        refine w_nil ?_
        refine un_n ?_
        refine w_if1 rfl (by decide) ?_
        refine w_seq ?_
        refine w_reg ?_
        refine w_mv (i64P 10) rfl ?_
        refine w_as nilS rfl ?_
        refine w_as (i64P (-1)) rfl ?_
        refine w_as (i64P 10) rfl ?_
        try dsimp only [setD, List.set]
        refine w_nil ?_
        refine un_n ?_
        refine w_ret ?_
        refine un_r ?_
        refine un_r ?_
        refine ⟨.inr rfl, [nilS, (i64P (-1)), (i64P 10)], [(.own 37 0 []), (i64P (-1)), (i64P 10)], rfl, (ca_cons (cr_nil el_22) (ca_cons (cr_i64 _) (ca_cons (cr_i64 _) ca_nil))), ?_⟩
        first | (exfalso; omega) | (first | exact add_err (by unfold addE; rw [htt]; (repeat' split) <;> first | rfl | omega | (exfalso; simp_all; done) | (exfalso; simp_all; omega)) (by first | decide | omega | assumption) | exact add_ok (by unfold addE; rw [htt]; (repeat' split) <;> first | rfl | omega | (exfalso; simp_all; done) | (exfalso; simp_all; omega)) (by rw [htt]; unfold roomT; split <;> first | rfl | omega) (by rw [hc, List.take_of_length_le (by omega), laidL_len]; rfl) (by first | omega | assumption))
      · have hg7 := of_decide_eq_false h7
        have hsg : sane (growL t) = true := sane_grow hs hg7
        have hgl := growL_len t
        have hsgl := sane_len hsg
        have hfg := free_bound (free_grow hs hg7)
        have hwg : WfT (growL t) := wf_grow ht (by omega)
        have hDl : (laidL (growL t) (freeL (growL t)) l).length = (growL t).length := laidL_len _ _ _; have hwD : whole ((laidL (growL t) (freeL (growL t)) l).length : Int) = true := by rw [laidL_len]; exact sane_whole (by assumption) (by omega)
        refine w_cownt ho4 _ _ _ _ _ [(.int .i64 0)] [((.ptr r1 0), .cells 25 (leafCs l) none false)] rfl rfl (cl_cons (cl_nodes ..) (cl_nil _)) (run_Grow0 t (by first | assumption | exact wf_nil | exact wf_change (by assumption) _ _ | exact wf_change (wf_change (by assumption) _ _) _ _) (by assumption) h7) sz_37 (by decide) (flat_len nodeCs_len _) (sl_cons (so_cells (has_tup (has_own (hasE_nodeCs (by decide) (by decide) (by decide) _)))) sl_nil) (fun _ r12 ho11 => ?_)
        rw [← rs_cells] at ho11
        refine w_mv (.tup [(.row r12 0 (growL t).length), (i64P 0)]) rfl ?_
        refine w_xt [(.row r12 0 (growL t).length), (i64P 0)] (.row r12 0 (growL t).length) rfl rfl ?_
        try dsimp only [setD, List.set]
        refine w_xt [(.row r12 0 (growL t).length), (i64P 0)] (i64P 0) rfl rfl ?_
        refine w_as (.row r12 0 (growL t).length) rfl ?_
        refine w_as (i64P 0) rfl ?_
        try dsimp only [setD, List.set]
        refine w_nil ?_
        refine un_n ?_
        refine w_seq ?_
        refine w_seq ?_
        refine w_reg ?_
        refine w_mv (i64P 0) rfl ?_
        refine w_bin (boolP (!(decide ((0 : Int) = 0)))) rfl ?_
        try dsimp only [setD, List.set]
        refine w_nil ?_
        refine un_n ?_
        refine w_if0 rfl (by decide) ?_
        refine w_skip ?_
        refine un_n ?_
        refine w_reg ?_
        refine w_mv (.row r12 0 (growL t).length) rfl ?_
        refine w_mv (.row r12 0 (growL t).length) rfl ?_
        refine w_cs _ (i64P (freeL (growL t))) rfl (cl_cons (cl_rn0 ho11 0 rfl) (cl_nil _)) (run_Free1 (growL t) (by first | assumption | exact wf_nil | exact wf_change (by assumption) _ _ | exact wf_change (wf_change (by assumption) _ _) _ _) (sane_grow (by assumption) (by omega))) rfl (fun H => calm_s H _) ?_
        refine w_as (.row r12 0 (growL t).length) rfl ?_
        try dsimp only [setD, List.set]
        refine w_as (i64P (freeL (growL t))) rfl ?_
        try dsimp only [setD, List.set]
        refine w_nil ?_
        refine un_n ?_
        refine w_seq ?_
        refine w_reg ?_
        refine w_mv (.row r12 0 (growL t).length) rfl ?_
        refine w_mv (i64P (freeL (growL t))) rfl ?_
        refine w_ld (.agg (leafCs l)) (ld_var ho11 1 rfl (ld_agg sz_25 ag_25 rfl (show 4 ≤ 4 by decide))) ?_
        refine w_cown ho11 _ _ _ _ _ [((.row r12 0 (growL t).length), .cells 37 (((growL t).map Node.r).flatMap rCs) (some 8) false), ((.ptr r1 0), .cells 25 (leafCs l) none false)] rfl rfl (cl_cons (cl_rn0 ho11 0 rfl) (cl_cons (cl_i64 ..) (cl_cons (cl_agg (cl_leafCs ..)) (cl_nil _)))) (run_edit_laid (growL t) (freeL (growL t)) l (by first | omega | (simp; omega) | (simp [sortL]; omega)) (by first | omega | (simp; omega) | (simp [sortL]; omega)) (by first | omega | (simp; omega) | (simp [sortL]; omega))) sz_37 (by decide) (flat_len nodeCs_len _) (sl_cons (so_cells (has_own (hasE_nodeCs (by decide) (by decide) (by decide) _))) (sl_cons (so_cells (has_own (hasE_nodeCs (by decide) (by decide) (by decide) _))) sl_nil)) (fun _ r15 ho14 => ?_)
        rw [← rs_cells] at ho14
        try dsimp only [setD, List.set]
        refine w_as (.row r15 0 (laidL (growL t) (freeL (growL t)) l).length) rfl ?_
        try dsimp only [setD, List.set]
        refine w_nil ?_
        refine un_n ?_
        refine w_seq ?_
        refine w_seq ?_
        refine w_reg ?_
        refine w_mv (i64P (freeL (growL t))) rfl ?_
        refine w_bin (i64P (2 * (freeL (growL t)))) (b_mul rfl rfl (by omega) (by omega)) ?_
        refine w_mv (.row r15 0 (laidL (growL t) (freeL (growL t)) l).length) rfl ?_
        refine w_lenO ho14 0 ((laidL (growL t) (freeL (growL t)) l).length) ((laidL (growL t) (freeL (growL t)) l).length : Int) (by rw [el_22]; rfl) rfl rfl (by decide) (flat_len' rCs_len (by first | assumption | (simp; done) | (simp [*]; done) | (simp; omega))) rfl ?_
        try dsimp only [setD, List.set]
        refine w_cown ho14 _ _ _ _ _ [((.row r15 0 (laidL (growL t) (freeL (growL t)) l).length), .cells 37 (((laidL (growL t) (freeL (growL t)) l).map Node.r).flatMap rCs) (some 8) false), ((.row r12 0 (growL t).length), .cells 37 (((growL t).map Node.r).flatMap rCs) (some 8) false), ((.ptr r1 0), .cells 25 (leafCs l) none false)] rfl rfl (cl_cons (cl_i64 ..) (cl_cons (cl_i64 ..) (cl_nil _))) (run_direct (2 * (freeL (growL t))) ((laidL (growL t) (freeL (growL t)) l).length : Int) (by first | assumption | exact sane_whole (by assumption) (by omega)) (by omega) (by omega)) sz_3 (by decide) (flat_len intF_len _) (sl_cons (so_cells (has_own (hasE_intF _ _))) (sl_cons (so_cells (has_own (hasE_intF _ _))) (sl_cons (so_cells (has_own (hasE_intF _ _))) sl_nil))) (fun _ r18 ho17 => ?_)
        refine w_lenO ho17 0 ((directN (2 * (freeL (growL t))).toNat ((laidL (growL t) (freeL (growL t)) l).length)).length) ((directN (2 * (freeL (growL t))).toNat ((laidL (growL t) (freeL (growL t)) l).length)).length : Int) (by rw [el_33]; rfl) rfl rfl (by decide) (flat_len' intF_len (by first | assumption | (simp; done) | (simp [*]; done) | (simp; omega))) rfl ?_
        refine w_mv (i64P 0) rfl ?_
        try dsimp only [setD, List.set]
        refine w_nil ?_
        refine un_n ?_
        refine w_block ?_
        have hP : ∀ y ∈ (directN (2 * (freeL (growL t))).toNat (laidL (growL t) (freeL (growL t)) l).length), 0 ≤ y ∧ y < ((laidL (growL t) (freeL (growL t)) l).length : Int) := fun y hy => direct_bound (x := 2 * (freeL (growL t))) (w := ((laidL (growL t) (freeL (growL t)) l).length : Int)) hwD (by omega) (by omega) hy
        have hPl : (directN (2 * (freeL (growL t))).toNat (laidL (growL t) (freeL (growL t)) l).length).length ≤ 8 := direct_len (x := 2 * (freeL (growL t))) (w := ((laidL (growL t) (freeL (growL t)) l).length : Int)) hwD (by omega) (by omega)
        have hsD : sane (laidL (growL t) (freeL (growL t)) l) = true := sane_laid (by assumption) (by omega) (source_zero (by assumption))
        refine w_loop (fun n g H => ∃ (k : Int) (j12 : PV) (j46 : PV) (j47 : PV) (j48 : PV) (j49 : PV) (j50 : PV) (j51 : PV) (j52 : PV) (j53 : PV) (j54 : PV) (j55 : PV) (j56 : PV) (j57 : PV) (j58 : PV) (j59 : PV) (j60 : PV) (j61 : PV) (j62 : PV) (j63 : PV) (j64 : PV) (j65 : PV) (j66 : PV) (j67 : PV) (j68 : PV) (u : List RNode) (sf : Bool), g = [(.row r15 0 (laidL (growL t) (freeL (growL t)) l).length), (.agg (leafCs l)), undefP, (.ptr r1 0), nilS, (i64P 0), (i64P 0), (i64P (sourceE l 1)), (i64P (freeL (growL t))), (.row r12 0 (growL t).length), (i64P 0), undefP, j12, (nodesP t), (nodesP t), (.agg (leafCs l)), (i64P (sourceE l 1)), (i64P (sourceE l 1)), (boolP (!(decide ((sourceE l 1) = 0)))), undefP, (nodesP t), (i64P (freeL t)), (i64P (freeL t)), (boolP (decide ((freeL t) = (-1)))), (.tup [(.row r12 0 (growL t).length), (i64P 0)]), (nodesP t), (.tup [(.row r12 0 (growL t).length), (i64P 0)]), (.row r12 0 (growL t).length), (i64P 0), (i64P 0), (boolP (!(decide ((0 : Int) = 0)))), undefP, (.row r12 0 (growL t).length), (.row r12 0 (growL t).length), (i64P (freeL (growL t))), (.row r12 0 (growL t).length), (i64P (freeL (growL t))), (.agg (leafCs l)), (.row r15 0 (laidL (growL t) (freeL (growL t)) l).length), (i64P (freeL (growL t))), (i64P (2 * (freeL (growL t)))), (.row r15 0 (laidL (growL t) (freeL (growL t)) l).length), (i64P ((laidL (growL t) (freeL (growL t)) l).length : Int)), (.row r18 0 (directN (2 * (freeL (growL t))).toNat ((laidL (growL t) (freeL (growL t)) l).length)).length), (i64P ((directN (2 * (freeL (growL t))).toNat ((laidL (growL t) (freeL (growL t)) l).length)).length : Int)), (i64P k), j46, j47, j48, j49, j50, j51, j52, j53, j54, j55, j56, j57, j58, j59, j60, j61, j62, j63, j64, j65, j66, j67, j68, undefP, undefP] ∧ Own H [((.row r18 0 (directN (2 * (freeL (growL t))).toNat ((laidL (growL t) (freeL (growL t)) l).length)).length), .cells 3 ((directN (2 * (freeL (growL t))).toNat ((laidL (growL t) (freeL (growL t)) l).length)).flatMap intF) (some 1) sf), ((.row r15 0 (laidL (growL t) (freeL (growL t)) l).length), .cells 37 (u.flatMap rCs) (some 8) false), ((.row r12 0 (growL t).length), .cells 37 (((growL t).map Node.r).flatMap rCs) (some 8) false), ((.ptr r1 0), .cells 25 (leafCs l) none false)] ∧ n = (((directN (2 * (freeL (growL t))).toNat (laidL (growL t) (freeL (growL t)) l).length).length : Int) - k).toNat ∧ (0 ≤ k) ∧ (k ≤ ((directN (2 * (freeL (growL t))).toNat (laidL (growL t) (freeL (growL t)) l).length).length : Int)) ∧ (u.length = (growL t).length) ∧ (u.map RNode.node = joinAll (freeL (growL t)) (laidL (growL t) (freeL (growL t)) l) ((directN (2 * (freeL (growL t))).toNat (laidL (growL t) (freeL (growL t)) l).length).take k.toNat))) ⟨0, _, _, _, _, _, _, _, _, _, _, _, _, _, _, _, _, _, _, _, _, _, _, _, _, ((laidL (growL t) (freeL (growL t)) l).map Node.r), false, rfl, ho17, rfl, (by omega), (by omega), (by simp [laidL_len]), (rs_node _)⟩ ?_
        rintro m21 _ H ⟨k, j12, j46, j47, j48, j49, j50, j51, j52, j53, j54, j55, j56, j57, j58, j59, j60, j61, j62, j63, j64, j65, j66, j67, j68, u, sf, rfl, ho20, em21, hk0, hk1, hu, hc⟩
        refine w_seq ?_
        refine w_reg ?_
        refine w_bin (boolP (decide (k < ((directN (2 * (freeL (growL t))).toNat ((laidL (growL t) (freeL (growL t)) l).length)).length : Int)))) rfl ?_
        try dsimp only [setD, List.set]
        refine w_nil ?_
        refine un_n ?_
        refine w_seq ?_
        refine w_if (decide (k < ((directN (2 * (freeL (growL t))).toNat ((laidL (growL t) (freeL (growL t)) l).length)).length : Int))) rfl (fun h22 => ?_) (fun h22 => ?_)
        · have h22_ := of_decide_eq_true h22
          have hb := hP (nth (directN (2 * (freeL (growL t))).toNat (laidL (growL t) (freeL (growL t)) l).length) k) (nth_mem hk0 (by omega))
          refine w_skip ?_
          refine un_n ?_
          refine w_seq ?_
          refine w_block ?_
          refine w_seq ?_
          refine w_reg ?_
          refine w_ia (.ptr r18 (k.toNat * 1 + 0)) (ix_row ho20 0 rfl el_33 sz_3 (by omega) (by omega)) ?_
          refine w_ld (i64P (nth (directN (2 * (freeL (growL t))).toNat ((laidL (growL t) (freeL (growL t)) l).length)) k)) (ld_rowat intF_len ho20 0 rfl (by first | omega | (simp; omega) | (simp [sortL]; omega)) (by first | omega | (simp; omega) | (simp [sortL]; omega)) (by decide) (ld_one sz_3 ag_3 rfl)) ?_
          refine w_as (i64P (nth (directN (2 * (freeL (growL t))).toNat ((laidL (growL t) (freeL (growL t)) l).length)) k)) rfl ?_
          try dsimp only [setD, List.set]
          refine w_nil ?_
          refine un_n ?_
          refine w_seq ?_
          refine w_reg ?_
          refine w_mv (.row r15 0 (laidL (growL t) (freeL (growL t)) l).length) rfl ?_
          refine w_mv (i64P (nth (directN (2 * (freeL (growL t))).toNat ((laidL (growL t) (freeL (growL t)) l).length)) k)) rfl ?_
          refine w_ia (.ptr r15 ((nth (directN (2 * (freeL (growL t))).toNat ((laidL (growL t) (freeL (growL t)) l).length)) k).toNat * 8 + 0)) (ix_row ho20 1 rfl el_22 sz_37 (by omega) (by omega)) ?_
          refine w_fa (.ptr r15 ((nth (directN (2 * (freeL (growL t))).toNat ((laidL (growL t) (freeL (growL t)) l).length)) k).toNat * 8 + 0)) (fa_ptr fd_37_0 sz_3 (by decide)) ?_
          try dsimp only [setD, List.set]
          refine w_ld (i64P ((nth u (nth (directN (2 * (freeL (growL t))).toNat ((laidL (growL t) (freeL (growL t)) l).length)) k)).kind)) (ld_rowat rCs_len ho20 1 rfl (by first | omega | (simp; omega) | (simp [sortL]; omega)) (by first | omega | (simp; omega) | (simp [sortL]; omega)) (by decide) (ld_one sz_3 ag_3 rfl)) ?_
          refine w_bin (boolP (decide ((nth u (nth (directN (2 * (freeL (growL t))).toNat ((laidL (growL t) (freeL (growL t)) l).length)) k)).kind = 2))) rfl ?_
          try dsimp only [setD, List.set]
          refine w_nil ?_
          refine un_n ?_
          refine w_if (decide ((nth u (nth (directN (2 * (freeL (growL t))).toNat ((laidL (growL t) (freeL (growL t)) l).length)) k)).kind = 2)) rfl (fun h23 => ?_) (fun h23 => ?_)
          · have h23_ := of_decide_eq_true h23
            have hsu : sane (u.map RNode.node) = true := by rw [hc]; exact sane_joinAll hsD (fun y hy => hP y (List.mem_of_mem_take hy)) (by omega) (by omega)
            have hun : (((nth u (nth (directN (2 * (freeL (growL t))).toNat (laidL (growL t) (freeL (growL t)) l).length) k)).unmerged.getD []).length : Int) ≤ 64 := by have h1 := unm_len hsu (x := nth (directN (2 * (freeL (growL t))).toNat (laidL (growL t) (freeL (growL t)) l).length) k) (by omega) (by rw [List.length_map]; omega) (by rw [nth_map_node (by omega) (by omega)]; exact h23_); rw [nth_map_node (by omega) (by omega)] at h1; exact h1
            refine w_reg ?_
            refine w_mv (.row r15 0 (laidL (growL t) (freeL (growL t)) l).length) rfl ?_
            refine w_mv (i64P (nth (directN (2 * (freeL (growL t))).toNat ((laidL (growL t) (freeL (growL t)) l).length)) k)) rfl ?_
            refine w_mv (.row r15 0 (laidL (growL t) (freeL (growL t)) l).length) rfl ?_
            refine w_mv (i64P (nth (directN (2 * (freeL (growL t))).toNat ((laidL (growL t) (freeL (growL t)) l).length)) k)) rfl ?_
            try dsimp only [setD, List.set]
            refine w_ia (.ptr r15 ((nth (directN (2 * (freeL (growL t))).toNat ((laidL (growL t) (freeL (growL t)) l).length)) k).toNat * 8 + 0)) (ix_row ho20 1 rfl el_22 sz_37 (by omega) (by omega)) ?_
            refine w_fa (.ptr r15 ((nth (directN (2 * (freeL (growL t))).toNat ((laidL (growL t) (freeL (growL t)) l).length)) k).toNat * 8 + 5)) (fa_ptr fd_37_2 sz_35 (by decide)) ?_
            refine w_fa (.ptr r15 ((nth (directN (2 * (freeL (growL t))).toNat ((laidL (growL t) (freeL (growL t)) l).length)) k).toNat * 8 + 7)) (fa_ptr fd_35_2 sz_33 (by decide)) ?_
            refine w_ld (intsR ((nth u (nth (directN (2 * (freeL (growL t))).toNat ((laidL (growL t) (freeL (growL t)) l).length)) k)).unmerged)) (ld_rowat rCs_len ho20 1 rfl (by first | omega | (simp; omega) | (simp [sortL]; omega)) (by first | omega | (simp; omega) | (simp [sortL]; omega)) (by decide) (ld_one sz_33 ag_33 rfl)) ?_
            try dsimp only [setD, List.set]
            refine w_mv (i64P (freeL (growL t))) rfl ?_
            refine w_cown ho20 _ _ _ _ _ [((.row r18 0 (directN (2 * (freeL (growL t))).toNat ((laidL (growL t) (freeL (growL t)) l).length)).length), .cells 3 ((directN (2 * (freeL (growL t))).toNat ((laidL (growL t) (freeL (growL t)) l).length)).flatMap intF) (some 1) sf), ((.row r15 0 (laidL (growL t) (freeL (growL t)) l).length), .cells 37 (u.flatMap rCs) (some 8) false), ((.row r12 0 (growL t).length), .cells 37 (((growL t).map Node.r).flatMap rCs) (some 8) false), ((.ptr r1 0), .cells 25 (leafCs l) none false)] rfl rfl (cl_cons (cl_intsR ..) (cl_cons (cl_i64 ..) (cl_nil _))) (run_parent_Join (((nth u (nth (directN (2 * (freeL (growL t))).toNat ((laidL (growL t) (freeL (growL t)) l).length)) k)).unmerged).getD []) (freeL (growL t)) (by first | assumption | omega)) sz_3 (by decide) (flat_len intF_len _) (sl_cons (so_cells (has_own (hasE_intF _ _))) (sl_cons (so_cells (has_own (hasE_intF _ _))) (sl_cons (so_cells (has_own (hasE_intF _ _))) (sl_cons (so_cells (has_own (hasE_intF _ _))) sl_nil)))) (fun _ r25 ho24 => ?_)
            refine w_ia (.ptr r15 ((nth (directN (2 * (freeL (growL t))).toNat ((laidL (growL t) (freeL (growL t)) l).length)) k).toNat * 8 + 0)) (ix_row ho24 2 rfl el_22 sz_37 (by omega) (by omega)) ?_
            refine w_fa (.ptr r15 ((nth (directN (2 * (freeL (growL t))).toNat ((laidL (growL t) (freeL (growL t)) l).length)) k).toNat * 8 + 5)) (fa_ptr fd_37_2 sz_35 (by decide)) ?_
            try dsimp only [setD, List.set]
            refine w_fa (.ptr r15 ((nth (directN (2 * (freeL (growL t))).toNat ((laidL (growL t) (freeL (growL t)) l).length)) k).toNat * 8 + 7)) (fa_ptr fd_35_2 sz_33 (by decide)) ?_
            refine w_strf ho24 2 (f := rCs) (l0 := u) { (nth u (nth (directN (2 * (freeL (growL t))).toNat ((laidL (growL t) (freeL (growL t)) l).length)) k)) with unmerged := some (joinL (((nth u (nth (directN (2 * (freeL (growL t))).toNat ((laidL (growL t) (freeL (growL t)) l).length)) k)).unmerged).getD []) (freeL (growL t))) } (nth (directN (2 * (freeL (growL t))).toNat ((laidL (growL t) (freeL (growL t)) l).length)) k) 7 (intsP (joinL (((nth u (nth (directN (2 * (freeL (growL t))).toNat ((laidL (growL t) (freeL (growL t)) l).length)) k)).unmerged).getD []) (freeL (growL t)))) _ 0 _ [(.row r15 0 (laidL (growL t) (freeL (growL t)) l).length), (.agg (leafCs l)), undefP, (.ptr r1 0), nilS, (i64P 0), (i64P 0), (i64P (sourceE l 1)), (i64P (freeL (growL t))), (.row r12 0 (growL t).length), (i64P 0), undefP, (i64P (nth (directN (2 * (freeL (growL t))).toNat ((laidL (growL t) (freeL (growL t)) l).length)) k)), (nodesP t), (nodesP t), (.agg (leafCs l)), (i64P (sourceE l 1)), (i64P (sourceE l 1)), (boolP (!(decide ((sourceE l 1) = 0)))), undefP, (nodesP t), (i64P (freeL t)), (i64P (freeL t)), (boolP (decide ((freeL t) = (-1)))), (.tup [(.row r12 0 (growL t).length), (i64P 0)]), (nodesP t), (.tup [(.row r12 0 (growL t).length), (i64P 0)]), (.row r12 0 (growL t).length), (i64P 0), (i64P 0), (boolP (!(decide ((0 : Int) = 0)))), undefP, (.row r12 0 (growL t).length), (.row r12 0 (growL t).length), (i64P (freeL (growL t))), (.row r12 0 (growL t).length), (i64P (freeL (growL t))), (.agg (leafCs l)), (.row r15 0 (laidL (growL t) (freeL (growL t)) l).length), (i64P (freeL (growL t))), (i64P (2 * (freeL (growL t)))), (.row r15 0 (laidL (growL t) (freeL (growL t)) l).length), (i64P ((laidL (growL t) (freeL (growL t)) l).length : Int)), (.row r18 0 (directN (2 * (freeL (growL t))).toNat ((laidL (growL t) (freeL (growL t)) l).length)).length), (i64P ((directN (2 * (freeL (growL t))).toNat ((laidL (growL t) (freeL (growL t)) l).length)).length : Int)), (i64P k), (boolP (decide (k < ((directN (2 * (freeL (growL t))).toNat ((laidL (growL t) (freeL (growL t)) l).length)).length : Int)))), (.ptr r18 (k.toNat * 1 + 0)), (i64P (nth (directN (2 * (freeL (growL t))).toNat ((laidL (growL t) (freeL (growL t)) l).length)) k)), (.row r15 0 (laidL (growL t) (freeL (growL t)) l).length), (i64P (nth (directN (2 * (freeL (growL t))).toNat ((laidL (growL t) (freeL (growL t)) l).length)) k)), (.ptr r15 ((nth (directN (2 * (freeL (growL t))).toNat ((laidL (growL t) (freeL (growL t)) l).length)) k).toNat * 8 + 0)), (.ptr r15 ((nth (directN (2 * (freeL (growL t))).toNat ((laidL (growL t) (freeL (growL t)) l).length)) k).toNat * 8 + 0)), (i64P ((nth u (nth (directN (2 * (freeL (growL t))).toNat ((laidL (growL t) (freeL (growL t)) l).length)) k)).kind)), (boolP (decide ((nth u (nth (directN (2 * (freeL (growL t))).toNat ((laidL (growL t) (freeL (growL t)) l).length)) k)).kind = 2))), (.row r15 0 (laidL (growL t) (freeL (growL t)) l).length), (i64P (nth (directN (2 * (freeL (growL t))).toNat ((laidL (growL t) (freeL (growL t)) l).length)) k)), (.row r15 0 (laidL (growL t) (freeL (growL t)) l).length), (i64P (nth (directN (2 * (freeL (growL t))).toNat ((laidL (growL t) (freeL (growL t)) l).length)) k)), (.ptr r15 ((nth (directN (2 * (freeL (growL t))).toNat ((laidL (growL t) (freeL (growL t)) l).length)) k).toNat * 8 + 0)), (.ptr r15 ((nth (directN (2 * (freeL (growL t))).toNat ((laidL (growL t) (freeL (growL t)) l).length)) k).toNat * 8 + 5)), (.ptr r15 ((nth (directN (2 * (freeL (growL t))).toNat ((laidL (growL t) (freeL (growL t)) l).length)) k).toNat * 8 + 7)), (intsR ((nth u (nth (directN (2 * (freeL (growL t))).toNat ((laidL (growL t) (freeL (growL t)) l).length)) k)).unmerged)), (i64P (freeL (growL t))), (intsP (joinL (((nth u (nth (directN (2 * (freeL (growL t))).toNat ((laidL (growL t) (freeL (growL t)) l).length)) k)).unmerged).getD []) (freeL (growL t)))), (.ptr r15 ((nth (directN (2 * (freeL (growL t))).toNat ((laidL (growL t) (freeL (growL t)) l).length)) k).toNat * 8 + 0)), (.ptr r15 ((nth (directN (2 * (freeL (growL t))).toNat ((laidL (growL t) (freeL (growL t)) l).length)) k).toNat * 8 + 5)), (.ptr r15 ((nth (directN (2 * (freeL (growL t))).toNat ((laidL (growL t) (freeL (growL t)) l).length)) k).toNat * 8 + 7)), j68, undefP, undefP] [((.row r25 0 (joinL (((nth u (nth (directN (2 * (freeL (growL t))).toNat ((laidL (growL t) (freeL (growL t)) l).length)) k)).unmerged).getD []) (freeL (growL t))).length), .cells 3 ((joinL (((nth u (nth (directN (2 * (freeL (growL t))).toNat ((laidL (growL t) (freeL (growL t)) l).length)) k)).unmerged).getD []) (freeL (growL t))).flatMap intF) (some 1) (false || hasE 3 (intsP (joinL (((nth u (nth (directN (2 * (freeL (growL t))).toNat ((laidL (growL t) (freeL (growL t)) l).length)) k)).unmerged).getD []) (freeL (growL t)))))), ((.row r18 0 (directN (2 * (freeL (growL t))).toNat ((laidL (growL t) (freeL (growL t)) l).length)).length), .cells 3 ((directN (2 * (freeL (growL t))).toNat ((laidL (growL t) (freeL (growL t)) l).length)).flatMap intF) (some 1) (sf || hasE 3 (intsP (joinL (((nth u (nth (directN (2 * (freeL (growL t))).toNat ((laidL (growL t) (freeL (growL t)) l).length)) k)).unmerged).getD []) (freeL (growL t)))))), ((.row r15 0 (laidL (growL t) (freeL (growL t)) l).length), .cells 37 (u.flatMap rCs) (some 8) false), ((.row r12 0 (growL t).length), .cells 37 (((growL t).map Node.r).flatMap rCs) (some 8) false), ((.ptr r1 0), .cells 25 (leafCs l) none false)] [((.row r25 0 (joinL (((nth u (nth (directN (2 * (freeL (growL t))).toNat ((laidL (growL t) (freeL (growL t)) l).length)) k)).unmerged).getD []) (freeL (growL t))).length), .cells 3 ((joinL (((nth u (nth (directN (2 * (freeL (growL t))).toNat ((laidL (growL t) (freeL (growL t)) l).length)) k)).unmerged).getD []) (freeL (growL t))).flatMap intF) (some 1) (false || hasE 3 (intsP (joinL (((nth u (nth (directN (2 * (freeL (growL t))).toNat ((laidL (growL t) (freeL (growL t)) l).length)) k)).unmerged).getD []) (freeL (growL t)))))), ((.row r18 0 (directN (2 * (freeL (growL t))).toNat ((laidL (growL t) (freeL (growL t)) l).length)).length), .cells 3 ((directN (2 * (freeL (growL t))).toNat ((laidL (growL t) (freeL (growL t)) l).length)).flatMap intF) (some 1) (sf || hasE 3 (intsP (joinL (((nth u (nth (directN (2 * (freeL (growL t))).toNat ((laidL (growL t) (freeL (growL t)) l).length)) k)).unmerged).getD []) (freeL (growL t)))))), ((.row r15 0 (laidL (growL t) (freeL (growL t)) l).length), .cells 37 ((u.set (nth (directN (2 * (freeL (growL t))).toNat ((laidL (growL t) (freeL (growL t)) l).length)) k).toNat { (nth u (nth (directN (2 * (freeL (growL t))).toNat ((laidL (growL t) (freeL (growL t)) l).length)) k)) with unmerged := some (joinL (((nth u (nth (directN (2 * (freeL (growL t))).toNat ((laidL (growL t) (freeL (growL t)) l).length)) k)).unmerged).getD []) (freeL (growL t))) }).flatMap rCs) (some 8) false), ((.row r12 0 (growL t).length), .cells 37 (((growL t).map Node.r).flatMap rCs) (some 8) false), ((.ptr r1 0), .cells 25 (leafCs l) none false)] rCs_len rfl rfl rfl (cl_own ho24 0 rfl (by decide) (flat_len' intF_len (by first | assumption | (simp; done) | (simp [*]; done) | (simp; omega))) (cl_flat' _ (fun _ => cl_intF _ _) _)) rfl rfl rfl (pc_lst ..) (isC_lst ..) sz_33 (sl_cons rfl (sl_cons rfl (sl_cons (so_cells (hasE_ints (by decide) (by decide) _)) (sl_cons (so_cells (hasE_ints (by decide) (by decide) _)) (sl_cons (so_cells (hasE_ints (by decide) (by decide) _)) sl_nil))))) rfl (by first | omega | (simp; omega) | (simp [sortL]; omega)) (by first | omega | (simp; omega) | (simp [sortL]; omega)) (by decide) rfl rfl (fun _ ho27 => ?_)
            try dsimp only [setD, List.set]
            refine w_nil ?_
            refine un_n ?_
            refine w_reg ?_
            refine w_bin (i64P (k + 1)) (b_add rfl rfl (by omega) (by omega)) ?_
            refine w_mv (i64P (k + 1)) rfl ?_
            try dsimp only [setD, List.set]
            refine w_nil ?_
            exact un_n ⟨_, (by omega), (k + 1), _, _, _, _, _, _, _, _, _, _, _, _, _, _, _, _, _, _, _, _, _, _, _, _, (u.set (nth (directN (2 * (freeL (growL t))).toNat ((laidL (growL t) (freeL (growL t)) l).length)) k).toNat { (nth u (nth (directN (2 * (freeL (growL t))).toNat ((laidL (growL t) (freeL (growL t)) l).length)) k)) with unmerged := some (joinL (((nth u (nth (directN (2 * (freeL (growL t))).toNat ((laidL (growL t) (freeL (growL t)) l).length)) k)).unmerged).getD []) (freeL (growL t))) }), (sf || hasE 3 (intsP (joinL (((nth u (nth (directN (2 * (freeL (growL t))).toNat ((laidL (growL t) (freeL (growL t)) l).length)) k)).unmerged).getD []) (freeL (growL t))))), rfl, (ho27.sub [1, 2, 3, 4] (by decide) rfl), rfl, (by omega), (by omega), (by simp [hu]), (by first | exact joinAll_next hk0 (by omega) hc (by rw [nth_map_node (by omega) (by omega)]; unfold joinN; rw [if_pos (by assumption)]; rfl) | exact joinAll_same hk0 (by omega) hc (by rw [nth_map_node (by omega) (by omega)]; assumption))⟩
          · have h23_ := of_decide_eq_false h23
            refine w_skip ?_
            refine un_n ?_
            refine w_reg ?_
            refine w_bin (i64P (k + 1)) (b_add rfl rfl (by omega) (by omega)) ?_
            refine w_mv (i64P (k + 1)) rfl ?_
            try dsimp only [setD, List.set]
            refine w_nil ?_
            exact un_n ⟨_, (by omega), (k + 1), _, _, _, _, _, _, _, _, _, _, _, _, _, _, _, _, _, _, _, _, _, _, _, _, u, sf, rfl, ho20, rfl, (by omega), (by omega), (by simp [hu]), (by first | exact joinAll_next hk0 (by omega) hc (by rw [nth_map_node (by omega) (by omega)]; unfold joinN; rw [if_pos (by assumption)]; rfl) | exact joinAll_same hk0 (by omega) hc (by rw [nth_map_node (by omega) (by omega)]; assumption))⟩
        · have h22_ := of_decide_eq_false h22
          refine w_exit ?_
          refine un_e ?_
          refine un_e ?_
          refine un_n ?_
          refine w_seq ?_
          refine w_reg ?_
          refine w_mv (.row r15 0 (laidL (growL t) (freeL (growL t)) l).length) rfl ?_
          refine w_mv (i64P (freeL (growL t))) rfl ?_
          refine w_as (.row r15 0 (laidL (growL t) (freeL (growL t)) l).length) rfl ?_
          refine w_as (i64P (freeL (growL t))) rfl ?_
          try dsimp only [setD, List.set]
          refine w_as (i64P 0) rfl ?_
          try dsimp only [setD, List.set]
          refine w_nil ?_
          refine un_n ?_
          refine w_ret ?_
          refine ⟨.inr rfl, [(.row r15 0 (laidL (growL t) (freeL (growL t)) l).length), (i64P (freeL (growL t))), (i64P 0)], [(.own 37 (laidL (growL t) (freeL (growL t)) l).length ((u.map RNode.node).flatMap nodeCs)), (i64P (freeL (growL t))), (i64P 0)], rfl, (ca_cons (cr_own ho20 1 rfl (by decide) (flat_len' rCs_len (by first | assumption | (simp; done) | (simp [*]; done) | (simp; omega))) el_22 sz_37 (offs_cons (off_i _ _) (offs_cons (off_i _ _) (offs_nil _))) (hasE_nodeCs (e := 37) (by decide) (by decide) (by decide) _) (cl_flat _ (fun _ => cl_rCs _ _) _)) (ca_cons (cr_i64 _) (ca_cons (cr_i64 _) ca_nil))), ?_⟩
          first | (exfalso; omega) | (first | exact add_err (by unfold addE; rw [htt]; (repeat' split) <;> first | rfl | omega | (exfalso; simp_all; done) | (exfalso; simp_all; omega)) (by first | decide | omega | assumption) | exact add_ok (by unfold addE; rw [htt]; (repeat' split) <;> first | rfl | omega | (exfalso; simp_all; done) | (exfalso; simp_all; omega)) (by rw [htt]; unfold roomT; split <;> first | rfl | omega) (by rw [hc, List.take_of_length_le (by omega), laidL_len]; rfl) (by first | omega | assumption))
    · have h6_ := of_decide_eq_false h6
      have hfb := free_bound h6_
      have hDl : (laidL t (freeL t) l).length = t.length := laidL_len _ _ _; have hwD : whole ((laidL t (freeL t) l).length : Int) = true := by rw [laidL_len]; exact sane_whole (by assumption) (by omega)
      refine w_skip ?_
      refine un_n ?_
      refine w_seq ?_
      refine w_reg ?_
      refine w_mv (nodesP t) rfl ?_
      refine w_mv (i64P (freeL t)) rfl ?_
      refine w_ld (.agg (leafCs l)) (ld_var ho4 0 rfl (ld_agg sz_25 ag_25 rfl (show 4 ≤ 4 by decide))) ?_
      refine w_cown ho4 _ _ _ _ _ [((.ptr r1 0), .cells 25 (leafCs l) none false)] rfl rfl (cl_cons (cl_nodes ..) (cl_cons (cl_i64 ..) (cl_cons (cl_agg (cl_leafCs ..)) (cl_nil _)))) (run_edit_laid t (freeL t) l (by first | omega | (simp; omega) | (simp [sortL]; omega)) (by first | omega | (simp; omega) | (simp [sortL]; omega)) (by first | omega | (simp; omega) | (simp [sortL]; omega))) sz_37 (by decide) (flat_len nodeCs_len _) (sl_cons (so_cells (has_own (hasE_nodeCs (by decide) (by decide) (by decide) _))) sl_nil) (fun _ r29 ho28 => ?_)
      rw [← rs_cells] at ho28
      try dsimp only [setD, List.set]
      refine w_as (.row r29 0 (laidL t (freeL t) l).length) rfl ?_
      try dsimp only [setD, List.set]
      refine w_nil ?_
      refine un_n ?_
      refine w_seq ?_
      refine w_seq ?_
      refine w_reg ?_
      refine w_mv (i64P (freeL t)) rfl ?_
      refine w_bin (i64P (2 * (freeL t))) (b_mul rfl rfl (by omega) (by omega)) ?_
      refine w_mv (.row r29 0 (laidL t (freeL t) l).length) rfl ?_
      refine w_lenO ho28 0 ((laidL t (freeL t) l).length) ((laidL t (freeL t) l).length : Int) (by rw [el_22]; rfl) rfl rfl (by decide) (flat_len' rCs_len (by first | assumption | (simp; done) | (simp [*]; done) | (simp; omega))) rfl ?_
      try dsimp only [setD, List.set]
      refine w_cown ho28 _ _ _ _ _ [((.row r29 0 (laidL t (freeL t) l).length), .cells 37 (((laidL t (freeL t) l).map Node.r).flatMap rCs) (some 8) false), ((.ptr r1 0), .cells 25 (leafCs l) none false)] rfl rfl (cl_cons (cl_i64 ..) (cl_cons (cl_i64 ..) (cl_nil _))) (run_direct (2 * (freeL t)) ((laidL t (freeL t) l).length : Int) (by first | assumption | exact sane_whole (by assumption) (by omega)) (by omega) (by omega)) sz_3 (by decide) (flat_len intF_len _) (sl_cons (so_cells (has_own (hasE_intF _ _))) (sl_cons (so_cells (has_own (hasE_intF _ _))) sl_nil)) (fun _ r32 ho31 => ?_)
      refine w_lenO ho31 0 ((directN (2 * (freeL t)).toNat ((laidL t (freeL t) l).length)).length) ((directN (2 * (freeL t)).toNat ((laidL t (freeL t) l).length)).length : Int) (by rw [el_33]; rfl) rfl rfl (by decide) (flat_len' intF_len (by first | assumption | (simp; done) | (simp [*]; done) | (simp; omega))) rfl ?_
      refine w_mv (i64P 0) rfl ?_
      try dsimp only [setD, List.set]
      refine w_nil ?_
      refine un_n ?_
      refine w_block ?_
      have hP : ∀ y ∈ (directN (2 * (freeL t)).toNat (laidL t (freeL t) l).length), 0 ≤ y ∧ y < ((laidL t (freeL t) l).length : Int) := fun y hy => direct_bound (x := 2 * (freeL t)) (w := ((laidL t (freeL t) l).length : Int)) hwD (by omega) (by omega) hy
      have hPl : (directN (2 * (freeL t)).toNat (laidL t (freeL t) l).length).length ≤ 8 := direct_len (x := 2 * (freeL t)) (w := ((laidL t (freeL t) l).length : Int)) hwD (by omega) (by omega)
      have hsD : sane (laidL t (freeL t) l) = true := sane_laid (by assumption) (by omega) (source_zero (by assumption))
      refine w_loop (fun n g H => ∃ (k : Int) (j12 : PV) (j46 : PV) (j47 : PV) (j48 : PV) (j49 : PV) (j50 : PV) (j51 : PV) (j52 : PV) (j53 : PV) (j54 : PV) (j55 : PV) (j56 : PV) (j57 : PV) (j58 : PV) (j59 : PV) (j60 : PV) (j61 : PV) (j62 : PV) (j63 : PV) (j64 : PV) (j65 : PV) (j66 : PV) (j67 : PV) (j68 : PV) (u : List RNode) (sf : Bool), g = [(.row r29 0 (laidL t (freeL t) l).length), (.agg (leafCs l)), undefP, (.ptr r1 0), nilS, (i64P 0), (i64P 0), (i64P (sourceE l 1)), (i64P (freeL t)), undefP, undefP, undefP, j12, (nodesP t), (nodesP t), (.agg (leafCs l)), (i64P (sourceE l 1)), (i64P (sourceE l 1)), (boolP (!(decide ((sourceE l 1) = 0)))), undefP, (nodesP t), (i64P (freeL t)), (i64P (freeL t)), (boolP (decide ((freeL t) = (-1)))), undefP, undefP, undefP, undefP, undefP, undefP, undefP, undefP, undefP, undefP, undefP, (nodesP t), (i64P (freeL t)), (.agg (leafCs l)), (.row r29 0 (laidL t (freeL t) l).length), (i64P (freeL t)), (i64P (2 * (freeL t))), (.row r29 0 (laidL t (freeL t) l).length), (i64P ((laidL t (freeL t) l).length : Int)), (.row r32 0 (directN (2 * (freeL t)).toNat ((laidL t (freeL t) l).length)).length), (i64P ((directN (2 * (freeL t)).toNat ((laidL t (freeL t) l).length)).length : Int)), (i64P k), j46, j47, j48, j49, j50, j51, j52, j53, j54, j55, j56, j57, j58, j59, j60, j61, j62, j63, j64, j65, j66, j67, j68, undefP, undefP] ∧ Own H [((.row r32 0 (directN (2 * (freeL t)).toNat ((laidL t (freeL t) l).length)).length), .cells 3 ((directN (2 * (freeL t)).toNat ((laidL t (freeL t) l).length)).flatMap intF) (some 1) sf), ((.row r29 0 (laidL t (freeL t) l).length), .cells 37 (u.flatMap rCs) (some 8) false), ((.ptr r1 0), .cells 25 (leafCs l) none false)] ∧ n = (((directN (2 * (freeL t)).toNat (laidL t (freeL t) l).length).length : Int) - k).toNat ∧ (0 ≤ k) ∧ (k ≤ ((directN (2 * (freeL t)).toNat (laidL t (freeL t) l).length).length : Int)) ∧ (u.length = t.length) ∧ (u.map RNode.node = joinAll (freeL t) (laidL t (freeL t) l) ((directN (2 * (freeL t)).toNat (laidL t (freeL t) l).length).take k.toNat))) ⟨0, _, _, _, _, _, _, _, _, _, _, _, _, _, _, _, _, _, _, _, _, _, _, _, _, ((laidL t (freeL t) l).map Node.r), false, rfl, ho31, rfl, (by omega), (by omega), (by simp [laidL_len]), (rs_node _)⟩ ?_
      rintro m35 _ H ⟨k, j12, j46, j47, j48, j49, j50, j51, j52, j53, j54, j55, j56, j57, j58, j59, j60, j61, j62, j63, j64, j65, j66, j67, j68, u, sf, rfl, ho34, em35, hk0, hk1, hu, hc⟩
      refine w_seq ?_
      refine w_reg ?_
      refine w_bin (boolP (decide (k < ((directN (2 * (freeL t)).toNat ((laidL t (freeL t) l).length)).length : Int)))) rfl ?_
      try dsimp only [setD, List.set]
      refine w_nil ?_
      refine un_n ?_
      refine w_seq ?_
      refine w_if (decide (k < ((directN (2 * (freeL t)).toNat ((laidL t (freeL t) l).length)).length : Int))) rfl (fun h36 => ?_) (fun h36 => ?_)
      · have h36_ := of_decide_eq_true h36
        have hb := hP (nth (directN (2 * (freeL t)).toNat (laidL t (freeL t) l).length) k) (nth_mem hk0 (by omega))
        refine w_skip ?_
        refine un_n ?_
        refine w_seq ?_
        refine w_block ?_
        refine w_seq ?_
        refine w_reg ?_
        refine w_ia (.ptr r32 (k.toNat * 1 + 0)) (ix_row ho34 0 rfl el_33 sz_3 (by omega) (by omega)) ?_
        refine w_ld (i64P (nth (directN (2 * (freeL t)).toNat ((laidL t (freeL t) l).length)) k)) (ld_rowat intF_len ho34 0 rfl (by first | omega | (simp; omega) | (simp [sortL]; omega)) (by first | omega | (simp; omega) | (simp [sortL]; omega)) (by decide) (ld_one sz_3 ag_3 rfl)) ?_
        refine w_as (i64P (nth (directN (2 * (freeL t)).toNat ((laidL t (freeL t) l).length)) k)) rfl ?_
        try dsimp only [setD, List.set]
        refine w_nil ?_
        refine un_n ?_
        refine w_seq ?_
        refine w_reg ?_
        refine w_mv (.row r29 0 (laidL t (freeL t) l).length) rfl ?_
        refine w_mv (i64P (nth (directN (2 * (freeL t)).toNat ((laidL t (freeL t) l).length)) k)) rfl ?_
        refine w_ia (.ptr r29 ((nth (directN (2 * (freeL t)).toNat ((laidL t (freeL t) l).length)) k).toNat * 8 + 0)) (ix_row ho34 1 rfl el_22 sz_37 (by omega) (by omega)) ?_
        refine w_fa (.ptr r29 ((nth (directN (2 * (freeL t)).toNat ((laidL t (freeL t) l).length)) k).toNat * 8 + 0)) (fa_ptr fd_37_0 sz_3 (by decide)) ?_
        try dsimp only [setD, List.set]
        refine w_ld (i64P ((nth u (nth (directN (2 * (freeL t)).toNat ((laidL t (freeL t) l).length)) k)).kind)) (ld_rowat rCs_len ho34 1 rfl (by first | omega | (simp; omega) | (simp [sortL]; omega)) (by first | omega | (simp; omega) | (simp [sortL]; omega)) (by decide) (ld_one sz_3 ag_3 rfl)) ?_
        refine w_bin (boolP (decide ((nth u (nth (directN (2 * (freeL t)).toNat ((laidL t (freeL t) l).length)) k)).kind = 2))) rfl ?_
        try dsimp only [setD, List.set]
        refine w_nil ?_
        refine un_n ?_
        refine w_if (decide ((nth u (nth (directN (2 * (freeL t)).toNat ((laidL t (freeL t) l).length)) k)).kind = 2)) rfl (fun h37 => ?_) (fun h37 => ?_)
        · have h37_ := of_decide_eq_true h37
          have hsu : sane (u.map RNode.node) = true := by rw [hc]; exact sane_joinAll hsD (fun y hy => hP y (List.mem_of_mem_take hy)) (by omega) (by omega)
          have hun : (((nth u (nth (directN (2 * (freeL t)).toNat (laidL t (freeL t) l).length) k)).unmerged.getD []).length : Int) ≤ 64 := by have h1 := unm_len hsu (x := nth (directN (2 * (freeL t)).toNat (laidL t (freeL t) l).length) k) (by omega) (by rw [List.length_map]; omega) (by rw [nth_map_node (by omega) (by omega)]; exact h37_); rw [nth_map_node (by omega) (by omega)] at h1; exact h1
          refine w_reg ?_
          refine w_mv (.row r29 0 (laidL t (freeL t) l).length) rfl ?_
          refine w_mv (i64P (nth (directN (2 * (freeL t)).toNat ((laidL t (freeL t) l).length)) k)) rfl ?_
          refine w_mv (.row r29 0 (laidL t (freeL t) l).length) rfl ?_
          refine w_mv (i64P (nth (directN (2 * (freeL t)).toNat ((laidL t (freeL t) l).length)) k)) rfl ?_
          try dsimp only [setD, List.set]
          refine w_ia (.ptr r29 ((nth (directN (2 * (freeL t)).toNat ((laidL t (freeL t) l).length)) k).toNat * 8 + 0)) (ix_row ho34 1 rfl el_22 sz_37 (by omega) (by omega)) ?_
          refine w_fa (.ptr r29 ((nth (directN (2 * (freeL t)).toNat ((laidL t (freeL t) l).length)) k).toNat * 8 + 5)) (fa_ptr fd_37_2 sz_35 (by decide)) ?_
          refine w_fa (.ptr r29 ((nth (directN (2 * (freeL t)).toNat ((laidL t (freeL t) l).length)) k).toNat * 8 + 7)) (fa_ptr fd_35_2 sz_33 (by decide)) ?_
          refine w_ld (intsR ((nth u (nth (directN (2 * (freeL t)).toNat ((laidL t (freeL t) l).length)) k)).unmerged)) (ld_rowat rCs_len ho34 1 rfl (by first | omega | (simp; omega) | (simp [sortL]; omega)) (by first | omega | (simp; omega) | (simp [sortL]; omega)) (by decide) (ld_one sz_33 ag_33 rfl)) ?_
          try dsimp only [setD, List.set]
          refine w_mv (i64P (freeL t)) rfl ?_
          refine w_cown ho34 _ _ _ _ _ [((.row r32 0 (directN (2 * (freeL t)).toNat ((laidL t (freeL t) l).length)).length), .cells 3 ((directN (2 * (freeL t)).toNat ((laidL t (freeL t) l).length)).flatMap intF) (some 1) sf), ((.row r29 0 (laidL t (freeL t) l).length), .cells 37 (u.flatMap rCs) (some 8) false), ((.ptr r1 0), .cells 25 (leafCs l) none false)] rfl rfl (cl_cons (cl_intsR ..) (cl_cons (cl_i64 ..) (cl_nil _))) (run_parent_Join (((nth u (nth (directN (2 * (freeL t)).toNat ((laidL t (freeL t) l).length)) k)).unmerged).getD []) (freeL t) (by first | assumption | omega)) sz_3 (by decide) (flat_len intF_len _) (sl_cons (so_cells (has_own (hasE_intF _ _))) (sl_cons (so_cells (has_own (hasE_intF _ _))) (sl_cons (so_cells (has_own (hasE_intF _ _))) sl_nil))) (fun _ r39 ho38 => ?_)
          refine w_ia (.ptr r29 ((nth (directN (2 * (freeL t)).toNat ((laidL t (freeL t) l).length)) k).toNat * 8 + 0)) (ix_row ho38 2 rfl el_22 sz_37 (by omega) (by omega)) ?_
          refine w_fa (.ptr r29 ((nth (directN (2 * (freeL t)).toNat ((laidL t (freeL t) l).length)) k).toNat * 8 + 5)) (fa_ptr fd_37_2 sz_35 (by decide)) ?_
          try dsimp only [setD, List.set]
          refine w_fa (.ptr r29 ((nth (directN (2 * (freeL t)).toNat ((laidL t (freeL t) l).length)) k).toNat * 8 + 7)) (fa_ptr fd_35_2 sz_33 (by decide)) ?_
          refine w_strf ho38 2 (f := rCs) (l0 := u) { (nth u (nth (directN (2 * (freeL t)).toNat ((laidL t (freeL t) l).length)) k)) with unmerged := some (joinL (((nth u (nth (directN (2 * (freeL t)).toNat ((laidL t (freeL t) l).length)) k)).unmerged).getD []) (freeL t)) } (nth (directN (2 * (freeL t)).toNat ((laidL t (freeL t) l).length)) k) 7 (intsP (joinL (((nth u (nth (directN (2 * (freeL t)).toNat ((laidL t (freeL t) l).length)) k)).unmerged).getD []) (freeL t))) _ 0 _ [(.row r29 0 (laidL t (freeL t) l).length), (.agg (leafCs l)), undefP, (.ptr r1 0), nilS, (i64P 0), (i64P 0), (i64P (sourceE l 1)), (i64P (freeL t)), undefP, undefP, undefP, (i64P (nth (directN (2 * (freeL t)).toNat ((laidL t (freeL t) l).length)) k)), (nodesP t), (nodesP t), (.agg (leafCs l)), (i64P (sourceE l 1)), (i64P (sourceE l 1)), (boolP (!(decide ((sourceE l 1) = 0)))), undefP, (nodesP t), (i64P (freeL t)), (i64P (freeL t)), (boolP (decide ((freeL t) = (-1)))), undefP, undefP, undefP, undefP, undefP, undefP, undefP, undefP, undefP, undefP, undefP, (nodesP t), (i64P (freeL t)), (.agg (leafCs l)), (.row r29 0 (laidL t (freeL t) l).length), (i64P (freeL t)), (i64P (2 * (freeL t))), (.row r29 0 (laidL t (freeL t) l).length), (i64P ((laidL t (freeL t) l).length : Int)), (.row r32 0 (directN (2 * (freeL t)).toNat ((laidL t (freeL t) l).length)).length), (i64P ((directN (2 * (freeL t)).toNat ((laidL t (freeL t) l).length)).length : Int)), (i64P k), (boolP (decide (k < ((directN (2 * (freeL t)).toNat ((laidL t (freeL t) l).length)).length : Int)))), (.ptr r32 (k.toNat * 1 + 0)), (i64P (nth (directN (2 * (freeL t)).toNat ((laidL t (freeL t) l).length)) k)), (.row r29 0 (laidL t (freeL t) l).length), (i64P (nth (directN (2 * (freeL t)).toNat ((laidL t (freeL t) l).length)) k)), (.ptr r29 ((nth (directN (2 * (freeL t)).toNat ((laidL t (freeL t) l).length)) k).toNat * 8 + 0)), (.ptr r29 ((nth (directN (2 * (freeL t)).toNat ((laidL t (freeL t) l).length)) k).toNat * 8 + 0)), (i64P ((nth u (nth (directN (2 * (freeL t)).toNat ((laidL t (freeL t) l).length)) k)).kind)), (boolP (decide ((nth u (nth (directN (2 * (freeL t)).toNat ((laidL t (freeL t) l).length)) k)).kind = 2))), (.row r29 0 (laidL t (freeL t) l).length), (i64P (nth (directN (2 * (freeL t)).toNat ((laidL t (freeL t) l).length)) k)), (.row r29 0 (laidL t (freeL t) l).length), (i64P (nth (directN (2 * (freeL t)).toNat ((laidL t (freeL t) l).length)) k)), (.ptr r29 ((nth (directN (2 * (freeL t)).toNat ((laidL t (freeL t) l).length)) k).toNat * 8 + 0)), (.ptr r29 ((nth (directN (2 * (freeL t)).toNat ((laidL t (freeL t) l).length)) k).toNat * 8 + 5)), (.ptr r29 ((nth (directN (2 * (freeL t)).toNat ((laidL t (freeL t) l).length)) k).toNat * 8 + 7)), (intsR ((nth u (nth (directN (2 * (freeL t)).toNat ((laidL t (freeL t) l).length)) k)).unmerged)), (i64P (freeL t)), (intsP (joinL (((nth u (nth (directN (2 * (freeL t)).toNat ((laidL t (freeL t) l).length)) k)).unmerged).getD []) (freeL t))), (.ptr r29 ((nth (directN (2 * (freeL t)).toNat ((laidL t (freeL t) l).length)) k).toNat * 8 + 0)), (.ptr r29 ((nth (directN (2 * (freeL t)).toNat ((laidL t (freeL t) l).length)) k).toNat * 8 + 5)), (.ptr r29 ((nth (directN (2 * (freeL t)).toNat ((laidL t (freeL t) l).length)) k).toNat * 8 + 7)), j68, undefP, undefP] [((.row r39 0 (joinL (((nth u (nth (directN (2 * (freeL t)).toNat ((laidL t (freeL t) l).length)) k)).unmerged).getD []) (freeL t)).length), .cells 3 ((joinL (((nth u (nth (directN (2 * (freeL t)).toNat ((laidL t (freeL t) l).length)) k)).unmerged).getD []) (freeL t)).flatMap intF) (some 1) (false || hasE 3 (intsP (joinL (((nth u (nth (directN (2 * (freeL t)).toNat ((laidL t (freeL t) l).length)) k)).unmerged).getD []) (freeL t))))), ((.row r32 0 (directN (2 * (freeL t)).toNat ((laidL t (freeL t) l).length)).length), .cells 3 ((directN (2 * (freeL t)).toNat ((laidL t (freeL t) l).length)).flatMap intF) (some 1) (sf || hasE 3 (intsP (joinL (((nth u (nth (directN (2 * (freeL t)).toNat ((laidL t (freeL t) l).length)) k)).unmerged).getD []) (freeL t))))), ((.row r29 0 (laidL t (freeL t) l).length), .cells 37 (u.flatMap rCs) (some 8) false), ((.ptr r1 0), .cells 25 (leafCs l) none false)] [((.row r39 0 (joinL (((nth u (nth (directN (2 * (freeL t)).toNat ((laidL t (freeL t) l).length)) k)).unmerged).getD []) (freeL t)).length), .cells 3 ((joinL (((nth u (nth (directN (2 * (freeL t)).toNat ((laidL t (freeL t) l).length)) k)).unmerged).getD []) (freeL t)).flatMap intF) (some 1) (false || hasE 3 (intsP (joinL (((nth u (nth (directN (2 * (freeL t)).toNat ((laidL t (freeL t) l).length)) k)).unmerged).getD []) (freeL t))))), ((.row r32 0 (directN (2 * (freeL t)).toNat ((laidL t (freeL t) l).length)).length), .cells 3 ((directN (2 * (freeL t)).toNat ((laidL t (freeL t) l).length)).flatMap intF) (some 1) (sf || hasE 3 (intsP (joinL (((nth u (nth (directN (2 * (freeL t)).toNat ((laidL t (freeL t) l).length)) k)).unmerged).getD []) (freeL t))))), ((.row r29 0 (laidL t (freeL t) l).length), .cells 37 ((u.set (nth (directN (2 * (freeL t)).toNat ((laidL t (freeL t) l).length)) k).toNat { (nth u (nth (directN (2 * (freeL t)).toNat ((laidL t (freeL t) l).length)) k)) with unmerged := some (joinL (((nth u (nth (directN (2 * (freeL t)).toNat ((laidL t (freeL t) l).length)) k)).unmerged).getD []) (freeL t)) }).flatMap rCs) (some 8) false), ((.ptr r1 0), .cells 25 (leafCs l) none false)] rCs_len rfl rfl rfl (cl_own ho38 0 rfl (by decide) (flat_len' intF_len (by first | assumption | (simp; done) | (simp [*]; done) | (simp; omega))) (cl_flat' _ (fun _ => cl_intF _ _) _)) rfl rfl rfl (pc_lst ..) (isC_lst ..) sz_33 (sl_cons rfl (sl_cons rfl (sl_cons (so_cells (hasE_ints (by decide) (by decide) _)) (sl_cons (so_cells (hasE_ints (by decide) (by decide) _)) sl_nil)))) rfl (by first | omega | (simp; omega) | (simp [sortL]; omega)) (by first | omega | (simp; omega) | (simp [sortL]; omega)) (by decide) rfl rfl (fun _ ho41 => ?_)
          try dsimp only [setD, List.set]
          refine w_nil ?_
          refine un_n ?_
          refine w_reg ?_
          refine w_bin (i64P (k + 1)) (b_add rfl rfl (by omega) (by omega)) ?_
          refine w_mv (i64P (k + 1)) rfl ?_
          try dsimp only [setD, List.set]
          refine w_nil ?_
          exact un_n ⟨_, (by omega), (k + 1), _, _, _, _, _, _, _, _, _, _, _, _, _, _, _, _, _, _, _, _, _, _, _, _, (u.set (nth (directN (2 * (freeL t)).toNat ((laidL t (freeL t) l).length)) k).toNat { (nth u (nth (directN (2 * (freeL t)).toNat ((laidL t (freeL t) l).length)) k)) with unmerged := some (joinL (((nth u (nth (directN (2 * (freeL t)).toNat ((laidL t (freeL t) l).length)) k)).unmerged).getD []) (freeL t)) }), (sf || hasE 3 (intsP (joinL (((nth u (nth (directN (2 * (freeL t)).toNat ((laidL t (freeL t) l).length)) k)).unmerged).getD []) (freeL t)))), rfl, (ho41.sub [1, 2, 3] (by decide) rfl), rfl, (by omega), (by omega), (by simp [hu]), (by first | exact joinAll_next hk0 (by omega) hc (by rw [nth_map_node (by omega) (by omega)]; unfold joinN; rw [if_pos (by assumption)]; rfl) | exact joinAll_same hk0 (by omega) hc (by rw [nth_map_node (by omega) (by omega)]; assumption))⟩
        · have h37_ := of_decide_eq_false h37
          refine w_skip ?_
          refine un_n ?_
          refine w_reg ?_
          refine w_bin (i64P (k + 1)) (b_add rfl rfl (by omega) (by omega)) ?_
          refine w_mv (i64P (k + 1)) rfl ?_
          try dsimp only [setD, List.set]
          refine w_nil ?_
          exact un_n ⟨_, (by omega), (k + 1), _, _, _, _, _, _, _, _, _, _, _, _, _, _, _, _, _, _, _, _, _, _, _, _, u, sf, rfl, ho34, rfl, (by omega), (by omega), (by simp [hu]), (by first | exact joinAll_next hk0 (by omega) hc (by rw [nth_map_node (by omega) (by omega)]; unfold joinN; rw [if_pos (by assumption)]; rfl) | exact joinAll_same hk0 (by omega) hc (by rw [nth_map_node (by omega) (by omega)]; assumption))⟩
      · have h36_ := of_decide_eq_false h36
        refine w_exit ?_
        refine un_e ?_
        refine un_e ?_
        refine un_n ?_
        refine w_seq ?_
        refine w_reg ?_
        refine w_mv (.row r29 0 (laidL t (freeL t) l).length) rfl ?_
        refine w_mv (i64P (freeL t)) rfl ?_
        refine w_as (.row r29 0 (laidL t (freeL t) l).length) rfl ?_
        refine w_as (i64P (freeL t)) rfl ?_
        try dsimp only [setD, List.set]
        refine w_as (i64P 0) rfl ?_
        try dsimp only [setD, List.set]
        refine w_nil ?_
        refine un_n ?_
        refine w_ret ?_
        refine ⟨.inr rfl, [(.row r29 0 (laidL t (freeL t) l).length), (i64P (freeL t)), (i64P 0)], [(.own 37 (laidL t (freeL t) l).length ((u.map RNode.node).flatMap nodeCs)), (i64P (freeL t)), (i64P 0)], rfl, (ca_cons (cr_own ho34 1 rfl (by decide) (flat_len' rCs_len (by first | assumption | (simp; done) | (simp [*]; done) | (simp; omega))) el_22 sz_37 (offs_cons (off_i _ _) (offs_cons (off_i _ _) (offs_nil _))) (hasE_nodeCs (e := 37) (by decide) (by decide) (by decide) _) (cl_flat _ (fun _ => cl_rCs _ _) _)) (ca_cons (cr_i64 _) (ca_cons (cr_i64 _) ca_nil))), ?_⟩
        first | (exfalso; omega) | (first | exact add_err (by unfold addE; rw [htt]; (repeat' split) <;> first | rfl | omega | (exfalso; simp_all; done) | (exfalso; simp_all; omega)) (by first | decide | omega | assumption) | exact add_ok (by unfold addE; rw [htt]; (repeat' split) <;> first | rfl | omega | (exfalso; simp_all; done) | (exfalso; simp_all; omega)) (by rw [htt]; unfold roomT; split <;> first | rfl | omega) (by rw [hc, List.take_of_length_le (by omega), laidL_len]; rfl) (by first | omega | assumption))
end Go.Proofs.YtkkdkhacligaoaaGreatDoor.law
