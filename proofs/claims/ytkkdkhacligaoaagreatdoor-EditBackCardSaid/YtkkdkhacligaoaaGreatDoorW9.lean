/- Walks: what functions of the program come to, as the pure interpreter runs them. -/
import Derived.Test.YtkkdkhacligaoaaGreatDoorW8
import Derived.Test.YtkkdkhacligaoaaGreatDoorPiZn
set_option linter.unusedSimpArgs false
set_option linter.unusedVariables false
namespace Go.Proofs.YtkkdkhacligaoaaGreatDoor.law
open Go.PI
def rNo : RNode := ⟨0, none, none, 0, none, none, none, none⟩
theorem rNo_node : rNo.node = noNode := rfl
/-! ### The first blank leaf -/
def blankAt (t : List Node) (x : Nat) : Bool := decide (x % 2 = 0) && decide ((nth t x).kind = 0)
def freeL (t : List Node) : Int := match (List.range t.length).find? (blankAt t) with
  | some x => ((x / 2 : Nat) : Int)
  | none => -1
theorem free_at {t : List Node} {k : Int} (h0 : 0 ≤ k) (h1 : k < t.length) (he : k % 2 = 0) (hb : (nth t k).kind = 0) (hall : ∀ j : Nat, (j : Int) < k → blankAt t j = false) : freeL t = k / 2 := by
  have hk : blankAt t k.toNat = true := by
    unfold blankAt
    rw [show ((k.toNat : Nat) : Int) = k from by omega, hb]
    simp; omega
  unfold freeL
  have : (List.range t.length).find? (blankAt t) = some k.toNat := by
    rw [List.find?_range_eq_some]
    refine ⟨hk, by simp; omega, fun j hj => ?_⟩
    rw [hall j (by omega)]; rfl
  rw [this]
  show ((k.toNat / 2 : Nat) : Int) = k / 2
  omega
theorem free_none {t : List Node} (hall : ∀ j : Nat, (j : Int) < t.length → blankAt t j = false) : freeL t = -1 := by
  unfold freeL
  have : (List.range t.length).find? (blankAt t) = none := by
    rw [List.find?_range_eq_none]
    intro j hj
    rw [hall j (by omega)]; rfl
  rw [this]
theorem free_step {t : List Node} {k : Int} (h0 : 0 ≤ k) (hb : blankAt t k.toNat = false) (hall : ∀ j : Nat, (j : Int) < k → blankAt t j = false) : ∀ j : Nat, (j : Int) < k + 1 → blankAt t j = false := by
  intro j hj
  by_cases he : (j : Int) = k
  · have : j = k.toNat := by omega
    rw [this]; exact hb
  · exact hall j (by omega)
theorem free_no1 {t : List Node} {k : Int} (h0 : 0 ≤ k) (h : ¬ k % 2 = 0) : blankAt t k.toNat = false := by
  unfold blankAt
  rw [decide_eq_false (by omega), Bool.false_and]
theorem free_no2 {t : List Node} {k : Int} (h0 : 0 ≤ k) (h : ¬ (nth t k).kind = 0) : blankAt t k.toNat = false := by
  unfold blankAt
  rw [show ((k.toNat : Nat) : Int) = k from by omega, decide_eq_false h, Bool.and_false]
theorem free_bound {t : List Node} (h : ¬ freeL t = -1) : 0 ≤ freeL t ∧ 2 * freeL t < t.length ∧ (nth t (2 * freeL t)).kind = 0 := by
  unfold freeL at *
  split at h
  · rename_i x hx
    obtain ⟨h1, h2, h3⟩ := List.find?_range_eq_some.1 hx
    simp only [List.mem_range] at h2
    unfold blankAt at h1
    simp only [Bool.and_eq_true, decide_eq_true_eq] at h1
    show 0 ≤ ((x / 2 : Nat) : Int) ∧ 2 * ((x / 2 : Nat) : Int) < t.length ∧ (nth t (2 * ((x / 2 : Nat) : Int))).kind = 0
    have e : 2 * ((x / 2 : Nat) : Int) = x := by omega
    rw [e]
    exact ⟨by omega, by omega, h1.2⟩
  · exact absurd rfl h
theorem run_Free1 (t : List Node) (ht : WfT t) (hs : sane t = true) : Run C0 30 [(nodesP t)] (i64P (freeL t)) := by
  have hs_l := sane_len hs
  refine run_fn (C := C0) (c := _) [(nodesP t), undefP, undefP, undefP, undefP, undefP, undefP, undefP, undefP, undefP, undefP, undefP, undefP, undefP, undefP, undefP, undefP, undefP, undefP, undefP, undefP, undefP, undefP] Tryz.func30 rfl rfl rfl rfl ?_
  have ho := own_nil []
  refine w_seq ?_
  refine w_reg ?_
  refine w_as (i64P 0) rfl ?_
  try dsimp only [setD, List.set]
  refine w_nil ?_
  refine un_n ?_
  refine w_seq ?_
  refine w_seq ?_
  refine w_reg ?_
  refine w_mv (nodesP t) rfl ?_
  refine w_ccl ho _ (nodesP t) [] rfl rfl (cl_cons (cl_nodes ..) (cl_nil _)) (run_shape_known1 t (by first | assumption | exact wf_nil) hs) (rv_lst ..) sl_nil (fun _ ho1 => ?_)
  refine w_lenC _ _ _ (t.length : Int) (by rw [el_22]; rfl) rfl rfl ?_
  refine w_mv (i64P 0) rfl ?_
  try dsimp only [setD, List.set]
  refine w_nil ?_
  refine un_n ?_
  refine w_block ?_
  refine w_loop (fun n g H => ∃ (k : Int) (j2 : PV) (j3 : PV) (j4 : PV) (j9 : PV) (j10 : PV) (j11 : PV) (j12 : PV) (j13 : PV) (j14 : PV) (j15 : PV) (j16 : PV) (j17 : PV) (j18 : PV) (j19 : PV) (j20 : PV) (j21 : PV) (j22 : PV), g = [(nodesP t), undefP, j2, j3, j4, (nodesP t), (nodesP t), (i64P (t.length : Int)), (i64P k), j9, j10, j11, j12, j13, j14, j15, j16, j17, j18, j19, j20, j21, j22] ∧ Own H [] ∧ n = ((t.length : Int) - k).toNat ∧ (0 ≤ k) ∧ (k ≤ (t.length : Int)) ∧ (∀ j : Nat, (j : Int) < k → blankAt t j = false)) ⟨0, _, _, _, _, _, _, _, _, _, _, _, _, _, _, _, _, _, rfl, (own_nil _), rfl, (by omega), (by omega), (fun j hj => by omega)⟩ ?_
  rintro m3 _ H ⟨k, j2, j3, j4, j9, j10, j11, j12, j13, j14, j15, j16, j17, j18, j19, j20, j21, j22, rfl, ho2, em3, hk0, hk1, hall⟩
  refine w_seq ?_
  refine w_reg ?_
  refine w_bin (boolP (decide (k < (t.length : Int)))) rfl ?_
  try dsimp only [setD, List.set]
  refine w_nil ?_
  refine un_n ?_
  refine w_seq ?_
  refine w_if (decide (k < (t.length : Int))) rfl (fun h4 => ?_) (fun h4 => ?_)
  · have h4_ := of_decide_eq_true h4
    refine w_skip ?_
    refine un_n ?_
    refine w_seq ?_
    refine w_block ?_
    refine w_seq ?_
    refine w_reg ?_
    refine w_mv (i64P k) rfl ?_
    refine w_ia (.lptr 37 (atF nodeCs 8 t k 0)) (ix_lst nodeCs_len el_22 sz_37 (by omega) (by omega)) ?_
    refine w_ld (.agg (nodeCs (nth t k))) (ld_lptr (ld_at nodeCs_len (by omega) (by omega) (by decide) (ld_agg sz_37 ag_37 rfl (show 8 ≤ 8 by decide)))) ?_
    refine w_alloc ho2 [(i64P 0), nilS, nilS, (i64P 0), nilS, nilS, nilS, nilS] zp_37 (fun _ r5 ho6 => ?_)
    try dsimp only [setD, List.set]
    refine w_as (i64P k) rfl ?_
    refine w_stv ho6 0 (.agg (nodeCs (nth t k))) (nodeCs (nth t k)) [((.ptr r5 0), .cells 37 (nodeCs (nth t k)) none false)] rfl rfl rfl sz_37 rfl rfl (by decide) (isC_node _) (show 8 ≤ 8 by decide) rfl rfl (fun _ ho8 => ?_)
    try dsimp only [setD, List.set]
    refine w_nil ?_
    refine un_n ?_
    refine w_seq ?_
    refine w_reg ?_
    refine w_mv (i64P k) rfl ?_
    refine w_bin (i64P (k % 2)) (b_rem rfl rfl (by omega) (by omega)) ?_
    refine w_bin (boolP (decide ((k % 2) = 0))) rfl ?_
    refine w_mv (boolP (decide ((k % 2) = 0))) rfl ?_
    try dsimp only [setD, List.set]
    rcases Bool.eq_false_or_eq_true (decide ((k % 2) = 0)) with h9 | h9
    · have h9_ := of_decide_eq_true h9
      refine w_gd (dd := 16) rfl rfl h9 ?_
      refine w_ld (.agg (nodeCs (nth t k))) (ld_var ho8 0 rfl (ld_agg sz_37 ag_37 rfl (show 8 ≤ 8 by decide))) ?_
      refine w_gd (dd := 16) rfl rfl h9 ?_
      refine w_cs _ (boolP (decide ((nth t k).kind = 0))) rfl (cl_cons (cl_agg (cl_nodeCs ..)) (cl_nil _)) (run_shape_blank (nth t k)) rfl (fun H => calm_s H _) ?_
      refine w_pk1 (boolP (decide ((nth t k).kind = 0))) rfl h9 rfl ?_
      try dsimp only [setD, List.set]
      refine w_nil ?_
      refine un_n ?_
      refine w_if (decide ((nth t k).kind = 0)) rfl (fun h10 => ?_) (fun h10 => ?_)
      · have h10_ := of_decide_eq_true h10
        refine w_seq ?_
        refine w_reg ?_
        refine w_mv (i64P k) rfl ?_
        refine w_bin (i64P (k / 2)) (b_quo rfl rfl (by omega) (by omega) (by omega)) ?_
        refine w_as (i64P (k / 2)) rfl ?_
        try dsimp only [setD, List.set]
        refine w_nil ?_
        refine un_n ?_
        refine w_ret ?_
        refine un_r ?_
        refine un_r ?_
        refine un_r ?_
        refine ⟨.inr rfl, [(i64P (k / 2))], [(i64P (k / 2))], rfl, rfl, ?_⟩
        refine congrArg i64P (?_ : (k / 2) = (freeL t))
        first | (exfalso; omega) | (first | exact (free_at hk0 (by omega) (by assumption) (by assumption) hall).symm | exact (free_none (fun j hj => hall j (by omega))).symm)
      · have h10_ := of_decide_eq_false h10
        refine w_skip ?_
        refine un_n ?_
        refine w_reg ?_
        refine w_bin (i64P (k + 1)) (b_add rfl rfl (by omega) (by omega)) ?_
        refine w_mv (i64P (k + 1)) rfl ?_
        try dsimp only [setD, List.set]
        refine w_nil ?_
        exact un_n ⟨_, (by omega), (k + 1), _, _, _, _, _, _, _, _, _, _, _, _, _, _, _, _, _, rfl, (own_nil _), rfl, (by omega), (by omega), (free_step hk0 (by first | exact free_no1 hk0 (by assumption) | exact free_no2 hk0 (by assumption)) hall)⟩
    · have h9_ := of_decide_eq_false h9
      refine w_gn (dd := 16) rfl rfl h9 ?_
      refine w_gn (dd := 16) rfl rfl h9 ?_
      refine w_pk0 (boolP false) rfl h9 rfl ?_
      try dsimp only [setD, List.set]
      refine w_nil ?_
      refine un_n ?_
      refine w_if0 rfl rfl ?_
      refine w_skip ?_
      refine un_n ?_
      refine w_reg ?_
      refine w_bin (i64P (k + 1)) (b_add rfl rfl (by omega) (by omega)) ?_
      refine w_mv (i64P (k + 1)) rfl ?_
      try dsimp only [setD, List.set]
      refine w_nil ?_
      exact un_n ⟨_, (by omega), (k + 1), _, _, _, _, _, _, _, _, _, _, _, _, _, _, _, _, _, rfl, (own_nil _), rfl, (by omega), (by omega), (free_step hk0 (by first | exact free_no1 hk0 (by assumption) | exact free_no2 hk0 (by assumption)) hall)⟩
  · have h4_ := of_decide_eq_false h4
    refine w_exit ?_
    refine un_e ?_
    refine un_e ?_
    refine un_n ?_
    refine w_seq ?_
    refine w_reg ?_
    refine w_as (i64P (-1)) rfl ?_
    try dsimp only [setD, List.set]
    refine w_nil ?_
    refine un_n ?_
    refine w_ret ?_
    refine ⟨.inr rfl, [(i64P (-1))], [(i64P (-1))], rfl, rfl, ?_⟩
    refine congrArg i64P (?_ : (-1) = (freeL t))
    first | (exfalso; omega) | (first | exact (free_at hk0 (by omega) (by assumption) (by assumption) hall).symm | exact (free_none (fun j hj => hall j (by omega))).symm)
theorem run_Free0 (t : List Node) (ht : WfT t) (hs : sane t = false) : Run C0 30 [(nodesP t)] (i64P (-1)) := by
  refine run_fn (C := C0) (c := _) [(nodesP t), undefP, undefP, undefP, undefP, undefP, undefP, undefP, undefP, undefP, undefP, undefP, undefP, undefP, undefP, undefP, undefP, undefP, undefP, undefP, undefP, undefP, undefP] Tryz.func30 rfl rfl rfl rfl ?_
  have ho := own_nil []
  refine w_seq ?_
  refine w_reg ?_
  refine w_as (i64P 0) rfl ?_
  try dsimp only [setD, List.set]
  refine w_nil ?_
  refine un_n ?_
  refine w_seq ?_
  refine w_seq ?_
  refine w_reg ?_
  refine w_mv (nodesP t) rfl ?_
  refine w_cown ho _ _ _ _ _ [] rfl rfl (cl_cons (cl_nodes ..) (cl_nil _)) (run_shape_known0 t (by first | assumption | exact wf_nil) hs) sz_37 (by decide) (flat_len nodeCs_len _) sl_nil (fun _ r2 ho1 => ?_)
  refine w_lenO ho1 0 0 (0 : Int) (by rw [el_22]; rfl) rfl rfl (by decide) rfl rfl ?_
  refine w_mv (i64P 0) rfl ?_
  try dsimp only [setD, List.set]
  refine w_nil ?_
  refine un_n ?_
  refine w_block ?_
  refine w_loop (fun n g H => ∃ (k : Int) (j2 : PV) (j3 : PV) (j4 : PV) (j9 : PV) (j10 : PV) (j11 : PV) (j12 : PV) (j13 : PV) (j14 : PV) (j15 : PV) (j16 : PV) (j17 : PV) (j18 : PV) (j19 : PV) (j20 : PV) (j21 : PV) (j22 : PV), g = [(nodesP t), undefP, j2, j3, j4, (nodesP t), (.row r2 0 0), (i64P (0 : Int)), (i64P k), j9, j10, j11, j12, j13, j14, j15, j16, j17, j18, j19, j20, j21, j22] ∧ Own H [((.row r2 0 0), .cells 37 (([] : List RNode).flatMap rCs) (some 8) false)] ∧ n = 0 ∧ (k = 0)) ⟨0, _, _, _, _, _, _, _, _, _, _, _, _, _, _, _, _, _, rfl, ho1, rfl, (by omega)⟩ ?_
  rintro m6 _ H ⟨k, j2, j3, j4, j9, j10, j11, j12, j13, j14, j15, j16, j17, j18, j19, j20, j21, j22, rfl, ho5, em6, i4⟩
  refine w_seq ?_
  refine w_reg ?_
  refine w_bin (boolP (decide (k < (0 : Int)))) rfl ?_
  try dsimp only [setD, List.set]
  refine w_nil ?_
  refine un_n ?_
  refine w_seq ?_
  refine w_if (decide (k < (0 : Int))) rfl (fun h7 => ?_) (fun h7 => ?_)
  · have h7_ := of_decide_eq_true h7
    exfalso; omega
  · have h7_ := of_decide_eq_false h7
    refine w_exit ?_
    refine un_e ?_
    refine un_e ?_
    refine un_n ?_
    refine w_seq ?_
    refine w_reg ?_
    refine w_as (i64P (-1)) rfl ?_
    try dsimp only [setD, List.set]
    refine w_nil ?_
    refine un_n ?_
    refine w_ret ?_
    refine ⟨.inr rfl, [(i64P (-1))], [(i64P (-1))], rfl, rfl, ?_⟩
    refine congrArg i64P (?_ : (-1) = (-1))
    first | (exfalso; omega) | (first | rfl | (simp_all []; done) | (simp_all []; omega))
/-! ### Twice as great -/
def growL (t : List Node) : List Node := t ++ List.replicate (t.length + 1) noNode
theorem growL_len (t : List Node) : (growL t).length = 2 * t.length + 1 := by simp [growL]; omega
theorem run_Grow1 (t : List Node) (ht : WfT t) (hs : sane t = true) (hn : decide ((t.length : Int) = 127) = true) : Run C0 39 [(nodesP t)] (.tup [ownNodes [], i64P 10]) := by
  have hs_l := sane_len hs
  have hn_ := of_decide_eq_true hn
  refine run_fn (C := C0) (c := _) [(nodesP t), undefP, undefP, undefP, undefP, undefP, undefP, undefP, undefP, undefP, undefP, undefP, undefP, undefP, undefP, undefP, undefP, undefP, undefP] Tryz.func39 rfl rfl rfl rfl ?_
  have ho := own_nil []
  refine w_seq ?_
  refine w_reg ?_
  refine w_as nilS rfl ?_
  refine w_as (i64P 0) rfl ?_
  try dsimp only [setD, List.set]
  refine w_nil ?_
  refine un_n ?_
  refine w_seq ?_
  refine w_reg ?_
  refine w_mv (nodesP t) rfl ?_
  refine w_ccl ho _ (nodesP t) [] rfl rfl (cl_cons (cl_nodes ..) (cl_nil _)) (run_shape_known1 t (by first | assumption | exact wf_nil) hs) (rv_lst ..) sl_nil (fun _ ho1 => ?_)
  refine w_as (nodesP t) rfl ?_
  try dsimp only [setD, List.set]
  refine w_nil ?_
  refine un_n ?_
  refine w_seq ?_
  refine w_seq ?_
  refine w_reg ?_
  refine w_mv (nodesP t) rfl ?_
  refine w_lenC _ _ _ (t.length : Int) (by rw [el_22]; rfl) rfl rfl ?_
  refine w_bin (boolP (decide ((t.length : Int) = 127))) rfl ?_
  try dsimp only [setD, List.set]
  refine w_nil ?_
  refine un_n ?_
  refine w_if (decide ((t.length : Int) = 127)) rfl (fun h2 => ?_) (fun h2 => ?_)
  · have h2_ := of_decide_eq_true h2
    refine w_seq ?_
    refine w_reg ?_
    refine w_as nilS rfl ?_
    refine w_as (i64P 10) rfl ?_
    try dsimp only [setD, List.set]
    refine w_nil ?_
    refine un_n ?_
    refine w_ret ?_
    refine un_r ?_
    refine ⟨.inr rfl, [nilS, (i64P 10)], [(.own 37 0 []), (i64P 10)], rfl, (ca_cons (cr_nil el_22) (ca_cons (cr_i64 _) ca_nil)), ?_⟩
    first | (exfalso; omega) | (rfl)
  · have h2_ := of_decide_eq_false h2
    exfalso; omega
theorem run_Grow0 (t : List Node) (ht : WfT t) (hs : sane t = true) (hn : decide ((t.length : Int) = 127) = false) : Run C0 39 [(nodesP t)] (.tup [ownNodes (growL t), i64P 0]) := by
  have hs_l := sane_len hs
  have hn_ := of_decide_eq_false hn
  refine run_fn (C := C0) (c := _) [(nodesP t), undefP, undefP, undefP, undefP, undefP, undefP, undefP, undefP, undefP, undefP, undefP, undefP, undefP, undefP, undefP, undefP, undefP, undefP] Tryz.func39 rfl rfl rfl rfl ?_
  have ho := own_nil []
  refine w_seq ?_
  refine w_reg ?_
  refine w_as nilS rfl ?_
  refine w_as (i64P 0) rfl ?_
  try dsimp only [setD, List.set]
  refine w_nil ?_
  refine un_n ?_
  refine w_seq ?_
  refine w_reg ?_
  refine w_mv (nodesP t) rfl ?_
  refine w_ccl ho _ (nodesP t) [] rfl rfl (cl_cons (cl_nodes ..) (cl_nil _)) (run_shape_known1 t (by first | assumption | exact wf_nil) hs) (rv_lst ..) sl_nil (fun _ ho1 => ?_)
  refine w_as (nodesP t) rfl ?_
  try dsimp only [setD, List.set]
  refine w_nil ?_
  refine un_n ?_
  refine w_seq ?_
  refine w_seq ?_
  refine w_reg ?_
  refine w_mv (nodesP t) rfl ?_
  refine w_lenC _ _ _ (t.length : Int) (by rw [el_22]; rfl) rfl rfl ?_
  refine w_bin (boolP (decide ((t.length : Int) = 127))) rfl ?_
  try dsimp only [setD, List.set]
  refine w_nil ?_
  refine un_n ?_
  refine w_if (decide ((t.length : Int) = 127)) rfl (fun h2 => ?_) (fun h2 => ?_)
  · have h2_ := of_decide_eq_true h2
    exfalso; omega
  · have h2_ := of_decide_eq_false h2
    refine w_skip ?_
    refine un_n ?_
    refine w_seq ?_
    refine w_reg ?_
    refine w_mv (nodesP t) rfl ?_
    refine w_mv (nodesP t) rfl ?_
    refine w_lenC _ _ _ (t.length : Int) (by rw [el_22]; rfl) rfl rfl ?_
    refine w_mv (nodesP t) rfl ?_
    try dsimp only [setD, List.set]
    refine w_lenC _ _ _ (t.length : Int) (by rw [el_22]; rfl) rfl rfl ?_
    refine w_slM (f := nodeCs) (l0 := t) (0) ((t.length : Int).toNat) nodeCs_len (ls_clo _ _) rfl el_22 sz_37 rfl (bound_i (by first | omega | (simp; omega) | (simp [sortL]; omega))) (bound_i (by first | omega | (simp; omega) | (simp [sortL]; omega))) (by first | omega | (simp; omega) | (simp [sortL]; omega)) (by first | omega | (simp; omega) | (simp [sortL]; omega)) t (List.take_of_length_le (by simp)) (fun p3 hp4 => ?_)
    refine w_mv (nodesP t) rfl ?_
    refine w_lenC _ _ _ (t.length : Int) (by rw [el_22]; rfl) rfl rfl ?_
    try dsimp only [setD, List.set]
    refine w_bin (i64P ((t.length : Int) + 1)) (b_add rfl rfl (by omega) (by omega)) ?_
    refine w_appZ ho1 (l0 := (t.map Node.r)) ((t.length : Int) + 1) rNo rCs_len (ls_map rCs_r hp4) rfl rfl (by first | omega | (simp; omega) | (simp [sortL]; omega)) el_22 sz_37 by_37 zp_37 (by decide) rfl (by first | omega | (simp; omega) | (simp [sortL]; omega)) (by first | omega | (simp; omega) | (simp [sortL]; omega)) kd_3 (fun _ p5 ho6 => ?_)
    refine w_as p5 rfl ?_
    refine w_as (i64P 0) rfl ?_
    try dsimp only [setD, List.set]
    refine w_nil ?_
    refine un_n ?_
    refine w_ret ?_
    refine ⟨.inr rfl, [p5, (i64P 0)], [(.own 37 (t.length + ((t.length : Int) + 1).toNat) ((((t.map Node.r) ++ List.replicate ((t.length : Int) + 1).toNat rNo).map RNode.node).flatMap nodeCs)), (i64P 0)], rfl, (ca_cons (cr_own ho6 0 rfl (by decide) (flat_len' rCs_len (by first | assumption | (simp; done) | (simp [*]; done) | (simp; omega))) el_22 sz_37 (offs_cons (off_i _ _) (offs_nil _)) (hasE_nodeCs (e := 37) (by decide) (by decide) (by decide) _) (cl_flat _ (fun _ => cl_rCs _ _) _)) (ca_cons (cr_i64 _) ca_nil)), ?_⟩
    first | (exfalso; omega) | (exact congrArg (fun q => PV.tup [q, i64P 0]) (own_eq (by rw [List.map_append, rs_node, List.map_replicate, rNo_node]; unfold growL; congr 2) (by rw [growL_len]; omega)))
/-! ### Without right halves that have no leaf -/
def isLeafN (n : Node) : Bool := decide (n.kind = 1)
def trimN (t : List Node) : List Node := if h : 0 < t.length / 2 ∧ (t.drop (t.length / 2)).any isLeafN = false then trimN (t.take (t.length / 2)) else t
termination_by t.length
decreasing_by simp; omega
theorem trim_more {t : List Node} (h0 : 0 < t.length / 2) (h : (t.drop (t.length / 2)).any isLeafN = false) : trimN (t.take (t.length / 2)) = trimN t := by
  rw [trimN.eq_1 t, dif_pos ⟨h0, h⟩]
theorem trim_end {t : List Node} (h : ¬ (0 < t.length / 2 ∧ (t.drop (t.length / 2)).any isLeafN = false)) : trimN t = t := by
  rw [trimN.eq_1 t, dif_neg h]
/-- Is anything left? -/
def trimK (t : List Node) : Bool := sane t && !(decide ((trimN t).length = 1) && decide ((nth (trimN t) 0).kind = 0))
def trimL (t : List Node) : List Node := if trimK t then trimN t else []
theorem run_Trim_1 (n : Node) : Run C0 49 [(.agg (nodeCs n))] (boolP (isLeafN n)) := by
  refine run_fn (C := C0) (c := _) [(.agg (nodeCs n)), undefP, undefP, undefP, undefP, undefP] Tryz.func49 rfl rfl rfl rfl ?_
  have ho := own_nil []
  refine w_seq ?_
  refine w_reg ?_
  refine w_box ho (nodeCs n) rfl (isC_node _) (fun _ r1 ho2 => ?_)
  refine w_as (boolP false) rfl ?_
  try dsimp only [setD, List.set]
  refine w_nil ?_
  refine un_n ?_
  refine w_seq ?_
  refine w_reg ?_
  refine w_fa (.ptr r1 0) (fa_ptr fd_37_0 sz_3 (by decide)) ?_
  refine w_ld (i64P n.kind) (ld_var ho2 0 rfl (ld_one sz_3 ag_3 rfl)) ?_
  refine w_bin (boolP (decide (n.kind = 1))) rfl ?_
  refine w_as (boolP (decide (n.kind = 1))) rfl ?_
  try dsimp only [setD, List.set]
  refine w_nil ?_
  refine un_n ?_
  refine w_ret ?_
  refine ⟨.inr rfl, [(boolP (decide (n.kind = 1)))], [(boolP (decide (n.kind = 1)))], rfl, rfl, ?_⟩
  refine congrArg boolP (?_ : (decide (n.kind = 1)) = (isLeafN n))
  first | (exfalso; omega) | (rfl)
theorem trim_exit {t u : List Node} {h : Int} (hh : h = (u.length : Int) / 2) (hu : trimN u = trimN t) (he : ¬ h > 0 ∨ (u.drop h.toNat).any isLeafN = true) : trimN t = u := by
  rw [← hu]
  refine trim_end fun ⟨c1, c2⟩ => ?_
  have e : h.toNat = u.length / 2 := by omega
  rcases he with he | he
  · omega
  · rw [e, c2] at he; cases he
theorem trimK_of {t u : List Node} (hs : sane t = true) (hu : trimN t = u) : trimK t = !(decide ((u.length : Int) = 1) && decide ((nth u 0).kind = 0)) := by
  unfold trimK
  rw [hs, hu, Bool.true_and]
  congr 2
  exact decide_eq_decide.2 (by omega)
theorem run_Trim11 (t : List Node) (ht : WfT t) (hs : sane t = true) (hk : trimK t = true) : Run C0 17 [(nodesP t)] (nodesP (trimN t)) := by
  have hs_l := sane_len hs
  refine run_fn (C := C0) (c := _) [(nodesP t), undefP, undefP, undefP, undefP, undefP, undefP, undefP, undefP, undefP, undefP, undefP, undefP, undefP, undefP, undefP, undefP, undefP, undefP, undefP, undefP, undefP, undefP, undefP, undefP, undefP, undefP, undefP, undefP, undefP, undefP, undefP, undefP, undefP, undefP, undefP] Tryz.func17 rfl rfl rfl rfl ?_
  have ho := own_nil []
  refine w_seq ?_
  refine w_reg ?_
  refine w_as nilS rfl ?_
  try dsimp only [setD, List.set]
  refine w_nil ?_
  refine un_n ?_
  refine w_seq ?_
  refine w_reg ?_
  refine w_mv (nodesP t) rfl ?_
  refine w_ccl ho _ (nodesP t) [] rfl rfl (cl_cons (cl_nodes ..) (cl_nil _)) (run_shape_known1 t (by first | assumption | exact wf_nil) hs) (rv_lst ..) sl_nil (fun _ ho1 => ?_)
  refine w_as (nodesP t) rfl ?_
  try dsimp only [setD, List.set]
  refine w_nil ?_
  refine un_n ?_
  refine w_seq ?_
  refine w_reg ?_
  refine w_as (.fn 49 [] []) rfl ?_
  try dsimp only [setD, List.set]
  refine w_nil ?_
  refine un_n ?_
  refine w_seq ?_
  refine w_seq ?_
  refine w_reg ?_
  refine w_mv (nodesP t) rfl ?_
  refine w_lenC _ _ _ (t.length : Int) (by rw [el_22]; rfl) rfl rfl ?_
  refine w_bin (i64P ((t.length : Int) / 2)) (b_quo rfl rfl (by omega) (by omega) (by omega)) ?_
  refine w_as (i64P ((t.length : Int) / 2)) rfl ?_
  try dsimp only [setD, List.set]
  refine w_nil ?_
  refine un_n ?_
  refine w_block ?_
  refine w_loop (fun n g H => ∃ (h : Int) (p : PV) (u : List Node) (pf : Bool) (j10 : PV) (j11 : PV) (j12 : PV) (j13 : PV) (j14 : PV) (j15 : PV) (j16 : PV) (j17 : PV) (j18 : PV) (j19 : PV) (j20 : PV) (j21 : PV) (j22 : PV) (j23 : PV) (j24 : PV) (j25 : PV), g = [p, undefP, nilS, (.fn 49 [] []), (i64P h), (nodesP t), (nodesP t), (nodesP t), (i64P (t.length : Int)), (i64P ((t.length : Int) / 2)), j10, j11, j12, j13, j14, j15, j16, j17, j18, j19, j20, j21, j22, j23, j24, j25, undefP, undefP, undefP, undefP, undefP, undefP, undefP, undefP, undefP, undefP] ∧ Own H [] ∧ n = u.length ∧ (h = (u.length : Int) / 2) ∧ (trimN u = trimN t) ∧ ((u.length : Int) ≤ 127) ∧ (LsP p 37 u.length (u.flatMap nodeCs) pf)) ⟨((t.length : Int) / 2), (nodesP t), t, false, _, _, _, _, _, _, _, _, _, _, _, _, _, _, _, _, rfl, (own_nil _), rfl, (by omega), rfl, (by omega), (ls_clo _ _)⟩ ?_
  rintro m3 _ H ⟨h, p, u, pf, j10, j11, j12, j13, j14, j15, j16, j17, j18, j19, j20, j21, j22, j23, j24, j25, rfl, ho2, em3, hh, hu, hul, hp⟩
  refine w_seq ?_
  refine w_seq ?_
  refine w_reg ?_
  refine w_mv (i64P h) rfl ?_
  refine w_bin (boolP (decide (h > 0))) rfl ?_
  refine w_mv (boolP (decide (h > 0))) rfl ?_
  rcases Bool.eq_false_or_eq_true (decide (h > 0)) with h4 | h4
  · have h4_ := of_decide_eq_true h4
    refine w_gd (dd := 12) rfl rfl h4 ?_
    refine w_mv p rfl ?_
    try dsimp only [setD, List.set]
    refine w_gd (dd := 12) rfl rfl h4 ?_
    refine w_mv (i64P h) rfl ?_
    refine w_gd (dd := 12) rfl rfl h4 ?_
    refine w_slL (f := nodeCs) (l0 := u) (h.toNat) (u.length) nodeCs_len hp rfl el_22 sz_37 (bound_i (by first | omega | (simp; omega) | (simp [sortL]; omega))) rfl (by first | omega | (simp; omega) | (simp [sortL]; omega)) (by first | omega | (simp; omega) | (simp [sortL]; omega)) (u.drop h.toNat) pf (List.take_of_length_le (by simp)) (by simp) (fun p5 hp6 => ?_)
    refine w_gd (dd := 12) rfl rfl h4 ?_
    refine w_mv (.fn 49 [] []) rfl ?_
    refine w_gd (dd := 12) rfl rfl h4 ?_
    refine w_cs _ (boolP ((u.drop h.toNat).any isLeafN)) rfl (cl_cons (cl_ls hp6) (cl_cons (cl_fn (cl_nil _) (cl_nil _)) (cl_nil _))) (run_containsF_nodes (u.drop h.toNat) 49 [] [] isLeafN (by first | omega | (simp; done) | (simp; omega)) rfl (fun a _ => run_Trim_1 a) (fun _ _ => by first | rfl | exact cl_cons (cl_oct ..) (cl_nil _) | exact cl_cons (cl_agg (cl_nodeCs ..)) (cl_nil _)) (fun _ => rfl)) rfl (fun H => calm_s H _) ?_
    try dsimp only [setD, List.set]
    refine w_gd (dd := 12) rfl rfl h4 ?_
    refine w_un (boolP (!((u.drop h.toNat).any isLeafN))) rfl ?_
    refine w_pk1 (boolP (!((u.drop h.toNat).any isLeafN))) rfl h4 rfl ?_
    try dsimp only [setD, List.set]
    refine w_nil ?_
    refine un_n ?_
    refine w_if (!((u.drop h.toNat).any isLeafN)) rfl (fun h7 => ?_) (fun h7 => ?_)
    · have h7' := nb1 h7
      refine w_skip ?_
      refine un_n ?_
      refine w_seq ?_
      refine w_block ?_
      refine w_reg ?_
      refine w_mv p rfl ?_
      refine w_mv (i64P h) rfl ?_
      refine w_mv (i64P h) rfl ?_
      refine w_slM (f := nodeCs) (l0 := u) (0) (h.toNat) nodeCs_len hp rfl el_22 sz_37 rfl (bound_i (by first | omega | (simp; omega) | (simp [sortL]; omega))) (bound_i (by first | omega | (simp; omega) | (simp [sortL]; omega))) (by first | omega | (simp; omega) | (simp [sortL]; omega)) (by first | omega | (simp; omega) | (simp [sortL]; omega)) (u.take h.toNat) rfl (fun p8 hp9 => ?_)
      try dsimp only [setD, List.set]
      refine w_as p8 rfl ?_
      try dsimp only [setD, List.set]
      refine w_nil ?_
      refine un_n ?_
      refine w_reg ?_
      refine w_mv (i64P h) rfl ?_
      refine w_bin (i64P (h / 2)) (b_quo rfl rfl (by omega) (by omega) (by omega)) ?_
      refine w_as (i64P (h / 2)) rfl ?_
      try dsimp only [setD, List.set]
      refine w_nil ?_
      exact un_n ⟨_, (by rw [em3, List.length_take]; omega), (h / 2), p8, (u.take h.toNat), true, _, _, _, _, _, _, _, _, _, _, _, _, _, _, _, _, rfl, (own_nil _), rfl, (by rw [List.length_take]; omega), (by rw [← hu, show h.toNat = u.length / 2 from by omega]; exact trim_more (by omega) (by rw [← show h.toNat = u.length / 2 from by omega]; assumption)), (by rw [List.length_take]; omega), hp9⟩
    · have h7' := nb0 h7
      refine w_exit ?_
      refine un_e ?_
      refine un_e ?_
      refine un_n ?_
      refine w_seq ?_
      refine w_seq ?_
      refine w_reg ?_
      refine w_mv p rfl ?_
      refine w_lenL (u.length : Int) hp (by rw [el_22]; rfl) rfl rfl ?_
      refine w_bin (boolP (decide ((u.length : Int) = 1))) rfl ?_
      refine w_mv (boolP (decide ((u.length : Int) = 1))) rfl ?_
      try dsimp only [setD, List.set]
      rcases Bool.eq_false_or_eq_true (decide ((u.length : Int) = 1)) with h10 | h10
      · have h10_ := of_decide_eq_true h10
        refine w_gd (dd := 29) rfl rfl h10 ?_
        refine w_mv p rfl ?_
        refine w_gd (dd := 29) rfl rfl h10 ?_
        refine w_ia (.lptr 37 (atF nodeCs 8 u 0 0)) (ix_ls nodeCs_len el_22 sz_37 hp (by omega) (by omega)) ?_
        refine w_gd (dd := 29) rfl rfl h10 ?_
        refine w_ld (.agg (nodeCs (nth u 0))) (ld_lptr (ld_at nodeCs_len (by omega) (by omega) (by decide) (ld_agg sz_37 ag_37 rfl (show 8 ≤ 8 by decide)))) ?_
        refine w_gd (dd := 29) rfl rfl h10 ?_
        refine w_cs _ (boolP (decide ((nth u 0).kind = 0))) rfl (cl_cons (cl_agg (cl_nodeCs ..)) (cl_nil _)) (run_shape_blank (nth u 0)) rfl (fun H => calm_s H _) ?_
        try dsimp only [setD, List.set]
        refine w_pk1 (boolP (decide ((nth u 0).kind = 0))) rfl h10 rfl ?_
        try dsimp only [setD, List.set]
        refine w_nil ?_
        refine un_n ?_
        refine w_if (decide ((nth u 0).kind = 0)) rfl (fun h11 => ?_) (fun h11 => ?_)
        · have h11_ := of_decide_eq_true h11
          refine w_seq ?_
          refine w_reg ?_
          refine w_as nilS rfl ?_
          try dsimp only [setD, List.set]
          refine w_nil ?_
          refine un_n ?_
          refine w_ret ?_
          refine un_r ?_
          refine ⟨.inr rfl, [nilS], [(.own 37 0 [])], rfl, (ca_cons (cr_nil el_22) ca_nil), ?_⟩
          first | (exfalso; omega) | (have hue : trimN t = u := trim_exit hh hu (by first | (left; omega) | (right; assumption)); have hkk := trimK_of hs hue; first | (exact congrArg nodesP hue.symm) | (exfalso; rw [hk, show decide ((u.length : Int) = 1) = true from by assumption, show decide ((nth u 0).kind = 0) = true from by assumption] at hkk; cases hkk))
        · have h11_ := of_decide_eq_false h11
          refine w_skip ?_
          refine un_n ?_
          refine w_seq ?_
          refine w_reg ?_
          refine w_mv p rfl ?_
          refine w_as p rfl ?_
          try dsimp only [setD, List.set]
          refine w_nil ?_
          refine un_n ?_
          refine w_ret ?_
          refine ⟨.inr rfl, [p], [(nodesP u)], rfl, (ca_cons (cr_ls hp) ca_nil), ?_⟩
          first | (exfalso; omega) | (have hue : trimN t = u := trim_exit hh hu (by first | (left; omega) | (right; assumption)); have hkk := trimK_of hs hue; first | (exact congrArg nodesP hue.symm) | (exfalso; rw [hk, show decide ((u.length : Int) = 1) = true from by assumption, show decide ((nth u 0).kind = 0) = true from by assumption] at hkk; cases hkk))
      · have h10_ := of_decide_eq_false h10
        refine w_gn (dd := 29) rfl rfl h10 ?_
        refine w_gn (dd := 29) rfl rfl h10 ?_
        refine w_gn (dd := 29) rfl rfl h10 ?_
        refine w_gn (dd := 29) rfl rfl h10 ?_
        try dsimp only [setD, List.set]
        refine w_pk0 (boolP false) rfl h10 rfl ?_
        try dsimp only [setD, List.set]
        refine w_nil ?_
        refine un_n ?_
        refine w_if0 rfl rfl ?_
        refine w_skip ?_
        refine un_n ?_
        refine w_seq ?_
        refine w_reg ?_
        refine w_mv p rfl ?_
        refine w_as p rfl ?_
        try dsimp only [setD, List.set]
        refine w_nil ?_
        refine un_n ?_
        refine w_ret ?_
        refine ⟨.inr rfl, [p], [(nodesP u)], rfl, (ca_cons (cr_ls hp) ca_nil), ?_⟩
        first | (exfalso; omega) | (have hue : trimN t = u := trim_exit hh hu (by first | (left; omega) | (right; assumption)); have hkk := trimK_of hs hue; first | (exact congrArg nodesP hue.symm) | (exfalso; rw [hk, show decide ((u.length : Int) = 1) = true from by assumption, show decide ((nth u 0).kind = 0) = true from by assumption] at hkk; cases hkk))
  · have h4_ := of_decide_eq_false h4
    refine w_gn (dd := 12) rfl rfl h4 ?_
    try dsimp only [setD, List.set]
    refine w_gn (dd := 12) rfl rfl h4 ?_
    refine w_gn (dd := 12) rfl rfl h4 ?_
    refine w_gn (dd := 12) rfl rfl h4 ?_
    refine w_gn (dd := 12) rfl rfl h4 ?_
    try dsimp only [setD, List.set]
    refine w_gn (dd := 12) rfl rfl h4 ?_
    refine w_pk0 (boolP false) rfl h4 rfl ?_
    try dsimp only [setD, List.set]
    refine w_nil ?_
    refine un_n ?_
    refine w_if0 rfl rfl ?_
    refine w_exit ?_
    refine un_e ?_
    refine un_e ?_
    refine un_n ?_
    refine w_seq ?_
    refine w_seq ?_
    refine w_reg ?_
    refine w_mv p rfl ?_
    refine w_lenL (u.length : Int) hp (by rw [el_22]; rfl) rfl rfl ?_
    refine w_bin (boolP (decide ((u.length : Int) = 1))) rfl ?_
    refine w_mv (boolP (decide ((u.length : Int) = 1))) rfl ?_
    try dsimp only [setD, List.set]
    rcases Bool.eq_false_or_eq_true (decide ((u.length : Int) = 1)) with h12 | h12
    · have h12_ := of_decide_eq_true h12
      refine w_gd (dd := 29) rfl rfl h12 ?_
      refine w_mv p rfl ?_
      refine w_gd (dd := 29) rfl rfl h12 ?_
      refine w_ia (.lptr 37 (atF nodeCs 8 u 0 0)) (ix_ls nodeCs_len el_22 sz_37 hp (by omega) (by omega)) ?_
      refine w_gd (dd := 29) rfl rfl h12 ?_
      refine w_ld (.agg (nodeCs (nth u 0))) (ld_lptr (ld_at nodeCs_len (by omega) (by omega) (by decide) (ld_agg sz_37 ag_37 rfl (show 8 ≤ 8 by decide)))) ?_
      refine w_gd (dd := 29) rfl rfl h12 ?_
      refine w_cs _ (boolP (decide ((nth u 0).kind = 0))) rfl (cl_cons (cl_agg (cl_nodeCs ..)) (cl_nil _)) (run_shape_blank (nth u 0)) rfl (fun H => calm_s H _) ?_
      try dsimp only [setD, List.set]
      refine w_pk1 (boolP (decide ((nth u 0).kind = 0))) rfl h12 rfl ?_
      try dsimp only [setD, List.set]
      refine w_nil ?_
      refine un_n ?_
      refine w_if (decide ((nth u 0).kind = 0)) rfl (fun h13 => ?_) (fun h13 => ?_)
      · have h13_ := of_decide_eq_true h13
        refine w_seq ?_
        refine w_reg ?_
        refine w_as nilS rfl ?_
        try dsimp only [setD, List.set]
        refine w_nil ?_
        refine un_n ?_
        refine w_ret ?_
        refine un_r ?_
        refine ⟨.inr rfl, [nilS], [(.own 37 0 [])], rfl, (ca_cons (cr_nil el_22) ca_nil), ?_⟩
        first | (exfalso; omega) | (have hue : trimN t = u := trim_exit hh hu (by first | (left; omega) | (right; assumption)); have hkk := trimK_of hs hue; first | (exact congrArg nodesP hue.symm) | (exfalso; rw [hk, show decide ((u.length : Int) = 1) = true from by assumption, show decide ((nth u 0).kind = 0) = true from by assumption] at hkk; cases hkk))
      · have h13_ := of_decide_eq_false h13
        refine w_skip ?_
        refine un_n ?_
        refine w_seq ?_
        refine w_reg ?_
        refine w_mv p rfl ?_
        refine w_as p rfl ?_
        try dsimp only [setD, List.set]
        refine w_nil ?_
        refine un_n ?_
        refine w_ret ?_
        refine ⟨.inr rfl, [p], [(nodesP u)], rfl, (ca_cons (cr_ls hp) ca_nil), ?_⟩
        first | (exfalso; omega) | (have hue : trimN t = u := trim_exit hh hu (by first | (left; omega) | (right; assumption)); have hkk := trimK_of hs hue; first | (exact congrArg nodesP hue.symm) | (exfalso; rw [hk, show decide ((u.length : Int) = 1) = true from by assumption, show decide ((nth u 0).kind = 0) = true from by assumption] at hkk; cases hkk))
    · have h12_ := of_decide_eq_false h12
      refine w_gn (dd := 29) rfl rfl h12 ?_
      refine w_gn (dd := 29) rfl rfl h12 ?_
      refine w_gn (dd := 29) rfl rfl h12 ?_
      refine w_gn (dd := 29) rfl rfl h12 ?_
      try dsimp only [setD, List.set]
      refine w_pk0 (boolP false) rfl h12 rfl ?_
      try dsimp only [setD, List.set]
      refine w_nil ?_
      refine un_n ?_
      refine w_if0 rfl rfl ?_
      refine w_skip ?_
      refine un_n ?_
      refine w_seq ?_
      refine w_reg ?_
      refine w_mv p rfl ?_
      refine w_as p rfl ?_
      try dsimp only [setD, List.set]
      refine w_nil ?_
      refine un_n ?_
      refine w_ret ?_
      refine ⟨.inr rfl, [p], [(nodesP u)], rfl, (ca_cons (cr_ls hp) ca_nil), ?_⟩
      first | (exfalso; omega) | (have hue : trimN t = u := trim_exit hh hu (by first | (left; omega) | (right; assumption)); have hkk := trimK_of hs hue; first | (exact congrArg nodesP hue.symm) | (exfalso; rw [hk, show decide ((u.length : Int) = 1) = true from by assumption, show decide ((nth u 0).kind = 0) = true from by assumption] at hkk; cases hkk))
theorem run_Trim00 (t : List Node) (ht : WfT t) (hs : sane t = true) (hk : trimK t = false) : Run C0 17 [(nodesP t)] (ownNodes []) := by
  have hs_l := sane_len hs
  refine run_fn (C := C0) (c := _) [(nodesP t), undefP, undefP, undefP, undefP, undefP, undefP, undefP, undefP, undefP, undefP, undefP, undefP, undefP, undefP, undefP, undefP, undefP, undefP, undefP, undefP, undefP, undefP, undefP, undefP, undefP, undefP, undefP, undefP, undefP, undefP, undefP, undefP, undefP, undefP, undefP] Tryz.func17 rfl rfl rfl rfl ?_
  have ho := own_nil []
  refine w_seq ?_
  refine w_reg ?_
  refine w_as nilS rfl ?_
  try dsimp only [setD, List.set]
  refine w_nil ?_
  refine un_n ?_
  refine w_seq ?_
  refine w_reg ?_
  refine w_mv (nodesP t) rfl ?_
  refine w_ccl ho _ (nodesP t) [] rfl rfl (cl_cons (cl_nodes ..) (cl_nil _)) (run_shape_known1 t (by first | assumption | exact wf_nil) hs) (rv_lst ..) sl_nil (fun _ ho1 => ?_)
  refine w_as (nodesP t) rfl ?_
  try dsimp only [setD, List.set]
  refine w_nil ?_
  refine un_n ?_
  refine w_seq ?_
  refine w_reg ?_
  refine w_as (.fn 49 [] []) rfl ?_
  try dsimp only [setD, List.set]
  refine w_nil ?_
  refine un_n ?_
  refine w_seq ?_
  refine w_seq ?_
  refine w_reg ?_
  refine w_mv (nodesP t) rfl ?_
  refine w_lenC _ _ _ (t.length : Int) (by rw [el_22]; rfl) rfl rfl ?_
  refine w_bin (i64P ((t.length : Int) / 2)) (b_quo rfl rfl (by omega) (by omega) (by omega)) ?_
  refine w_as (i64P ((t.length : Int) / 2)) rfl ?_
  try dsimp only [setD, List.set]
  refine w_nil ?_
  refine un_n ?_
  refine w_block ?_
  refine w_loop (fun n g H => ∃ (h : Int) (p : PV) (u : List Node) (pf : Bool) (j10 : PV) (j11 : PV) (j12 : PV) (j13 : PV) (j14 : PV) (j15 : PV) (j16 : PV) (j17 : PV) (j18 : PV) (j19 : PV) (j20 : PV) (j21 : PV) (j22 : PV) (j23 : PV) (j24 : PV) (j25 : PV), g = [p, undefP, nilS, (.fn 49 [] []), (i64P h), (nodesP t), (nodesP t), (nodesP t), (i64P (t.length : Int)), (i64P ((t.length : Int) / 2)), j10, j11, j12, j13, j14, j15, j16, j17, j18, j19, j20, j21, j22, j23, j24, j25, undefP, undefP, undefP, undefP, undefP, undefP, undefP, undefP, undefP, undefP] ∧ Own H [] ∧ n = u.length ∧ (h = (u.length : Int) / 2) ∧ (trimN u = trimN t) ∧ ((u.length : Int) ≤ 127) ∧ (LsP p 37 u.length (u.flatMap nodeCs) pf)) ⟨((t.length : Int) / 2), (nodesP t), t, false, _, _, _, _, _, _, _, _, _, _, _, _, _, _, _, _, rfl, (own_nil _), rfl, (by omega), rfl, (by omega), (ls_clo _ _)⟩ ?_
  rintro m3 _ H ⟨h, p, u, pf, j10, j11, j12, j13, j14, j15, j16, j17, j18, j19, j20, j21, j22, j23, j24, j25, rfl, ho2, em3, hh, hu, hul, hp⟩
  refine w_seq ?_
  refine w_seq ?_
  refine w_reg ?_
  refine w_mv (i64P h) rfl ?_
  refine w_bin (boolP (decide (h > 0))) rfl ?_
  refine w_mv (boolP (decide (h > 0))) rfl ?_
  rcases Bool.eq_false_or_eq_true (decide (h > 0)) with h4 | h4
  · have h4_ := of_decide_eq_true h4
    refine w_gd (dd := 12) rfl rfl h4 ?_
    refine w_mv p rfl ?_
    try dsimp only [setD, List.set]
    refine w_gd (dd := 12) rfl rfl h4 ?_
    refine w_mv (i64P h) rfl ?_
    refine w_gd (dd := 12) rfl rfl h4 ?_
    refine w_slL (f := nodeCs) (l0 := u) (h.toNat) (u.length) nodeCs_len hp rfl el_22 sz_37 (bound_i (by first | omega | (simp; omega) | (simp [sortL]; omega))) rfl (by first | omega | (simp; omega) | (simp [sortL]; omega)) (by first | omega | (simp; omega) | (simp [sortL]; omega)) (u.drop h.toNat) pf (List.take_of_length_le (by simp)) (by simp) (fun p5 hp6 => ?_)
    refine w_gd (dd := 12) rfl rfl h4 ?_
    refine w_mv (.fn 49 [] []) rfl ?_
    refine w_gd (dd := 12) rfl rfl h4 ?_
    refine w_cs _ (boolP ((u.drop h.toNat).any isLeafN)) rfl (cl_cons (cl_ls hp6) (cl_cons (cl_fn (cl_nil _) (cl_nil _)) (cl_nil _))) (run_containsF_nodes (u.drop h.toNat) 49 [] [] isLeafN (by first | omega | (simp; done) | (simp; omega)) rfl (fun a _ => run_Trim_1 a) (fun _ _ => by first | rfl | exact cl_cons (cl_oct ..) (cl_nil _) | exact cl_cons (cl_agg (cl_nodeCs ..)) (cl_nil _)) (fun _ => rfl)) rfl (fun H => calm_s H _) ?_
    try dsimp only [setD, List.set]
    refine w_gd (dd := 12) rfl rfl h4 ?_
    refine w_un (boolP (!((u.drop h.toNat).any isLeafN))) rfl ?_
    refine w_pk1 (boolP (!((u.drop h.toNat).any isLeafN))) rfl h4 rfl ?_
    try dsimp only [setD, List.set]
    refine w_nil ?_
    refine un_n ?_
    refine w_if (!((u.drop h.toNat).any isLeafN)) rfl (fun h7 => ?_) (fun h7 => ?_)
    · have h7' := nb1 h7
      refine w_skip ?_
      refine un_n ?_
      refine w_seq ?_
      refine w_block ?_
      refine w_reg ?_
      refine w_mv p rfl ?_
      refine w_mv (i64P h) rfl ?_
      refine w_mv (i64P h) rfl ?_
      refine w_slM (f := nodeCs) (l0 := u) (0) (h.toNat) nodeCs_len hp rfl el_22 sz_37 rfl (bound_i (by first | omega | (simp; omega) | (simp [sortL]; omega))) (bound_i (by first | omega | (simp; omega) | (simp [sortL]; omega))) (by first | omega | (simp; omega) | (simp [sortL]; omega)) (by first | omega | (simp; omega) | (simp [sortL]; omega)) (u.take h.toNat) rfl (fun p8 hp9 => ?_)
      try dsimp only [setD, List.set]
      refine w_as p8 rfl ?_
      try dsimp only [setD, List.set]
      refine w_nil ?_
      refine un_n ?_
      refine w_reg ?_
      refine w_mv (i64P h) rfl ?_
      refine w_bin (i64P (h / 2)) (b_quo rfl rfl (by omega) (by omega) (by omega)) ?_
      refine w_as (i64P (h / 2)) rfl ?_
      try dsimp only [setD, List.set]
      refine w_nil ?_
      exact un_n ⟨_, (by rw [em3, List.length_take]; omega), (h / 2), p8, (u.take h.toNat), true, _, _, _, _, _, _, _, _, _, _, _, _, _, _, _, _, rfl, (own_nil _), rfl, (by rw [List.length_take]; omega), (by rw [← hu, show h.toNat = u.length / 2 from by omega]; exact trim_more (by omega) (by rw [← show h.toNat = u.length / 2 from by omega]; assumption)), (by rw [List.length_take]; omega), hp9⟩
    · have h7' := nb0 h7
      refine w_exit ?_
      refine un_e ?_
      refine un_e ?_
      refine un_n ?_
      refine w_seq ?_
      refine w_seq ?_
      refine w_reg ?_
      refine w_mv p rfl ?_
      refine w_lenL (u.length : Int) hp (by rw [el_22]; rfl) rfl rfl ?_
      refine w_bin (boolP (decide ((u.length : Int) = 1))) rfl ?_
      refine w_mv (boolP (decide ((u.length : Int) = 1))) rfl ?_
      try dsimp only [setD, List.set]
      rcases Bool.eq_false_or_eq_true (decide ((u.length : Int) = 1)) with h10 | h10
      · have h10_ := of_decide_eq_true h10
        refine w_gd (dd := 29) rfl rfl h10 ?_
        refine w_mv p rfl ?_
        refine w_gd (dd := 29) rfl rfl h10 ?_
        refine w_ia (.lptr 37 (atF nodeCs 8 u 0 0)) (ix_ls nodeCs_len el_22 sz_37 hp (by omega) (by omega)) ?_
        refine w_gd (dd := 29) rfl rfl h10 ?_
        refine w_ld (.agg (nodeCs (nth u 0))) (ld_lptr (ld_at nodeCs_len (by omega) (by omega) (by decide) (ld_agg sz_37 ag_37 rfl (show 8 ≤ 8 by decide)))) ?_
        refine w_gd (dd := 29) rfl rfl h10 ?_
        refine w_cs _ (boolP (decide ((nth u 0).kind = 0))) rfl (cl_cons (cl_agg (cl_nodeCs ..)) (cl_nil _)) (run_shape_blank (nth u 0)) rfl (fun H => calm_s H _) ?_
        try dsimp only [setD, List.set]
        refine w_pk1 (boolP (decide ((nth u 0).kind = 0))) rfl h10 rfl ?_
        try dsimp only [setD, List.set]
        refine w_nil ?_
        refine un_n ?_
        refine w_if (decide ((nth u 0).kind = 0)) rfl (fun h11 => ?_) (fun h11 => ?_)
        · have h11_ := of_decide_eq_true h11
          refine w_seq ?_
          refine w_reg ?_
          refine w_as nilS rfl ?_
          try dsimp only [setD, List.set]
          refine w_nil ?_
          refine un_n ?_
          refine w_ret ?_
          refine un_r ?_
          refine ⟨.inr rfl, [nilS], [(.own 37 0 [])], rfl, (ca_cons (cr_nil el_22) ca_nil), ?_⟩
          first | (exfalso; omega) | (have hue : trimN t = u := trim_exit hh hu (by first | (left; omega) | (right; assumption)); have hkk := trimK_of hs hue; first | rfl | (exfalso; rw [hk, show decide ((u.length : Int) = 1) = false from by assumption, Bool.false_and] at hkk; cases hkk) | (exfalso; rw [hk, show decide ((nth u 0).kind = 0) = false from by assumption, Bool.and_false] at hkk; cases hkk))
        · have h11_ := of_decide_eq_false h11
          refine w_skip ?_
          refine un_n ?_
          refine w_seq ?_
          refine w_reg ?_
          refine w_mv p rfl ?_
          refine w_as p rfl ?_
          try dsimp only [setD, List.set]
          refine w_nil ?_
          refine un_n ?_
          refine w_ret ?_
          refine ⟨.inr rfl, [p], [(nodesP u)], rfl, (ca_cons (cr_ls hp) ca_nil), ?_⟩
          first | (exfalso; omega) | (have hue : trimN t = u := trim_exit hh hu (by first | (left; omega) | (right; assumption)); have hkk := trimK_of hs hue; first | rfl | (exfalso; rw [hk, show decide ((u.length : Int) = 1) = false from by assumption, Bool.false_and] at hkk; cases hkk) | (exfalso; rw [hk, show decide ((nth u 0).kind = 0) = false from by assumption, Bool.and_false] at hkk; cases hkk))
      · have h10_ := of_decide_eq_false h10
        refine w_gn (dd := 29) rfl rfl h10 ?_
        refine w_gn (dd := 29) rfl rfl h10 ?_
        refine w_gn (dd := 29) rfl rfl h10 ?_
        refine w_gn (dd := 29) rfl rfl h10 ?_
        try dsimp only [setD, List.set]
        refine w_pk0 (boolP false) rfl h10 rfl ?_
        try dsimp only [setD, List.set]
        refine w_nil ?_
        refine un_n ?_
        refine w_if0 rfl rfl ?_
        refine w_skip ?_
        refine un_n ?_
        refine w_seq ?_
        refine w_reg ?_
        refine w_mv p rfl ?_
        refine w_as p rfl ?_
        try dsimp only [setD, List.set]
        refine w_nil ?_
        refine un_n ?_
        refine w_ret ?_
        refine ⟨.inr rfl, [p], [(nodesP u)], rfl, (ca_cons (cr_ls hp) ca_nil), ?_⟩
        first | (exfalso; omega) | (have hue : trimN t = u := trim_exit hh hu (by first | (left; omega) | (right; assumption)); have hkk := trimK_of hs hue; first | rfl | (exfalso; rw [hk, show decide ((u.length : Int) = 1) = false from by assumption, Bool.false_and] at hkk; cases hkk) | (exfalso; rw [hk, show decide ((nth u 0).kind = 0) = false from by assumption, Bool.and_false] at hkk; cases hkk))
  · have h4_ := of_decide_eq_false h4
    refine w_gn (dd := 12) rfl rfl h4 ?_
    try dsimp only [setD, List.set]
    refine w_gn (dd := 12) rfl rfl h4 ?_
    refine w_gn (dd := 12) rfl rfl h4 ?_
    refine w_gn (dd := 12) rfl rfl h4 ?_
    refine w_gn (dd := 12) rfl rfl h4 ?_
    try dsimp only [setD, List.set]
    refine w_gn (dd := 12) rfl rfl h4 ?_
    refine w_pk0 (boolP false) rfl h4 rfl ?_
    try dsimp only [setD, List.set]
    refine w_nil ?_
    refine un_n ?_
    refine w_if0 rfl rfl ?_
    refine w_exit ?_
    refine un_e ?_
    refine un_e ?_
    refine un_n ?_
    refine w_seq ?_
    refine w_seq ?_
    refine w_reg ?_
    refine w_mv p rfl ?_
    refine w_lenL (u.length : Int) hp (by rw [el_22]; rfl) rfl rfl ?_
    refine w_bin (boolP (decide ((u.length : Int) = 1))) rfl ?_
    refine w_mv (boolP (decide ((u.length : Int) = 1))) rfl ?_
    try dsimp only [setD, List.set]
    rcases Bool.eq_false_or_eq_true (decide ((u.length : Int) = 1)) with h12 | h12
    · have h12_ := of_decide_eq_true h12
      refine w_gd (dd := 29) rfl rfl h12 ?_
      refine w_mv p rfl ?_
      refine w_gd (dd := 29) rfl rfl h12 ?_
      refine w_ia (.lptr 37 (atF nodeCs 8 u 0 0)) (ix_ls nodeCs_len el_22 sz_37 hp (by omega) (by omega)) ?_
      refine w_gd (dd := 29) rfl rfl h12 ?_
      refine w_ld (.agg (nodeCs (nth u 0))) (ld_lptr (ld_at nodeCs_len (by omega) (by omega) (by decide) (ld_agg sz_37 ag_37 rfl (show 8 ≤ 8 by decide)))) ?_
      refine w_gd (dd := 29) rfl rfl h12 ?_
      refine w_cs _ (boolP (decide ((nth u 0).kind = 0))) rfl (cl_cons (cl_agg (cl_nodeCs ..)) (cl_nil _)) (run_shape_blank (nth u 0)) rfl (fun H => calm_s H _) ?_
      try dsimp only [setD, List.set]
      refine w_pk1 (boolP (decide ((nth u 0).kind = 0))) rfl h12 rfl ?_
      try dsimp only [setD, List.set]
      refine w_nil ?_
      refine un_n ?_
      refine w_if (decide ((nth u 0).kind = 0)) rfl (fun h13 => ?_) (fun h13 => ?_)
      · have h13_ := of_decide_eq_true h13
        refine w_seq ?_
        refine w_reg ?_
        refine w_as nilS rfl ?_
        try dsimp only [setD, List.set]
        refine w_nil ?_
        refine un_n ?_
        refine w_ret ?_
        refine un_r ?_
        refine ⟨.inr rfl, [nilS], [(.own 37 0 [])], rfl, (ca_cons (cr_nil el_22) ca_nil), ?_⟩
        first | (exfalso; omega) | (have hue : trimN t = u := trim_exit hh hu (by first | (left; omega) | (right; assumption)); have hkk := trimK_of hs hue; first | rfl | (exfalso; rw [hk, show decide ((u.length : Int) = 1) = false from by assumption, Bool.false_and] at hkk; cases hkk) | (exfalso; rw [hk, show decide ((nth u 0).kind = 0) = false from by assumption, Bool.and_false] at hkk; cases hkk))
      · have h13_ := of_decide_eq_false h13
        refine w_skip ?_
        refine un_n ?_
        refine w_seq ?_
        refine w_reg ?_
        refine w_mv p rfl ?_
        refine w_as p rfl ?_
        try dsimp only [setD, List.set]
        refine w_nil ?_
        refine un_n ?_
        refine w_ret ?_
        refine ⟨.inr rfl, [p], [(nodesP u)], rfl, (ca_cons (cr_ls hp) ca_nil), ?_⟩
        first | (exfalso; omega) | (have hue : trimN t = u := trim_exit hh hu (by first | (left; omega) | (right; assumption)); have hkk := trimK_of hs hue; first | rfl | (exfalso; rw [hk, show decide ((u.length : Int) = 1) = false from by assumption, Bool.false_and] at hkk; cases hkk) | (exfalso; rw [hk, show decide ((nth u 0).kind = 0) = false from by assumption, Bool.and_false] at hkk; cases hkk))
    · have h12_ := of_decide_eq_false h12
      refine w_gn (dd := 29) rfl rfl h12 ?_
      refine w_gn (dd := 29) rfl rfl h12 ?_
      refine w_gn (dd := 29) rfl rfl h12 ?_
      refine w_gn (dd := 29) rfl rfl h12 ?_
      try dsimp only [setD, List.set]
      refine w_pk0 (boolP false) rfl h12 rfl ?_
      try dsimp only [setD, List.set]
      refine w_nil ?_
      refine un_n ?_
      refine w_if0 rfl rfl ?_
      refine w_skip ?_
      refine un_n ?_
      refine w_seq ?_
      refine w_reg ?_
      refine w_mv p rfl ?_
      refine w_as p rfl ?_
      try dsimp only [setD, List.set]
      refine w_nil ?_
      refine un_n ?_
      refine w_ret ?_
      refine ⟨.inr rfl, [p], [(nodesP u)], rfl, (ca_cons (cr_ls hp) ca_nil), ?_⟩
      first | (exfalso; omega) | (have hue : trimN t = u := trim_exit hh hu (by first | (left; omega) | (right; assumption)); have hkk := trimK_of hs hue; first | rfl | (exfalso; rw [hk, show decide ((u.length : Int) = 1) = false from by assumption, Bool.false_and] at hkk; cases hkk) | (exfalso; rw [hk, show decide ((nth u 0).kind = 0) = false from by assumption, Bool.and_false] at hkk; cases hkk))
theorem run_Trim01 (t : List Node) (ht : WfT t) (hs : sane t = false) : Run C0 17 [(nodesP t)] (ownNodes []) := by
  refine run_fn (C := C0) (c := _) [(nodesP t), undefP, undefP, undefP, undefP, undefP, undefP, undefP, undefP, undefP, undefP, undefP, undefP, undefP, undefP, undefP, undefP, undefP, undefP, undefP, undefP, undefP, undefP, undefP, undefP, undefP, undefP, undefP, undefP, undefP, undefP, undefP, undefP, undefP, undefP, undefP] Tryz.func17 rfl rfl rfl rfl ?_
  have ho := own_nil []
  refine w_seq ?_
  refine w_reg ?_
  refine w_as nilS rfl ?_
  try dsimp only [setD, List.set]
  refine w_nil ?_
  refine un_n ?_
  refine w_seq ?_
  refine w_reg ?_
  refine w_mv (nodesP t) rfl ?_
  refine w_cown ho _ _ _ _ _ [] rfl rfl (cl_cons (cl_nodes ..) (cl_nil _)) (run_shape_known0 t (by first | assumption | exact wf_nil) hs) sz_37 (by decide) (flat_len nodeCs_len _) sl_nil (fun _ r2 ho1 => ?_)
  refine w_as (.row r2 0 0) rfl ?_
  try dsimp only [setD, List.set]
  refine w_nil ?_
  refine un_n ?_
  refine w_seq ?_
  refine w_reg ?_
  refine w_as (.fn 49 [] []) rfl ?_
  try dsimp only [setD, List.set]
  refine w_nil ?_
  refine un_n ?_
  refine w_seq ?_
  refine w_seq ?_
  refine w_reg ?_
  refine w_mv (.row r2 0 0) rfl ?_
  refine w_lenO ho1 0 0 0 (by rw [el_22]; rfl) rfl rfl (by decide) rfl rfl ?_
  refine w_bin (i64P (0 / 2)) (b_quo rfl rfl (by omega) (by omega) (by omega)) ?_
  refine w_as (i64P (0 / 2)) rfl ?_
  try dsimp only [setD, List.set]
  refine w_nil ?_
  refine un_n ?_
  refine w_block ?_
  refine w_loop (fun n g H => ∃ (h : Int) (j10 : PV) (j11 : PV) (j12 : PV) (j13 : PV) (j14 : PV) (j15 : PV) (j16 : PV) (j17 : PV) (j18 : PV) (j19 : PV) (j20 : PV) (j21 : PV) (j22 : PV) (j23 : PV) (j24 : PV) (j25 : PV), g = [(.row r2 0 0), undefP, nilS, (.fn 49 [] []), (i64P h), (nodesP t), (.row r2 0 0), (.row r2 0 0), (i64P 0), (i64P (0 / 2)), j10, j11, j12, j13, j14, j15, j16, j17, j18, j19, j20, j21, j22, j23, j24, j25, undefP, undefP, undefP, undefP, undefP, undefP, undefP, undefP, undefP, undefP] ∧ Own H [((.row r2 0 0), .cells 37 (([] : List RNode).flatMap rCs) (some 8) false)] ∧ n = 0 ∧ (h = 0)) ⟨(0 / 2), _, _, _, _, _, _, _, _, _, _, _, _, _, _, _, _, rfl, ho1, rfl, (by omega)⟩ ?_
  rintro m6 _ H ⟨h, j10, j11, j12, j13, j14, j15, j16, j17, j18, j19, j20, j21, j22, j23, j24, j25, rfl, ho5, em6, i4⟩
  refine w_seq ?_
  refine w_seq ?_
  refine w_reg ?_
  refine w_mv (i64P h) rfl ?_
  refine w_bin (boolP (decide (h > 0))) rfl ?_
  refine w_mv (boolP (decide (h > 0))) rfl ?_
  rcases Bool.eq_false_or_eq_true (decide (h > 0)) with h7 | h7
  · have h7_ := of_decide_eq_true h7
    exfalso; omega
  · have h7_ := of_decide_eq_false h7
    refine w_gn (dd := 12) rfl rfl h7 ?_
    try dsimp only [setD, List.set]
    refine w_gn (dd := 12) rfl rfl h7 ?_
    refine w_gn (dd := 12) rfl rfl h7 ?_
    refine w_gn (dd := 12) rfl rfl h7 ?_
    refine w_gn (dd := 12) rfl rfl h7 ?_
    try dsimp only [setD, List.set]
    refine w_gn (dd := 12) rfl rfl h7 ?_
    refine w_pk0 (boolP false) rfl h7 rfl ?_
    try dsimp only [setD, List.set]
    refine w_nil ?_
    refine un_n ?_
    refine w_if0 rfl rfl ?_
    refine w_exit ?_
    refine un_e ?_
    refine un_e ?_
    refine un_n ?_
    refine w_seq ?_
    refine w_seq ?_
    refine w_reg ?_
    refine w_mv (.row r2 0 0) rfl ?_
    refine w_lenO ho5 0 0 0 (by rw [el_22]; rfl) rfl rfl (by decide) rfl rfl ?_
    refine w_bin (boolP (decide ((0 : Int) = 1))) rfl ?_
    refine w_mv (boolP (decide ((0 : Int) = 1))) rfl ?_
    try dsimp only [setD, List.set]
    refine w_gn (dd := 29) rfl rfl (by decide) ?_
    refine w_gn (dd := 29) rfl rfl (by decide) ?_
    refine w_gn (dd := 29) rfl rfl (by decide) ?_
    refine w_gn (dd := 29) rfl rfl (by decide) ?_
    try dsimp only [setD, List.set]
    refine w_pk0 (boolP false) rfl (by decide) rfl ?_
    try dsimp only [setD, List.set]
    refine w_nil ?_
    refine un_n ?_
    refine w_if0 rfl rfl ?_
    refine w_skip ?_
    refine un_n ?_
    refine w_seq ?_
    refine w_reg ?_
    refine w_mv (.row r2 0 0) rfl ?_
    refine w_as (.row r2 0 0) rfl ?_
    try dsimp only [setD, List.set]
    refine w_nil ?_
    refine un_n ?_
    refine w_ret ?_
    refine ⟨.inr rfl, [(.row r2 0 0)], [(.own 37 0 ((([] : List RNode).map RNode.node).flatMap nodeCs))], rfl, (ca_cons (cr_own ho5 0 rfl (by decide) rfl el_22 sz_37 (offs_nil _) (hasE_nodeCs (e := 37) (by decide) (by decide) (by decide) _) rfl) ca_nil), ?_⟩
    first | (exfalso; omega) | (rfl)
theorem trimK_sane {t : List Node} (hk : trimK t = true) : sane t = true := by
  unfold trimK at hk
  simp only [Bool.and_eq_true] at hk
  exact hk.1
theorem run_Trim1 (t : List Node) (ht : WfT t) (hk : trimK t = true) : Run C0 17 [nodesP t] (nodesP (trimN t)) := run_Trim11 t ht (trimK_sane hk) hk
theorem run_Trim0 (t : List Node) (ht : WfT t) (hk : trimK t = false) : Run C0 17 [nodesP t] (ownNodes []) := by
  cases hs : sane t with
  | true => exact run_Trim00 t ht hs hk
  | false => exact run_Trim01 t ht hs
end Go.Proofs.YtkkdkhacligaoaaGreatDoor.law
