/- Walks: what functions of the program come to, as the pure interpreter runs them. -/
import Derived.Test.YtkkdkhacligaoaaGreatDoorW1
set_option linter.unusedSimpArgs false
set_option linter.unusedVariables false
namespace Go.Proofs.YtkkdkhacligaoaaGreatDoor.law
open Go.PI
theorem nth_mem {α : Type} [Inhabited α] {l : List α} {i : Int} (h0 : 0 ≤ i) (h1 : i < l.length) : nth l i ∈ l := by
  have : i = (i.toNat : Int) := by omega
  rw [this, nth_get (show i.toNat < l.length by omega)]
  exact List.getElem_mem _
theorem none_next {α : Type} [Inhabited α] {p : α → Bool} {l : List α} {i : Int} (h : p (nth l i) = false) (h2 : ∀ j (hj : j < l.length), (j : Int) < i → p l[j] = false) : ∀ j (hj : j < l.length), (j : Int) < i + 1 → p l[j] = false := by
  intro j hj hji
  by_cases he : (j : Int) = i
  · rw [← he, nth_get hj] at h; exact h
  · exact h2 j hj (by omega)
theorem find_here {α : Type} [Inhabited α] {p : α → Bool} {l : List α} {i : Int} (h : p (nth l i) = true) (h0 : 0 ≤ i) (hi : i < (l.length : Int)) (h2 : ∀ j (hj : j < l.length), (j : Int) < i → p l[j] = false) : findI p l = i := by
  have : i = (i.toNat : Int) := by omega
  rw [this] at h ⊢
  have hl : i.toNat < l.length := by omega
  rw [nth_get hl] at h
  exact findI_some hl h fun j hj => h2 j (by omega) (by omega)
theorem run_indexF_keys (l : List (List UInt8)) (f : Nat) (first caps : List PV) (p : List UInt8 → Bool) (hl : (l.length : Int) ≤ 9223372036854775807) (hinl : C0.inl f = false) (hp : ∀ a ∈ l, Run C0 f (first ++ [octP a] ++ caps) (boolP (p a))) (hcl : ∀ H a, mapO (close H 6) (first ++ [octP a] ++ caps) = some (first ++ [octP a] ++ caps)) (hfn : ∀ H, close H 6 (.fn f first caps) = some (.fn f first caps)) : Run C0 154 [(keysP l), (.fn f first caps)] (i64P (findI p l)) := by
  refine run_fn (C := C0) (c := _) [(keysP l), (.fn f first caps), undefP, undefP, undefP, undefP, undefP, undefP, undefP, undefP, undefP, undefP, undefP, undefP, undefP, undefP, undefP, undefP, undefP] Tryz.func154 rfl rfl rfl rfl ?_
  have ho := own_nil []
  refine w_seq ?_
  refine w_reg ?_
  refine w_as (i64P 0) rfl ?_
  try dsimp only [setD, List.set]
  refine w_nil ?_
  refine un_n ?_
  refine w_seq ?_
  refine w_seq ?_
  refine w_reg ?_
  refine w_mv (keysP l) rfl ?_
  refine w_lenC _ _ _ (l.length : Int) (by rw [el_46]; rfl) rfl rfl ?_
  refine w_mv (i64P 0) rfl ?_
  try dsimp only [setD, List.set]
  refine w_nil ?_
  refine un_n ?_
  refine w_block ?_
  refine w_loop (fun n g H => ∃ (i : Int) (j4 : PV) (j5 : PV) (j9 : PV) (j10 : PV) (j11 : PV) (j12 : PV) (j13 : PV) (j14 : PV) (j15 : PV) (j16 : PV) (j17 : PV) (j18 : PV), g = [(keysP l), (.fn f first caps), undefP, undefP, j4, j5, (keysP l), (i64P (l.length : Int)), (i64P i), j9, j10, j11, j12, j13, j14, j15, j16, j17, j18] ∧ Own H [] ∧ n = ((l.length : Int) - i).toNat ∧ (0 ≤ i) ∧ (i ≤ (l.length : Int)) ∧ (∀ j (hj : j < l.length), (j : Int) < i → p l[j] = false)) ⟨0, _, _, _, _, _, _, _, _, _, _, _, _, rfl, (own_nil _), rfl, (by omega), (by omega), (fun j hj hji => by omega)⟩ ?_
  rintro m2 _ H ⟨i, j4, j5, j9, j10, j11, j12, j13, j14, j15, j16, j17, j18, rfl, ho1, em2, h0, hi, hall⟩
  refine w_seq ?_
  refine w_reg ?_
  refine w_bin (boolP (decide (i < (l.length : Int)))) rfl ?_
  try dsimp only [setD, List.set]
  refine w_nil ?_
  refine un_n ?_
  refine w_seq ?_
  refine w_if (decide (i < (l.length : Int))) rfl (fun h3 => ?_) (fun h3 => ?_)
  · have h3_ := of_decide_eq_true h3
    refine w_skip ?_
    refine un_n ?_
    refine w_seq ?_
    refine w_block ?_
    refine w_seq ?_
    refine w_reg ?_
    refine w_mv (i64P i) rfl ?_
    refine w_as (i64P i) rfl ?_
    try dsimp only [setD, List.set]
    refine w_nil ?_
    refine un_n ?_
    refine w_seq ?_
    refine w_reg ?_
    refine w_mv (.fn f first caps) rfl ?_
    refine w_mv (keysP l) rfl ?_
    refine w_mv (i64P i) rfl ?_
    refine w_ia (.lptr 23 (atF keyF 1 l i 0)) (ix_lst keyF_len el_46 sz_23 (by omega) (by omega)) ?_
    try dsimp only [setD, List.set]
    refine w_ld (octP (nth l i)) (ld_lptr (ld_at keyF_len (by omega) (by omega) (by decide) (ld_one sz_23 ag_23 rfl))) ?_
    refine w_vs f first caps _ (boolP (p (nth l i))) (fun k h => by cases h) rfl hinl (hcl _ _) (hp _ (nth_mem (by omega) (by omega))) rfl (fun H => calm_s H _) ?_
    try dsimp only [setD, List.set]
    refine w_nil ?_
    refine un_n ?_
    refine w_if (p (nth l i)) rfl (fun h4 => ?_) (fun h4 => ?_)
    · refine w_seq ?_
      refine w_reg ?_
      refine w_mv (i64P i) rfl ?_
      refine w_as (i64P i) rfl ?_
      try dsimp only [setD, List.set]
      refine w_nil ?_
      refine un_n ?_
      refine w_ret ?_
      refine un_r ?_
      refine un_r ?_
      refine un_r ?_
      refine ⟨.inr rfl, [(i64P i)], [(i64P i)], rfl, rfl, ?_⟩
      refine congrArg i64P (?_ : i = (findI p l))
      first | (exfalso; omega) | (first | exact (findI_none fun j hj => hall j hj (by omega)).symm | exact (find_here (by assumption) (by assumption) (by assumption) hall).symm)
    · refine w_skip ?_
      refine un_n ?_
      refine w_reg ?_
      refine w_bin (i64P (i + 1)) (b_add rfl rfl (by omega) (by omega)) ?_
      refine w_mv (i64P (i + 1)) rfl ?_
      try dsimp only [setD, List.set]
      refine w_nil ?_
      exact un_n ⟨_, (by omega), (i + 1), _, _, _, _, _, _, _, _, _, _, _, _, rfl, (own_nil _), rfl, (by omega), (by omega), (none_next (by assumption) hall)⟩
  · have h3_ := of_decide_eq_false h3
    refine w_exit ?_
    refine un_e ?_
    refine un_e ?_
    refine un_n ?_
    refine w_seq ?_
    refine w_reg ?_
    refine w_as (i64P (-1)) rfl ?_
    try dsimp only [setD, List.set]
    refine w_nil ?_
    refine un_n ?_
    refine w_ret ?_
    refine ⟨.inr rfl, [(i64P (-1))], [(i64P (-1))], rfl, rfl, ?_⟩
    refine congrArg i64P (?_ : (-1) = (findI p l))
    first | (exfalso; omega) | (first | exact (findI_none fun j hj => hall j hj (by omega)).symm | exact (find_here (by assumption) (by assumption) (by assumption) hall).symm)
theorem run_containsF_keys (l : List (List UInt8)) (f : Nat) (first caps : List PV) (p : List UInt8 → Bool) (hl : (l.length : Int) ≤ 9223372036854775807) (hinl : C0.inl f = false) (hp : ∀ a ∈ l, Run C0 f (first ++ [octP a] ++ caps) (boolP (p a))) (hcl : ∀ H a, mapO (close H 6) (first ++ [octP a] ++ caps) = some (first ++ [octP a] ++ caps)) (hfn : ∀ H, close H 6 (.fn f first caps) = some (.fn f first caps)) : Run C0 117 [(keysP l), (.fn f first caps)] (boolP (l.any p)) := by
  refine run_fn (C := C0) (c := _) [(keysP l), (.fn f first caps), undefP, undefP, undefP, undefP, undefP, undefP, undefP] Tryz.func117 rfl rfl rfl rfl ?_
  have ho := own_nil []
  refine w_seq ?_
  refine w_reg ?_
  refine w_as (boolP false) rfl ?_
  try dsimp only [setD, List.set]
  refine w_nil ?_
  refine un_n ?_
  refine w_seq ?_
  refine w_reg ?_
  refine w_mv (keysP l) rfl ?_
  refine w_mv (.fn f first caps) rfl ?_
  refine w_cs _ (i64P (findI p l)) rfl (cl_cons (cl_keys ..) (cl_cons (hfn _) (cl_nil _))) (run_indexF_keys l f first caps p hl hinl hp hcl hfn) rfl (fun H => calm_s H _) ?_
  refine w_bin (boolP (decide ((findI p l) ≥ 0))) rfl ?_
  try dsimp only [setD, List.set]
  refine w_as (boolP (decide ((findI p l) ≥ 0))) rfl ?_
  try dsimp only [setD, List.set]
  refine w_nil ?_
  refine un_n ?_
  refine w_ret ?_
  refine ⟨.inr rfl, [(boolP (decide ((findI p l) ≥ 0)))], [(boolP (decide ((findI p l) ≥ 0)))], rfl, rfl, ?_⟩
  refine congrArg boolP (?_ : (decide ((findI p l) ≥ 0)) = (l.any p))
  first | (exfalso; omega) | (exact findI_any p l)
theorem run_indexF_ints (l : List (Int)) (f : Nat) (first caps : List PV) (p : Int → Bool) (hl : (l.length : Int) ≤ 9223372036854775807) (hinl : C0.inl f = false) (hp : ∀ a ∈ l, Run C0 f (first ++ [i64P a] ++ caps) (boolP (p a))) (hcl : ∀ H a, mapO (close H 6) (first ++ [i64P a] ++ caps) = some (first ++ [i64P a] ++ caps)) (hfn : ∀ H, close H 6 (.fn f first caps) = some (.fn f first caps)) : Run C0 155 [(intsP l), (.fn f first caps)] (i64P (findI p l)) := by
  refine run_fn (C := C0) (c := _) [(intsP l), (.fn f first caps), undefP, undefP, undefP, undefP, undefP, undefP, undefP, undefP, undefP, undefP, undefP, undefP, undefP, undefP, undefP, undefP, undefP] Tryz.func155 rfl rfl rfl rfl ?_
  have ho := own_nil []
  refine w_seq ?_
  refine w_reg ?_
  refine w_as (i64P 0) rfl ?_
  try dsimp only [setD, List.set]
  refine w_nil ?_
  refine un_n ?_
  refine w_seq ?_
  refine w_seq ?_
  refine w_reg ?_
  refine w_mv (intsP l) rfl ?_
  refine w_lenC _ _ _ (l.length : Int) (by rw [el_33]; rfl) rfl rfl ?_
  refine w_mv (i64P 0) rfl ?_
  try dsimp only [setD, List.set]
  refine w_nil ?_
  refine un_n ?_
  refine w_block ?_
  refine w_loop (fun n g H => ∃ (i : Int) (j4 : PV) (j5 : PV) (j9 : PV) (j10 : PV) (j11 : PV) (j12 : PV) (j13 : PV) (j14 : PV) (j15 : PV) (j16 : PV) (j17 : PV) (j18 : PV), g = [(intsP l), (.fn f first caps), undefP, undefP, j4, j5, (intsP l), (i64P (l.length : Int)), (i64P i), j9, j10, j11, j12, j13, j14, j15, j16, j17, j18] ∧ Own H [] ∧ n = ((l.length : Int) - i).toNat ∧ (0 ≤ i) ∧ (i ≤ (l.length : Int)) ∧ (∀ j (hj : j < l.length), (j : Int) < i → p l[j] = false)) ⟨0, _, _, _, _, _, _, _, _, _, _, _, _, rfl, (own_nil _), rfl, (by omega), (by omega), (fun j hj hji => by omega)⟩ ?_
  rintro m2 _ H ⟨i, j4, j5, j9, j10, j11, j12, j13, j14, j15, j16, j17, j18, rfl, ho1, em2, h0, hi, hall⟩
  refine w_seq ?_
  refine w_reg ?_
  refine w_bin (boolP (decide (i < (l.length : Int)))) rfl ?_
  try dsimp only [setD, List.set]
  refine w_nil ?_
  refine un_n ?_
  refine w_seq ?_
  refine w_if (decide (i < (l.length : Int))) rfl (fun h3 => ?_) (fun h3 => ?_)
  · have h3_ := of_decide_eq_true h3
    refine w_skip ?_
    refine un_n ?_
    refine w_seq ?_
    refine w_block ?_
    refine w_seq ?_
    refine w_reg ?_
    refine w_mv (i64P i) rfl ?_
    refine w_as (i64P i) rfl ?_
    try dsimp only [setD, List.set]
    refine w_nil ?_
    refine un_n ?_
    refine w_seq ?_
    refine w_reg ?_
    refine w_mv (.fn f first caps) rfl ?_
    refine w_mv (intsP l) rfl ?_
    refine w_mv (i64P i) rfl ?_
    refine w_ia (.lptr 3 (atF intF 1 l i 0)) (ix_lst intF_len el_33 sz_3 (by omega) (by omega)) ?_
    try dsimp only [setD, List.set]
    refine w_ld (i64P (nth l i)) (ld_lptr (ld_at intF_len (by omega) (by omega) (by decide) (ld_one sz_3 ag_3 rfl))) ?_
    refine w_vs f first caps _ (boolP (p (nth l i))) (fun k h => by cases h) rfl hinl (hcl _ _) (hp _ (nth_mem (by omega) (by omega))) rfl (fun H => calm_s H _) ?_
    try dsimp only [setD, List.set]
    refine w_nil ?_
    refine un_n ?_
    refine w_if (p (nth l i)) rfl (fun h4 => ?_) (fun h4 => ?_)
    · refine w_seq ?_
      refine w_reg ?_
      refine w_mv (i64P i) rfl ?_
      refine w_as (i64P i) rfl ?_
      try dsimp only [setD, List.set]
      refine w_nil ?_
      refine un_n ?_
      refine w_ret ?_
      refine un_r ?_
      refine un_r ?_
      refine un_r ?_
      refine ⟨.inr rfl, [(i64P i)], [(i64P i)], rfl, rfl, ?_⟩
      refine congrArg i64P (?_ : i = (findI p l))
      first | (exfalso; omega) | (first | exact (findI_none fun j hj => hall j hj (by omega)).symm | exact (find_here (by assumption) (by assumption) (by assumption) hall).symm)
    · refine w_skip ?_
      refine un_n ?_
      refine w_reg ?_
      refine w_bin (i64P (i + 1)) (b_add rfl rfl (by omega) (by omega)) ?_
      refine w_mv (i64P (i + 1)) rfl ?_
      try dsimp only [setD, List.set]
      refine w_nil ?_
      exact un_n ⟨_, (by omega), (i + 1), _, _, _, _, _, _, _, _, _, _, _, _, rfl, (own_nil _), rfl, (by omega), (by omega), (none_next (by assumption) hall)⟩
  · have h3_ := of_decide_eq_false h3
    refine w_exit ?_
    refine un_e ?_
    refine un_e ?_
    refine un_n ?_
    refine w_seq ?_
    refine w_reg ?_
    refine w_as (i64P (-1)) rfl ?_
    try dsimp only [setD, List.set]
    refine w_nil ?_
    refine un_n ?_
    refine w_ret ?_
    refine ⟨.inr rfl, [(i64P (-1))], [(i64P (-1))], rfl, rfl, ?_⟩
    refine congrArg i64P (?_ : (-1) = (findI p l))
    first | (exfalso; omega) | (first | exact (findI_none fun j hj => hall j hj (by omega)).symm | exact (find_here (by assumption) (by assumption) (by assumption) hall).symm)
theorem run_containsF_ints (l : List (Int)) (f : Nat) (first caps : List PV) (p : Int → Bool) (hl : (l.length : Int) ≤ 9223372036854775807) (hinl : C0.inl f = false) (hp : ∀ a ∈ l, Run C0 f (first ++ [i64P a] ++ caps) (boolP (p a))) (hcl : ∀ H a, mapO (close H 6) (first ++ [i64P a] ++ caps) = some (first ++ [i64P a] ++ caps)) (hfn : ∀ H, close H 6 (.fn f first caps) = some (.fn f first caps)) : Run C0 120 [(intsP l), (.fn f first caps)] (boolP (l.any p)) := by
  refine run_fn (C := C0) (c := _) [(intsP l), (.fn f first caps), undefP, undefP, undefP, undefP, undefP, undefP, undefP] Tryz.func120 rfl rfl rfl rfl ?_
  have ho := own_nil []
  refine w_seq ?_
  refine w_reg ?_
  refine w_as (boolP false) rfl ?_
  try dsimp only [setD, List.set]
  refine w_nil ?_
  refine un_n ?_
  refine w_seq ?_
  refine w_reg ?_
  refine w_mv (intsP l) rfl ?_
  refine w_mv (.fn f first caps) rfl ?_
  refine w_cs _ (i64P (findI p l)) rfl (cl_cons (cl_ints ..) (cl_cons (hfn _) (cl_nil _))) (run_indexF_ints l f first caps p hl hinl hp hcl hfn) rfl (fun H => calm_s H _) ?_
  refine w_bin (boolP (decide ((findI p l) ≥ 0))) rfl ?_
  try dsimp only [setD, List.set]
  refine w_as (boolP (decide ((findI p l) ≥ 0))) rfl ?_
  try dsimp only [setD, List.set]
  refine w_nil ?_
  refine un_n ?_
  refine w_ret ?_
  refine ⟨.inr rfl, [(boolP (decide ((findI p l) ≥ 0)))], [(boolP (decide ((findI p l) ≥ 0)))], rfl, rfl, ?_⟩
  refine congrArg boolP (?_ : (decide ((findI p l) ≥ 0)) = (l.any p))
  first | (exfalso; omega) | (exact findI_any p l)
theorem run_indexF_nodes (l : List (Node)) (f : Nat) (first caps : List PV) (p : Node → Bool) (hl : (l.length : Int) ≤ 9223372036854775807) (hinl : C0.inl f = false) (hp : ∀ a ∈ l, Run C0 f (first ++ [.agg (nodeCs a)] ++ caps) (boolP (p a))) (hcl : ∀ H a, mapO (close H 6) (first ++ [.agg (nodeCs a)] ++ caps) = some (first ++ [.agg (nodeCs a)] ++ caps)) (hfn : ∀ H, close H 6 (.fn f first caps) = some (.fn f first caps)) : Run C0 88 [(nodesP l), (.fn f first caps)] (i64P (findI p l)) := by
  refine run_fn (C := C0) (c := _) [(nodesP l), (.fn f first caps), undefP, undefP, undefP, undefP, undefP, undefP, undefP, undefP, undefP, undefP, undefP, undefP, undefP, undefP, undefP, undefP, undefP] Tryz.func88 rfl rfl rfl rfl ?_
  have ho := own_nil []
  refine w_seq ?_
  refine w_reg ?_
  refine w_as (i64P 0) rfl ?_
  try dsimp only [setD, List.set]
  refine w_nil ?_
  refine un_n ?_
  refine w_seq ?_
  refine w_seq ?_
  refine w_reg ?_
  refine w_mv (nodesP l) rfl ?_
  refine w_lenC _ _ _ (l.length : Int) (by rw [el_22]; rfl) rfl rfl ?_
  refine w_mv (i64P 0) rfl ?_
  try dsimp only [setD, List.set]
  refine w_nil ?_
  refine un_n ?_
  refine w_block ?_
  refine w_loop (fun n g H => ∃ (i : Int) (j4 : PV) (j5 : PV) (j9 : PV) (j10 : PV) (j11 : PV) (j12 : PV) (j13 : PV) (j14 : PV) (j15 : PV) (j16 : PV) (j17 : PV) (j18 : PV), g = [(nodesP l), (.fn f first caps), undefP, undefP, j4, j5, (nodesP l), (i64P (l.length : Int)), (i64P i), j9, j10, j11, j12, j13, j14, j15, j16, j17, j18] ∧ Own H [] ∧ n = ((l.length : Int) - i).toNat ∧ (0 ≤ i) ∧ (i ≤ (l.length : Int)) ∧ (∀ j (hj : j < l.length), (j : Int) < i → p l[j] = false)) ⟨0, _, _, _, _, _, _, _, _, _, _, _, _, rfl, (own_nil _), rfl, (by omega), (by omega), (fun j hj hji => by omega)⟩ ?_
  rintro m2 _ H ⟨i, j4, j5, j9, j10, j11, j12, j13, j14, j15, j16, j17, j18, rfl, ho1, em2, h0, hi, hall⟩
  refine w_seq ?_
  refine w_reg ?_
  refine w_bin (boolP (decide (i < (l.length : Int)))) rfl ?_
  try dsimp only [setD, List.set]
  refine w_nil ?_
  refine un_n ?_
  refine w_seq ?_
  refine w_if (decide (i < (l.length : Int))) rfl (fun h3 => ?_) (fun h3 => ?_)
  · have h3_ := of_decide_eq_true h3
    refine w_skip ?_
    refine un_n ?_
    refine w_seq ?_
    refine w_block ?_
    refine w_seq ?_
    refine w_reg ?_
    refine w_mv (i64P i) rfl ?_
    refine w_as (i64P i) rfl ?_
    try dsimp only [setD, List.set]
    refine w_nil ?_
    refine un_n ?_
    refine w_seq ?_
    refine w_reg ?_
    refine w_mv (.fn f first caps) rfl ?_
    refine w_mv (nodesP l) rfl ?_
    refine w_mv (i64P i) rfl ?_
    refine w_ia (.lptr 37 (atF nodeCs 8 l i 0)) (ix_lst nodeCs_len el_22 sz_37 (by omega) (by omega)) ?_
    try dsimp only [setD, List.set]
    refine w_ld (.agg (nodeCs (nth l i))) (ld_lptr (ld_at nodeCs_len (by omega) (by omega) (by decide) (ld_agg sz_37 ag_37 rfl (show 8 ≤ 8 by decide)))) ?_
    refine w_vs f first caps _ (boolP (p (nth l i))) (fun k h => by cases h) rfl hinl (hcl _ _) (hp _ (nth_mem (by omega) (by omega))) rfl (fun H => calm_s H _) ?_
    try dsimp only [setD, List.set]
    refine w_nil ?_
    refine un_n ?_
    refine w_if (p (nth l i)) rfl (fun h4 => ?_) (fun h4 => ?_)
    · refine w_seq ?_
      refine w_reg ?_
      refine w_mv (i64P i) rfl ?_
      refine w_as (i64P i) rfl ?_
      try dsimp only [setD, List.set]
      refine w_nil ?_
      refine un_n ?_
      refine w_ret ?_
      refine un_r ?_
      refine un_r ?_
      refine un_r ?_
      refine ⟨.inr rfl, [(i64P i)], [(i64P i)], rfl, rfl, ?_⟩
      refine congrArg i64P (?_ : i = (findI p l))
      first | (exfalso; omega) | (first | exact (findI_none fun j hj => hall j hj (by omega)).symm | exact (find_here (by assumption) (by assumption) (by assumption) hall).symm)
    · refine w_skip ?_
      refine un_n ?_
      refine w_reg ?_
      refine w_bin (i64P (i + 1)) (b_add rfl rfl (by omega) (by omega)) ?_
      refine w_mv (i64P (i + 1)) rfl ?_
      try dsimp only [setD, List.set]
      refine w_nil ?_
      exact un_n ⟨_, (by omega), (i + 1), _, _, _, _, _, _, _, _, _, _, _, _, rfl, (own_nil _), rfl, (by omega), (by omega), (none_next (by assumption) hall)⟩
  · have h3_ := of_decide_eq_false h3
    refine w_exit ?_
    refine un_e ?_
    refine un_e ?_
    refine un_n ?_
    refine w_seq ?_
    refine w_reg ?_
    refine w_as (i64P (-1)) rfl ?_
    try dsimp only [setD, List.set]
    refine w_nil ?_
    refine un_n ?_
    refine w_ret ?_
    refine ⟨.inr rfl, [(i64P (-1))], [(i64P (-1))], rfl, rfl, ?_⟩
    refine congrArg i64P (?_ : (-1) = (findI p l))
    first | (exfalso; omega) | (first | exact (findI_none fun j hj => hall j hj (by omega)).symm | exact (find_here (by assumption) (by assumption) (by assumption) hall).symm)
theorem run_containsF_nodes (l : List (Node)) (f : Nat) (first caps : List PV) (p : Node → Bool) (hl : (l.length : Int) ≤ 9223372036854775807) (hinl : C0.inl f = false) (hp : ∀ a ∈ l, Run C0 f (first ++ [.agg (nodeCs a)] ++ caps) (boolP (p a))) (hcl : ∀ H a, mapO (close H 6) (first ++ [.agg (nodeCs a)] ++ caps) = some (first ++ [.agg (nodeCs a)] ++ caps)) (hfn : ∀ H, close H 6 (.fn f first caps) = some (.fn f first caps)) : Run C0 50 [(nodesP l), (.fn f first caps)] (boolP (l.any p)) := by
  refine run_fn (C := C0) (c := _) [(nodesP l), (.fn f first caps), undefP, undefP, undefP, undefP, undefP, undefP, undefP] Tryz.func50 rfl rfl rfl rfl ?_
  have ho := own_nil []
  refine w_seq ?_
  refine w_reg ?_
  refine w_as (boolP false) rfl ?_
  try dsimp only [setD, List.set]
  refine w_nil ?_
  refine un_n ?_
  refine w_seq ?_
  refine w_reg ?_
  refine w_mv (nodesP l) rfl ?_
  refine w_mv (.fn f first caps) rfl ?_
  refine w_cs _ (i64P (findI p l)) rfl (cl_cons (cl_nodes ..) (cl_cons (hfn _) (cl_nil _))) (run_indexF_nodes l f first caps p hl hinl hp hcl hfn) rfl (fun H => calm_s H _) ?_
  refine w_bin (boolP (decide ((findI p l) ≥ 0))) rfl ?_
  try dsimp only [setD, List.set]
  refine w_as (boolP (decide ((findI p l) ≥ 0))) rfl ?_
  try dsimp only [setD, List.set]
  refine w_nil ?_
  refine un_n ?_
  refine w_ret ?_
  refine ⟨.inr rfl, [(boolP (decide ((findI p l) ≥ 0)))], [(boolP (decide ((findI p l) ≥ 0)))], rfl, rfl, ?_⟩
  refine congrArg boolP (?_ : (decide ((findI p l) ≥ 0)) = (l.any p))
  first | (exfalso; omega) | (exact findI_any p l)
theorem run_leaf_Check0 (l : Leaf) : Run C0 78 [(.agg (leafCs l))] (i64P (leafCheck l)) := by
  refine run_fn (C := C0) (c := _) [(.agg (leafCs l)), undefP, undefP, undefP, undefP, undefP, undefP, undefP, undefP, undefP, undefP, undefP, undefP, undefP, undefP, undefP, undefP, undefP, undefP, undefP, undefP, undefP, undefP, undefP, undefP, undefP, undefP, undefP, undefP, undefP, undefP, undefP, undefP, undefP] Tryz.func78 rfl rfl rfl rfl ?_
  have ho := own_nil []
  refine w_seq ?_
  refine w_reg ?_
  refine w_box ho (leafCs l) rfl (isC_leaf _) (fun _ r1 ho2 => ?_)
  refine w_as (i64P 0) rfl ?_
  try dsimp only [setD, List.set]
  refine w_nil ?_
  refine un_n ?_
  refine w_seq ?_
  refine w_reg ?_
  refine w_as (.fn 116 [] []) rfl ?_
  try dsimp only [setD, List.set]
  refine w_nil ?_
  refine un_n ?_
  refine w_seq ?_
  refine w_block ?_
  refine w_seq ?_
  refine w_reg ?_
  refine w_fa (.ptr r1 0) (fa_ptr fd_25_0 sz_23 (by decide)) ?_
  refine w_ld (octP l.enc) (ld_var ho2 0 rfl (ld_one sz_23 ag_23 rfl)) ?_
  refine w_lenC _ _ _ (l.enc.length : Int) (by rw [el_23]; rfl) rfl rfl ?_
  refine w_bin (boolP (decide ((l.enc.length : Int) = 0))) rfl ?_
  try dsimp only [setD, List.set]
  refine w_as (boolP (decide ((l.enc.length : Int) = 0))) rfl ?_
  try dsimp only [setD, List.set]
  refine w_nil ?_
  refine un_n ?_
  refine w_if (decide ((l.enc.length : Int) = 0)) rfl (fun h4 => ?_) (fun h4 => ?_)
  · have h4_ := of_decide_eq_true h4
    refine w_seq ?_
    refine w_reg ?_
    refine w_as (i64P 5) rfl ?_
    try dsimp only [setD, List.set]
    refine w_nil ?_
    refine un_n ?_
    refine w_ret ?_
    refine un_r ?_
    refine ⟨.inr rfl, [(i64P 5)], [(i64P 5)], rfl, rfl, ?_⟩
    refine congrArg i64P (?_ : 5 = (leafCheck l))
    first | (exfalso; omega) | (unfold leafCheck; (repeat' split) <;> first | rfl | omega | (simp_all; done) | (simp_all; omega))
  · have h4_ := of_decide_eq_false h4
    refine w_seq ?_
    refine w_reg ?_
    refine w_fa (.ptr r1 0) (fa_ptr fd_25_0 sz_23 (by decide)) ?_
    refine w_ld (octP l.enc) (ld_var ho2 0 rfl (ld_one sz_23 ag_23 rfl)) ?_
    refine w_fa (.ptr r1 1) (fa_ptr fd_25_1 sz_23 (by decide)) ?_
    refine w_ld (octP l.cred) (ld_var ho2 0 rfl (ld_one sz_23 ag_23 rfl)) ?_
    try dsimp only [setD, List.set]
    refine w_fa (.ptr r1 3) (fa_ptr fd_25_3 sz_23 (by decide)) ?_
    refine w_ld (octP l.parent) (ld_var ho2 0 rfl (ld_one sz_23 ag_23 rfl)) ?_
    refine w_bs ho2 [(octP l.enc), (octP l.cred), (octP l.parent)] el_46 sz_23 zp_23 (by decide) (by decide) rfl (fill_cons rfl (pc_lst ..) rfl rfl (isC_cons (isC_lst ..) (isC_nil)) rfl (fill_cons rfl (pc_lst ..) rfl rfl (isC_cons (isC_lst ..) (isC_nil)) rfl (fill_cons rfl (pc_lst ..) rfl rfl (isC_cons (isC_lst ..) (isC_nil)) rfl fill_nil))) rfl (fun _ r6 ho7 => ?_)
    refine w_mv (.fn 116 [] []) rfl ?_
    try dsimp only [setD, List.set]
    refine w_cs _ (boolP (([l.enc, l.cred, l.parent]).any long)) rfl (cl_cons (cl_own ho7 0 rfl (by decide) rfl (cl_cons (cl_oct ..) (cl_cons (cl_oct ..) (cl_cons (cl_oct ..) (cl_nil _))))) (cl_cons (cl_fn (cl_nil _) (cl_nil _)) (cl_nil _))) (run_containsF_keys ([l.enc, l.cred, l.parent]) 116 [] [] long (by first | omega | (simp; done) | (simp; omega)) rfl (fun a _ => run_leaf_Check_1 a) (fun _ _ => by first | rfl | exact cl_cons (cl_oct ..) (cl_nil _)) (fun _ => rfl)) rfl (fun H => calm_s H _) ?_
    refine w_as (boolP (([l.enc, l.cred, l.parent]).any long)) rfl ?_
    try dsimp only [setD, List.set]
    refine w_nil ?_
    refine un_n ?_
    refine w_if (([l.enc, l.cred, l.parent]).any long) rfl (fun h8 => ?_) (fun h8 => ?_)
    · refine w_seq ?_
      refine w_reg ?_
      refine w_as (i64P 4) rfl ?_
      try dsimp only [setD, List.set]
      refine w_nil ?_
      refine un_n ?_
      refine w_ret ?_
      refine un_r ?_
      refine ⟨.inr rfl, [(i64P 4)], [(i64P 4)], rfl, rfl, ?_⟩
      refine congrArg i64P (?_ : 4 = (leafCheck l))
      first | (exfalso; omega) | (unfold leafCheck; (repeat' split) <;> first | rfl | omega | (simp_all; done) | (simp_all; omega))
    · refine w_seq ?_
      refine w_reg ?_
      refine w_fa (.ptr r1 2) (fa_ptr fd_25_2 sz_3 (by decide)) ?_
      refine w_ld (i64P l.source) (ld_var ho7 1 rfl (ld_one sz_3 ag_3 rfl)) ?_
      refine w_cs _ (boolP (sourceOk l.source)) rfl (cl_cons (cl_i64 ..) (cl_nil _)) (run_leaf_source l.source) rfl (fun H => calm_s H _) ?_
      refine w_un (boolP (!(sourceOk l.source))) rfl ?_
      try dsimp only [setD, List.set]
      refine w_as (boolP (!(sourceOk l.source))) rfl ?_
      try dsimp only [setD, List.set]
      refine w_nil ?_
      refine un_n ?_
      refine w_if (!(sourceOk l.source)) rfl (fun h9 => ?_) (fun h9 => ?_)
      · have h9' := nb1 h9
        refine w_seq ?_
        refine w_reg ?_
        refine w_as (i64P 7) rfl ?_
        try dsimp only [setD, List.set]
        refine w_nil ?_
        refine un_n ?_
        refine w_ret ?_
        refine un_r ?_
        refine ⟨.inr rfl, [(i64P 7)], [(i64P 7)], rfl, rfl, ?_⟩
        refine congrArg i64P (?_ : 7 = (leafCheck l))
        first | (exfalso; omega) | (unfold leafCheck; (repeat' split) <;> first | rfl | omega | (simp_all; done) | (simp_all; omega))
      · have h9' := nb0 h9
        refine w_seq ?_
        refine w_reg ?_
        refine w_fa (.ptr r1 2) (fa_ptr fd_25_2 sz_3 (by decide)) ?_
        refine w_ld (i64P l.source) (ld_var ho7 1 rfl (ld_one sz_3 ag_3 rfl)) ?_
        refine w_bin (boolP (!(decide (l.source = 3)))) rfl ?_
        refine w_mv (boolP (!(decide (l.source = 3)))) rfl ?_
        try dsimp only [setD, List.set]
        rcases Bool.eq_false_or_eq_true (!(decide (l.source = 3))) with h10 | h10
        · have h10' := nb1 h10
          have h10'_ := of_decide_eq_false h10'
          refine w_gd (dd := 28) rfl rfl h10 ?_
          refine w_fa (.ptr r1 3) (fa_ptr fd_25_3 sz_23 (by decide)) ?_
          refine w_gd (dd := 28) rfl rfl h10 ?_
          refine w_ld (octP l.parent) (ld_var ho7 1 rfl (ld_one sz_23 ag_23 rfl)) ?_
          refine w_gd (dd := 28) rfl rfl h10 ?_
          refine w_lenC _ _ _ (l.parent.length : Int) (by rw [el_23]; rfl) rfl rfl ?_
          refine w_gd (dd := 28) rfl rfl h10 ?_
          refine w_bin (boolP (decide ((l.parent.length : Int) > 0))) rfl ?_
          try dsimp only [setD, List.set]
          refine w_pk1 (boolP (decide ((l.parent.length : Int) > 0))) rfl h10 rfl ?_
          refine w_as (boolP (decide ((l.parent.length : Int) > 0))) rfl ?_
          try dsimp only [setD, List.set]
          refine w_nil ?_
          refine un_n ?_
          refine w_if (decide ((l.parent.length : Int) > 0)) rfl (fun h11 => ?_) (fun h11 => ?_)
          · have h11_ := of_decide_eq_true h11
            refine w_seq ?_
            refine w_reg ?_
            refine w_as (i64P 2) rfl ?_
            try dsimp only [setD, List.set]
            refine w_nil ?_
            refine un_n ?_
            refine w_ret ?_
            refine un_r ?_
            refine ⟨.inr rfl, [(i64P 2)], [(i64P 2)], rfl, rfl, ?_⟩
            refine congrArg i64P (?_ : 2 = (leafCheck l))
            first | (exfalso; omega) | (unfold leafCheck; (repeat' split) <;> first | rfl | omega | (simp_all; done) | (simp_all; omega))
          · have h11_ := of_decide_eq_false h11
            refine w_skip ?_
            refine un_n ?_
            refine w_seq ?_
            refine w_reg ?_
            refine w_as (i64P 0) rfl ?_
            try dsimp only [setD, List.set]
            refine w_nil ?_
            refine un_n ?_
            refine w_ret ?_
            refine ⟨.inr rfl, [(i64P 0)], [(i64P 0)], rfl, rfl, ?_⟩
            refine congrArg i64P (?_ : 0 = (leafCheck l))
            first | (exfalso; omega) | (unfold leafCheck; (repeat' split) <;> first | rfl | omega | (simp_all; done) | (simp_all; omega))
        · have h10' := nb0 h10
          have h10'_ := of_decide_eq_true h10'
          refine w_gn (dd := 28) rfl rfl h10 ?_
          refine w_gn (dd := 28) rfl rfl h10 ?_
          refine w_gn (dd := 28) rfl rfl h10 ?_
          refine w_gn (dd := 28) rfl rfl h10 ?_
          try dsimp only [setD, List.set]
          refine w_pk0 (boolP false) rfl h10 rfl ?_
          refine w_as (boolP false) rfl ?_
          try dsimp only [setD, List.set]
          refine w_nil ?_
          refine un_n ?_
          refine w_if0 rfl rfl ?_
          refine w_skip ?_
          refine un_n ?_
          refine w_seq ?_
          refine w_reg ?_
          refine w_as (i64P 0) rfl ?_
          try dsimp only [setD, List.set]
          refine w_nil ?_
          refine un_n ?_
          refine w_ret ?_
          refine ⟨.inr rfl, [(i64P 0)], [(i64P 0)], rfl, rfl, ?_⟩
          refine congrArg i64P (?_ : 0 = (leafCheck l))
          first | (exfalso; omega) | (unfold leafCheck; (repeat' split) <;> first | rfl | omega | (simp_all; done) | (simp_all; omega))
end Go.Proofs.YtkkdkhacligaoaaGreatDoor.law
