/- Walks: what functions of the program come to, as the pure interpreter runs them. -/
import Derived.Test.YtkkdkhacligaoaaGreatDoorW2
set_option linter.unusedSimpArgs false
set_option linter.unusedVariables false
namespace Go.Proofs.YtkkdkhacligaoaaGreatDoor.law
open Go.PI
theorem ne_empty {e n : Nat} {cs : List PV} (h : 0 < n) : isEmpty [lstN e n cs] = false := by
  have hn : ¬ n = 0 := by omega
  unfold lstN
  rw [if_neg hn]
  cases e <;> cases n <;> first | (exact absurd rfl hn) | rfl
theorem b_nil {t e n : Nat} {cs : List PV} (he : (elemP C0 t).isSome = true) (h : 0 < n) : binP C0 .eql t (lstN e n cs) nilS = some (boolP false) := by
  have hn : ¬ n = 0 := by omega
  unfold lstN
  rw [if_neg hn]
  show (if (elemP C0 t).isSome then (nilness (.lst e n cs false)).map boolP else none) = _
  rw [if_pos he]
  show (if n = 0 then none else some false).map boolP = _
  rw [if_neg hn]
  rfl
theorem ext_clone_nodes {t : List Node} (h : 0 < t.length) : C0.ext 80 [nodesP t] = none := by
  show (if isEmpty [nodesP t] = true then some _ else none) = none
  rw [show isEmpty [nodesP t] = false from ne_empty h]
  rfl
theorem run_clone1_nodes (t : List Node) (h : t.length ≤ 100000000) (hp : 0 < t.length) : Run C0 80 [(nodesP t)] (ownNodes t) := by
  refine run_fn (C := C0) (c := _) [(nodesP t), undefP, undefP, undefP, undefP, undefP, undefP, undefP] Tryz.func80 rfl rfl (ext_clone_nodes hp) rfl ?_
  have ho := own_nil []
  refine w_seq ?_
  refine w_reg ?_
  refine w_as nilS rfl ?_
  try dsimp only [setD, List.set]
  refine w_nil ?_
  refine un_n ?_
  refine w_seq ?_
  refine w_seq ?_
  refine w_reg ?_
  refine w_mv (nodesP t) rfl ?_
  refine w_bin (boolP false) (b_nil (by rw [el_22]; rfl) (by first | omega | (simp; omega) | (simp [sortL]; omega))) ?_
  try dsimp only [setD, List.set]
  refine w_nil ?_
  refine un_n ?_
  refine w_if0 rfl rfl ?_
  refine w_skip ?_
  refine un_n ?_
  refine w_seq ?_
  refine w_reg ?_
  refine w_bs ho [] el_22 sz_37 zp_37 (by decide) (by decide) rfl fill_nil rfl (fun _ r2 ho3 => ?_)
  refine w_mv (nodesP t) rfl ?_
  refine w_app ho3 0 (l0 := ([] : List Node)) (l' := t) nodeCs_len [] rfl rfl rfl el_22 el_22 sz_37 by_37 zp_37 (by decide) rfl (sl_flat _ _) (by first | omega | (simp; omega) | (simp [sortL]; omega)) (by first | omega | (simp; omega) | (simp [sortL]; omega)) kn_22 rfl (fun _ p5 ho6 => ?_)
  refine w_as p5 rfl ?_
  try dsimp only [setD, List.set]
  refine w_nil ?_
  refine un_n ?_
  refine w_ret ?_
  refine ⟨.inr rfl, [p5], [(.own 37 (0 + t.length) ((([] : List Node) ++ t).flatMap nodeCs))], rfl, (ca_cons (cr_own ho6 0 rfl (by decide) (flat_len' nodeCs_len (by first | assumption | (simp; done) | (simp [*]; done) | (simp; omega))) el_22 sz_37 (offs_nil _) (hasE_nodeCs (by decide) (by decide) (by decide) _) (cl_flat' _ (fun _ => cl_nodeCs _ _) _)) ca_nil), ?_⟩
  first | (exfalso; omega) | (simp [tupOf, ownNodes])
theorem run_clone_nodes (t : List Node) (h : t.length ≤ 100000000) : Run C0 80 [nodesP t] (ownNodes t) := by
  cases t with
  | nil => exact run_ext rfl
  | cons a t => exact run_clone1_nodes (a :: t) h (by simp)
theorem ext_clone_ints {t : List Int} (h : 0 < t.length) : C0.ext 83 [intsP t] = none := by
  show (if isEmpty [intsP t] = true then some _ else none) = none
  rw [show isEmpty [intsP t] = false from ne_empty h]
  rfl
theorem run_clone1_ints (t : List Int) (h : t.length ≤ 1000000000) (hp : 0 < t.length) : Run C0 83 [(intsP t)] (ownInts t) := by
  refine run_fn (C := C0) (c := _) [(intsP t), undefP, undefP, undefP, undefP, undefP, undefP, undefP] Tryz.func83 rfl rfl (ext_clone_ints hp) rfl ?_
  have ho := own_nil []
  refine w_seq ?_
  refine w_reg ?_
  refine w_as nilS rfl ?_
  try dsimp only [setD, List.set]
  refine w_nil ?_
  refine un_n ?_
  refine w_seq ?_
  refine w_seq ?_
  refine w_reg ?_
  refine w_mv (intsP t) rfl ?_
  refine w_bin (boolP false) (b_nil (by rw [el_33]; rfl) (by first | omega | (simp; omega) | (simp [sortL]; omega))) ?_
  try dsimp only [setD, List.set]
  refine w_nil ?_
  refine un_n ?_
  refine w_if0 rfl rfl ?_
  refine w_skip ?_
  refine un_n ?_
  refine w_seq ?_
  refine w_reg ?_
  refine w_bs ho [] el_33 sz_3 zp_3 (by decide) (by decide) rfl fill_nil rfl (fun _ r2 ho3 => ?_)
  refine w_mv (intsP t) rfl ?_
  refine w_app ho3 0 (l0 := ([] : List Int)) (l' := t) intF_len [] rfl rfl rfl el_33 el_33 sz_3 by_3 zp_3 (by decide) rfl (sl_flat _ _) (by first | omega | (simp; omega) | (simp [sortL]; omega)) (by first | omega | (simp; omega) | (simp [sortL]; omega)) kn_33 rfl (fun _ p5 ho6 => ?_)
  refine w_as p5 rfl ?_
  try dsimp only [setD, List.set]
  refine w_nil ?_
  refine un_n ?_
  refine w_ret ?_
  refine ⟨.inr rfl, [p5], [(.own 3 (0 + t.length) ((([] : List Int) ++ t).flatMap intF))], rfl, (ca_cons (cr_own ho6 0 rfl (by decide) (flat_len' intF_len (by first | assumption | (simp; done) | (simp [*]; done) | (simp; omega))) el_33 sz_3 (offs_nil _) (hasE_intF _ _) (cl_flat' _ (fun _ => cl_intF _ _) _)) ca_nil), ?_⟩
  first | (exfalso; omega) | (simp [tupOf, ownInts])
theorem run_clone_ints (t : List Int) (h : t.length ≤ 1000000000) : Run C0 83 [intsP t] (ownInts t) := by
  cases t with
  | nil => exact run_ext rfl
  | cons a t => exact run_clone1_ints (a :: t) h (by simp)
theorem ext_clone_oct {t : List UInt8} (h : 0 < t.length) : C0.ext 182 [octP t] = none := by
  show (if isEmpty [octP t] = true then some _ else none) = none
  rw [show isEmpty [octP t] = false from ne_empty h]
  rfl
theorem run_clone1_oct (t : List UInt8) (h : t.length ≤ 10000000000) (hp : 0 < t.length) : Run C0 182 [(octP t)] (ownOct t) := by
  refine run_fn (C := C0) (c := _) [(octP t), undefP, undefP, undefP, undefP, undefP, undefP, undefP] Tryz.func182 rfl rfl (ext_clone_oct hp) rfl ?_
  have ho := own_nil []
  refine w_seq ?_
  refine w_reg ?_
  refine w_as nilS rfl ?_
  try dsimp only [setD, List.set]
  refine w_nil ?_
  refine un_n ?_
  refine w_seq ?_
  refine w_seq ?_
  refine w_reg ?_
  refine w_mv (octP t) rfl ?_
  refine w_bin (boolP false) (b_nil (by rw [el_23]; rfl) (by first | omega | (simp; omega) | (simp [sortL]; omega))) ?_
  try dsimp only [setD, List.set]
  refine w_nil ?_
  refine un_n ?_
  refine w_if0 rfl rfl ?_
  refine w_skip ?_
  refine un_n ?_
  refine w_seq ?_
  refine w_reg ?_
  refine w_bs ho [] el_23 sz_5 zp_5 (by decide) (by decide) rfl fill_nil rfl (fun _ r2 ho3 => ?_)
  refine w_mv (octP t) rfl ?_
  refine w_app ho3 0 (l0 := ([] : List UInt8)) (l' := t) octF_len [] rfl rfl rfl el_23 el_23 sz_5 by_5 zp_5 (by decide) rfl (sl_flat _ _) (by first | omega | (simp; omega) | (simp [sortL]; omega)) (by first | omega | (simp; omega) | (simp [sortL]; omega)) kn_23 rfl (fun _ p5 ho6 => ?_)
  refine w_as p5 rfl ?_
  try dsimp only [setD, List.set]
  refine w_nil ?_
  refine un_n ?_
  refine w_ret ?_
  refine ⟨.inr rfl, [p5], [(.own 5 (0 + t.length) ((([] : List UInt8) ++ t).flatMap octF))], rfl, (ca_cons (cr_own ho6 0 rfl (by decide) (flat_len' octF_len (by first | assumption | (simp; done) | (simp [*]; done) | (simp; omega))) el_23 sz_5 (offs_nil _) (hasE_octF _ _) (cl_flat' _ (fun _ => cl_octF _ _) _)) ca_nil), ?_⟩
  first | (exfalso; omega) | (simp [tupOf, ownOct])
theorem run_clone_oct (t : List UInt8) (h : t.length ≤ 10000000000) : Run C0 182 [octP t] (ownOct t) := by
  cases t with
  | nil => exact run_ext rfl
  | cons a t => exact run_clone1_oct (a :: t) h (by simp)
theorem take_next {α : Type} [Inhabited α] {l c : List α} {i : Int} (h0 : 0 ≤ i) (h1 : i < (l.length : Int)) (hc : c = l.take i.toNat) : c ++ [nth l i] = l.take (i + 1).toNat := by
  have e : (i + 1).toNat = i.toNat + 1 := by omega
  have hl : i.toNat < l.length := by omega
  rw [e, List.take_succ_eq_append_getElem hl, hc]
  simp [nth, hl]
theorem run_thin (l : List Int) (h : l.length ≤ 100) : Run C0 82 [(intsP l)] (ownInts (thinL l)) := by
  refine run_fn (C := C0) (c := _) [(intsP l), undefP, undefP, undefP, undefP, undefP, undefP] Tryz.func82 rfl rfl rfl rfl ?_
  have ho := own_nil []
  refine w_seq ?_
  refine w_reg ?_
  refine w_as nilS rfl ?_
  try dsimp only [setD, List.set]
  refine w_nil ?_
  refine un_n ?_
  refine w_seq ?_
  refine w_reg ?_
  refine w_mv (intsP l) rfl ?_
  try dsimp only [setD, List.set]
  refine w_inl [(intsP l), undefP, undefP, undefP] rfl rfl rfl Tryz.func124 rfl rfl rfl ?_
  refine w_seq ?_
  refine w_reg ?_
  refine w_box ho [(intsP l)] (pc_lst ..) (isC_cons (isC_lst ..) (isC_nil)) (fun _ r1 ho2 => ?_)
  refine w_as (.s .nilFunc) rfl ?_
  try dsimp only [setD, List.set]
  refine w_nil ?_
  refine un_n ?_
  refine w_seq ?_
  refine w_reg ?_
  refine w_mf (.fn 157 [] [(.ptr r1 0)]) rfl ?_
  refine w_as (.fn 157 [] [(.ptr r1 0)]) rfl ?_
  try dsimp only [setD, List.set]
  refine w_nil ?_
  refine un_n ?_
  refine w_ret ?_
  refine ⟨.inr rfl, [(.fn 157 [] [(.ptr r1 0)])], rfl, ?_⟩
  try dsimp only [setD, List.set]
  refine w_inl [(.fn 157 [] [(.ptr r1 0)]), undefP, undefP, undefP, undefP, undefP, undefP, undefP, undefP] rfl rfl rfl Tryz.func123 rfl rfl rfl ?_
  refine w_seq ?_
  refine w_reg ?_
  refine w_as nilS rfl ?_
  try dsimp only [setD, List.set]
  refine w_nil ?_
  refine un_n ?_
  refine w_seq ?_
  refine w_reg ?_
  refine w_mv (.fn 157 [] [(.ptr r1 0)]) rfl ?_
  try dsimp only [setD, List.set]
  refine w_inl [(.fn 157 [] [(.ptr r1 0)]), undefP, undefP, undefP, undefP] rfl rfl rfl Tryz.func81 rfl rfl rfl ?_
  refine w_seq ?_
  refine w_reg ?_
  refine w_as nilS rfl ?_
  try dsimp only [setD, List.set]
  refine w_nil ?_
  refine un_n ?_
  refine w_seq ?_
  refine w_reg ?_
  refine w_mv (.fn 157 [] [(.ptr r1 0)]) rfl ?_
  try dsimp only [setD, List.set]
  refine w_inl [nilS, (.fn 157 [] [(.ptr r1 0)]), undefP, undefP, undefP, undefP, undefP, undefP, undefP, undefP, undefP, undefP, undefP] rfl rfl rfl Tryz.func121 rfl rfl rfl ?_
  refine w_seq ?_
  refine w_reg ?_
  refine w_box ho2 [nilS] rfl (isC_cons rfl (isC_nil)) (fun _ r4 ho5 => ?_)
  refine w_as nilS rfl ?_
  try dsimp only [setD, List.set]
  refine w_nil ?_
  refine un_n ?_
  refine w_seq ?_
  refine w_seq ?_
  refine w_reg ?_
  refine w_mv (.fn 157 [] [(.ptr r1 0)]) rfl ?_
  try dsimp only [setD, List.set]
  refine w_nil ?_
  refine un_n ?_
  refine w_block ?_
  refine w_range ho5 (fun y => [y, (.ptr r1 0), undefP, undefP, undefP, undefP, undefP, undefP, undefP, undefP, undefP, undefP, undefP, undefP, undefP, undefP]) rfl rfl Tryz.func157 rfl rfl (fun _ => rfl) (fun _ r7 as9 bo10 eas9 ebo10 ho8 => ?_)
  refine w_seq ?_
  refine w_reg ?_
  refine w_ld (intsP l) (ld_var ho8 2 rfl (ld_one sz_33 ag_33 rfl)) ?_
  refine w_lenC _ _ _ (l.length : Int) (by rw [el_33]; rfl) rfl rfl ?_
  refine w_mv (i64P 0) rfl ?_
  try dsimp only [setD, List.set]
  refine w_nil ?_
  refine un_n ?_
  refine w_block ?_
  have ho12 := ho8.nilS 3 1
  refine w_loop (fun n g H => ∃ (i : Int) (j4 : PV) (j8 : PV) (j9 : PV) (j10 : PV) (j11 : PV) (j12 : PV) (j13 : PV) (j14 : PV) (j15 : PV) (p : PV) (c : List Int), g = [(.yld r7), (.ptr r1 0), undefP, undefP, j4, (intsP l), (i64P (l.length : Int)), (i64P i), j8, j9, j10, j11, j12, j13, j14, j15] ∧ Own H [(p, .cells 3 (c.flatMap intF) (some 1) false), ((.yld r7), .loop .ready none [nilS, (.fn 157 [] [(.ptr r1 0)]), (.ptr r4 0), undefP, nilS, undefP, (.fn 157 [] [(.ptr r1 0)]), undefP, undefP, undefP, undefP, undefP, undefP] [7] as9 bo10), ((.ptr r4 0), .cells 33 [p] none false), ((.ptr r1 0), .cells 33 [(intsP l)] none false)] ∧ n = ((l.length : Int) - i).toNat ∧ (0 ≤ i) ∧ (i ≤ (l.length : Int)) ∧ (c = l.take i.toNat)) ⟨0, _, _, _, _, _, _, _, _, _, nilS, ([] : List Int), rfl, ho12, rfl, (by omega), (by omega), rfl⟩ ?_
  rintro m15 _ H ⟨i, j4, j8, j9, j10, j11, j12, j13, j14, j15, p, c, rfl, ho14, em15, hi0, hi1, hc⟩
  refine w_seq ?_
  refine w_reg ?_
  refine w_bin (boolP (decide (i < (l.length : Int)))) rfl ?_
  try dsimp only [setD, List.set]
  refine w_nil ?_
  refine un_n ?_
  refine w_seq ?_
  refine w_if (decide (i < (l.length : Int))) rfl (fun h16 => ?_) (fun h16 => ?_)
  · have h16_ := of_decide_eq_true h16
    have hcl : c.length ≤ 100 := by rw [hc, List.length_take]; omega
    refine w_skip ?_
    refine un_n ?_
    refine w_seq ?_
    refine w_block ?_
    refine w_seq ?_
    refine w_reg ?_
    refine w_ia (.lptr 3 (atF intF 1 l i 0)) (ix_lst intF_len el_33 sz_3 (by omega) (by omega)) ?_
    refine w_ld (i64P (nth l i)) (ld_lptr (ld_at intF_len (by omega) (by omega) (by decide) (ld_one sz_3 ag_3 rfl))) ?_
    refine w_as (i64P (nth l i)) rfl ?_
    try dsimp only [setD, List.set]
    refine w_nil ?_
    refine un_n ?_
    refine w_seq ?_
    refine w_reg ?_
    refine w_mv (.yld r7) rfl ?_
    refine w_mv (i64P (nth l i)) rfl ?_
    try dsimp only [setD, List.set]
    refine w_yield ho14 1 [nilS, (.fn 157 [] [(.ptr r1 0)]), (.ptr r4 0), undefP, nilS, undefP, (.fn 157 [] [(.ptr r1 0)]), (i64P (nth l i)), undefP, undefP, undefP, undefP, undefP] (fun k h => by cases h) rfl rfl rfl rfl ?_
    refine w_code eas9 ?_
    refine w_reg ?_
    refine w_as (i64P (nth l i)) rfl ?_
    try dsimp only [setD, List.set]
    refine w_nil ?_
    refine ⟨rfl, 1, _, _, _, _, _, _, ho14, rfl, fun _ ho17 => ?_⟩
    try dsimp only [List.set] at ho17
    refine w_code ebo10 ?_
    refine w_block ?_
    refine w_reg ?_
    refine w_ld p (ld_var ho17 2 rfl (ld_one sz_33 ag_33 rfl)) ?_
    refine w_mv (i64P (nth l i)) rfl ?_
    refine w_bs ho17 [(i64P (nth l i))] el_33 sz_3 zp_3 (by decide) (by decide) rfl (fill_cons rfl rfl rfl rfl (isC_cons rfl (isC_nil)) rfl fill_nil) rfl (fun _ r19 ho20 => ?_)
    refine w_app ho20 1 (l0 := c) (l' := ([(nth l i)])) intF_len [((.row r19 0 1), .cells 3 [(i64P (nth l i))] (some 1) false), ((.yld r7), .loop .busy none [nilS, (.fn 157 [] [(.ptr r1 0)]), (.ptr r4 0), undefP, nilS, undefP, (.fn 157 [] [(.ptr r1 0)]), undefP, undefP, undefP, undefP, undefP, undefP] [7] as9 bo10), ((.ptr r4 0), .cells 33 [p] none false), ((.ptr r1 0), .cells 33 [(intsP l)] none false)] rfl rfl rfl el_33 el_33 sz_3 by_3 zp_3 (by decide) rfl (sl_ex (sl_own ho20 0 rfl (by decide) rfl)) (by first | omega | (simp; omega) | (simp [sortL]; omega)) (by first | omega | (simp; omega) | (simp [sortL]; omega)) kn_33 rfl (fun _ p22 ho23 => ?_)
    try dsimp only [setD, List.set]
    refine w_stv ho23 3 p22 [p22] [(p22, .cells 3 ((c ++ [(nth l i)]).flatMap intF) (some 1) false), ((.row r19 0 1), .cells 3 [(i64P (nth l i))] (some 1) false), ((.yld r7), .loop .busy none [nilS, (.fn 157 [] [(.ptr r1 0)]), (.ptr r4 0), undefP, nilS, undefP, (.fn 157 [] [(.ptr r1 0)]), undefP, undefP, undefP, undefP, undefP, undefP] [7] as9 bo10), ((.ptr r4 0), .cells 33 [p22] none false), ((.ptr r1 0), .cells 33 [(intsP l)] none false)] rfl rfl rfl sz_33 (pc_own ho23 0 rfl) rfl (by decide) (isC_cons (isC_own ho23 0 rfl) isC_nil) (show 1 ≤ 1 by decide) rfl rfl (fun _ ho24 => ?_)
    refine w_nil ?_
    refine ⟨2, _, _, _, _, _, _, _, ho24, rfl, fun _ ho25 => ?_⟩
    replace ho25 : Own _ [(p22, .cells 3 ((c ++ [(nth l i)]).flatMap intF) (some 1) false), ((.row r19 0 1), .cells 3 [(i64P (nth l i))] (some 1) false), ((.yld r7), .loop .ready none [nilS, (.fn 157 [] [(.ptr r1 0)]), (.ptr r4 0), undefP, nilS, undefP, (.fn 157 [] [(.ptr r1 0)]), undefP, undefP, undefP, undefP, undefP, undefP] [7] as9 bo10), ((.ptr r4 0), .cells 33 [p22] none false), ((.ptr r1 0), .cells 33 [(intsP l)] none false)] := ho25
    refine w_un (boolP false) rfl ?_
    try dsimp only [setD, List.set]
    refine w_nil ?_
    refine un_n ?_
    refine w_if0 rfl rfl ?_
    refine w_skip ?_
    refine un_n ?_
    refine w_reg ?_
    refine w_bin (i64P (i + 1)) (b_add rfl rfl (by omega) (by omega)) ?_
    refine w_mv (i64P (i + 1)) rfl ?_
    try dsimp only [setD, List.set]
    refine w_nil ?_
    exact un_n ⟨_, (by omega), (i + 1), _, _, _, _, _, _, _, _, _, p22, (c ++ [(nth l i)]), rfl, (ho25.sub [0, 2, 3, 4] (by decide) rfl), rfl, (by omega), (by omega), (take_next hi0 (by omega) hc)⟩
  · have h16_ := of_decide_eq_false h16
    have hcl : c = l := by rw [hc, List.take_of_length_le (by omega)]
    have hcl2 : c.length ≤ 100 := by rw [hcl]; exact h
    refine w_exit ?_
    refine un_e ?_
    refine un_e ?_
    refine ⟨.inl rfl, ⟨[], rfl⟩, 1, _, _, _, _, _, _, _, _, ho14, rfl, (by decide), rfl, fun _ ho26 => ?_⟩
    try dsimp only [List.eraseIdx] at ho26
    refine un_n ?_
    refine w_seq ?_
    refine w_reg ?_
    refine w_ld p (ld_var ho26 1 rfl (ld_one sz_33 ag_33 rfl)) ?_
    refine w_as p rfl ?_
    try dsimp only [setD, List.set]
    refine w_nil ?_
    refine un_n ?_
    refine w_ret ?_
    refine ⟨.inr rfl, [p], rfl, ?_⟩
    refine w_as p rfl ?_
    try dsimp only [setD, List.set]
    refine w_nil ?_
    refine un_n ?_
    refine w_ret ?_
    refine ⟨.inr rfl, [p], rfl, ?_⟩
    refine w_as p rfl ?_
    try dsimp only [setD, List.set]
    refine w_nil ?_
    refine un_n ?_
    refine w_seq ?_
    refine w_reg ?_
    refine w_mv p rfl ?_
    refine w_sort ho26 0 [(p, .cells 3 ((sortL c).flatMap intF) (some 1) false), ((.ptr r4 0), .cells 33 [p] none false), ((.ptr r1 0), .cells 33 [(intsP l)] none false)] rfl (by first | omega | (simp; omega) | (simp [sortL]; omega)) rfl rfl rfl (fun _ ho27 => ?_)
    try dsimp only [setD, List.set]
    refine w_nil ?_
    refine un_n ?_
    refine w_seq ?_
    refine w_reg ?_
    refine w_mv p rfl ?_
    refine w_as p rfl ?_
    try dsimp only [setD, List.set]
    refine w_nil ?_
    refine un_n ?_
    refine w_ret ?_
    refine ⟨.inr rfl, [p], rfl, ?_⟩
    refine w_comp ho27 0 (zs := (sortL c)) rfl (by first | omega | (simp; omega) | (simp [sortL]; omega)) rfl rfl (fun _ p29 ho28 hp30 => ?_)
    try dsimp only [List.eraseIdx] at ho28
    refine w_as p29 rfl ?_
    try dsimp only [setD, List.set]
    refine w_nil ?_
    refine un_n ?_
    refine w_ret ?_
    refine ⟨.inr rfl, [p29], [(.own 3 ((Lib.compact (sortL c)).length) ((Lib.compact (sortL c)).flatMap intF))], rfl, (ca_cons (cr_pre hp30 el_33 sz_3 (offs_nil _) (hasE_intF _ _) (cl_flat' _ (fun _ => cl_intF _ _) _)) ca_nil), ?_⟩
    first | (exfalso; omega) | (rw [hcl]; rfl)
end Go.Proofs.YtkkdkhacligaoaaGreatDoor.law
